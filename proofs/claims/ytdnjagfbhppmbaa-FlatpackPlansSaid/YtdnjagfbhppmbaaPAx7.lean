-- Written by a program of this session out of the translation, over functions proved by hand.
import Derived.Test.YtdnjagfbhppmbaaPAx0
namespace Go.Proofs.Ytdnjagfbhppmbaa.PA
open Go.RowKit Go.Proofs.YtdnjagfbhppmbaaW.PrintWords Go.Proofs.YtdnjagfbhppmbaaW.PrintLast Go.Proofs.YtdnjagfbhppmbaaW.PrintMore
attribute [local go_sem] max2_int min2_int max_two min_two max_three min_three max_four min_four   -- for this text's walks alone
set_option linter.unusedVariables false
set_option linter.unusedSimpArgs false

/-! ### gangsawref25_part: function 36 -/
mutual
def gangsawref25_part.l0 : Nat → List (S59) → List (List Int) → List (S36) → Int → Int → Int → Int → Int → Int → Int → Option ((List (S59)))
  | 0, _, _, _, _, _, _, _, _, _, _ => none
  | k + 1, x0, x1, x2, x3, x4, x5, x6, x7, x17, x18 => if x18 < (x2.length : Int) then (if 0 ≤ x18 then (if ((rd_T36 x2 x18).f1.f0) = x6 then (if ((rd_T36 x2 x18).f1.f1) = x7 then (if ((rd_T36 x2 x18).f2) = x17 then (if x0.length < 2199023255552 then (some (x0 ++ [(⟨1, (rd_T36 x2 x18).f0, 0, 0, 0, 0, 0⟩ : S59)])) else (none)) else (gangsawref25_part.l0 k x0 x1 x2 x3 x4 x5 x6 x7 x17 (wrap64 (x18 + 1)))) else (gangsawref25_part.l0 k x0 x1 x2 x3 x4 x5 x6 x7 x17 (wrap64 (x18 + 1)))) else (gangsawref25_part.l0 k x0 x1 x2 x3 x4 x5 x6 x7 x17 (wrap64 (x18 + 1)))) else (none)) else (gangsawref25_part.l1 k x0 x1 x2 x3 x4 x5 x6 x7 x17 (x0.length : Int) 1)
def gangsawref25_part.l1 : Nat → List (S59) → List (List Int) → List (S36) → Int → Int → Int → Int → Int → Int → Int → Int → Option ((List (S59)))
  | 0, _, _, _, _, _, _, _, _, _, _, _ => none
  | k + 1, x0, x1, x2, x3, x4, x5, x6, x7, x17, x19, x20 => if (wrap64 (x20 + x3)) < x6 then (if 0 ≤ x20 then (if x20 < (x1.length : Int) then (if 0 ≤ x7 then (if x7 < ((rd_L5 x1 x20).length : Int) then (if 0 ≤ (wrap64 ((wrap64 (x6 - x20)) - x3)) then (if (wrap64 ((wrap64 (x6 - x20)) - x3)) < (x1.length : Int) then (if x7 < ((rd_L5 x1 (wrap64 ((wrap64 (x6 - x20)) - x3))).length : Int) then (if (wrap64 ((rd (rd_L5 x1 x20) x7) + (rd (rd_L5 x1 (wrap64 ((wrap64 (x6 - x20)) - x3))) x7))) = x17 then (if x0.length < 2199023255552 then ((gangsawref25_part.f k (x0 ++ [(⟨3, (⟨#[]⟩ : ByteArray), 0, wrap64 (x4 + x20), x3, wrap64 (x19 + 1), 0⟩ : S59)]) x1 x2 x3 x4 x5 x20 x7).bind fun t214 => (if 0 ≤ x19 then (if x19 < (t214.length : Int) then ((gangsawref25_part.f k (t214.set (x19 : Int).toNat (⟨(rd_T59 t214 x19).f0, (rd_T59 t214 x19).f1, (rd_T59 t214 x19).f2, (rd_T59 t214 x19).f3, (rd_T59 t214 x19).f4, (rd_T59 t214 x19).f5, (t214.length : Int)⟩ : S59)) x1 x2 x3 (wrap64 ((wrap64 (x4 + x20)) + x3)) x5 (wrap64 ((wrap64 (x6 - x20)) - x3)) x7).bind fun t218 => (some t218)) else (none)) else (none))) else (none)) else (gangsawref25_part.l1 k x0 x1 x2 x3 x4 x5 x6 x7 x17 x19 (wrap64 (x20 + 1)))) else (none)) else (none)) else (none)) else (none)) else (none)) else (none)) else (none)) else (gangsawref25_part.l2 k x0 x1 x2 x3 x4 x5 x6 x7 x17 x19 1)
def gangsawref25_part.l2 : Nat → List (S59) → List (List Int) → List (S36) → Int → Int → Int → Int → Int → Int → Int → Int → Option ((List (S59)))
  | 0, _, _, _, _, _, _, _, _, _, _, _ => none
  | k + 1, x0, x1, x2, x3, x4, x5, x6, x7, x17, x19, x21 => if (wrap64 (x21 + x3)) < x7 then (if 0 ≤ x6 then (if x6 < (x1.length : Int) then (if 0 ≤ x21 then (if x21 < ((rd_L5 x1 x6).length : Int) then (if 0 ≤ (wrap64 ((wrap64 (x7 - x21)) - x3)) then (if (wrap64 ((wrap64 (x7 - x21)) - x3)) < ((rd_L5 x1 x6).length : Int) then (if (wrap64 ((rd (rd_L5 x1 x6) x21) + (rd (rd_L5 x1 x6) (wrap64 ((wrap64 (x7 - x21)) - x3))))) = x17 then (if x0.length < 2199023255552 then ((gangsawref25_part.f k (x0 ++ [(⟨3, (⟨#[]⟩ : ByteArray), 1, wrap64 (x5 + x21), x3, wrap64 (x19 + 1), 0⟩ : S59)]) x1 x2 x3 x4 x5 x6 x21).bind fun t228 => (if 0 ≤ x19 then (if x19 < (t228.length : Int) then ((gangsawref25_part.f k (t228.set (x19 : Int).toNat (⟨(rd_T59 t228 x19).f0, (rd_T59 t228 x19).f1, (rd_T59 t228 x19).f2, (rd_T59 t228 x19).f3, (rd_T59 t228 x19).f4, (rd_T59 t228 x19).f5, (t228.length : Int)⟩ : S59)) x1 x2 x3 x4 (wrap64 ((wrap64 (x5 + x21)) + x3)) x6 (wrap64 ((wrap64 (x7 - x21)) - x3))).bind fun t232 => (some t232)) else (none)) else (none))) else (none)) else (gangsawref25_part.l2 k x0 x1 x2 x3 x4 x5 x6 x7 x17 x19 (wrap64 (x21 + 1)))) else (none)) else (none)) else (none)) else (none)) else (none)) else (none)) else (some x0)
def gangsawref25_part.f : Nat → List (S59) → List (List Int) → List (S36) → Int → Int → Int → Int → Int → Option ((List (S59)))
  | 0, _, _, _, _, _, _, _, _ => none
  | k + 1, l0, l1, l2, a3, a4, a5, a6, a7 => if 0 ≤ a6 then (if a6 < (l1.length : Int) then (if 0 ≤ a7 then (if a7 < ((rd_L5 l1 a6).length : Int) then (if (rd (rd_L5 l1 a6) a7) = 0 then (if l0.length < 2199023255552 then (some (l0 ++ [(⟨0, (⟨#[]⟩ : ByteArray), 0, 0, 0, 0, 0⟩ : S59)])) else (none)) else (gangsawref25_part.l0 k l0 l1 l2 a3 a4 a5 a6 a7 (rd (rd_L5 l1 a6) a7) 0)) else (none)) else (none)) else (none)) else (none)
end
theorem gangsawref25_part.mono_l : ∀ k, (∀ y0 y1 y2 y3 y4 y5 y6 y7, LeO (gangsawref25_part.f k y0 y1 y2 y3 y4 y5 y6 y7) (gangsawref25_part.f (k + 1) y0 y1 y2 y3 y4 y5 y6 y7)) ∧ (∀ y0 y1 y2 y3 y4 y5 y6 y7 y8 y9, LeO (gangsawref25_part.l0 k y0 y1 y2 y3 y4 y5 y6 y7 y8 y9) (gangsawref25_part.l0 (k + 1) y0 y1 y2 y3 y4 y5 y6 y7 y8 y9)) ∧ (∀ y0 y1 y2 y3 y4 y5 y6 y7 y8 y9 y10, LeO (gangsawref25_part.l1 k y0 y1 y2 y3 y4 y5 y6 y7 y8 y9 y10) (gangsawref25_part.l1 (k + 1) y0 y1 y2 y3 y4 y5 y6 y7 y8 y9 y10)) ∧ (∀ y0 y1 y2 y3 y4 y5 y6 y7 y8 y9 y10, LeO (gangsawref25_part.l2 k y0 y1 y2 y3 y4 y5 y6 y7 y8 y9 y10) (gangsawref25_part.l2 (k + 1) y0 y1 y2 y3 y4 y5 y6 y7 y8 y9 y10))
  | 0 => ⟨fun _ _ _ _ _ _ _ _ r h => by simp [gangsawref25_part.f] at h, fun _ _ _ _ _ _ _ _ _ _ r h => by simp [gangsawref25_part.l0] at h, fun _ _ _ _ _ _ _ _ _ _ _ r h => by simp [gangsawref25_part.l1] at h, fun _ _ _ _ _ _ _ _ _ _ _ r h => by simp [gangsawref25_part.l2] at h⟩
  | k + 1 => by
    obtain ⟨ih0, ih1, ih2, ih3⟩ := gangsawref25_part.mono_l k
    refine ⟨?_, ?_, ?_, ?_⟩
    · intro y0 y1 y2 y3 y4 y5 y6 y7
      unfold gangsawref25_part.f
      repeat' first
      | (with_reducible exact ih0 _ _ _ _ _ _ _ _)
      | (with_reducible exact ih1 _ _ _ _ _ _ _ _ _ _)
      | (with_reducible exact ih2 _ _ _ _ _ _ _ _ _ _ _)
      | (with_reducible exact ih3 _ _ _ _ _ _ _ _ _ _ _)
      | (with_reducible exact LeO.refl _)
      | (with_reducible exact LeO.none _)
      | (with_reducible refine LeO.ite ?_ ?_)
      | (with_reducible refine LeO.bind ?_ (fun _ => ?_))
      | exact ih0 _ _ _ _ _ _ _ _
      | exact ih1 _ _ _ _ _ _ _ _ _ _
      | exact ih2 _ _ _ _ _ _ _ _ _ _ _
      | exact ih3 _ _ _ _ _ _ _ _ _ _ _
      | exact LeO.none _
      | refine LeO.ite ?_ ?_
      | refine LeO.bind ?_ (fun _ => ?_)
    · intro y0 y1 y2 y3 y4 y5 y6 y7 y8 y9
      unfold gangsawref25_part.l0
      repeat' first
      | (with_reducible exact ih0 _ _ _ _ _ _ _ _)
      | (with_reducible exact ih1 _ _ _ _ _ _ _ _ _ _)
      | (with_reducible exact ih2 _ _ _ _ _ _ _ _ _ _ _)
      | (with_reducible exact ih3 _ _ _ _ _ _ _ _ _ _ _)
      | (with_reducible exact LeO.refl _)
      | (with_reducible exact LeO.none _)
      | (with_reducible refine LeO.ite ?_ ?_)
      | (with_reducible refine LeO.bind ?_ (fun _ => ?_))
      | exact ih0 _ _ _ _ _ _ _ _
      | exact ih1 _ _ _ _ _ _ _ _ _ _
      | exact ih2 _ _ _ _ _ _ _ _ _ _ _
      | exact ih3 _ _ _ _ _ _ _ _ _ _ _
      | exact LeO.none _
      | refine LeO.ite ?_ ?_
      | refine LeO.bind ?_ (fun _ => ?_)
    · intro y0 y1 y2 y3 y4 y5 y6 y7 y8 y9 y10
      unfold gangsawref25_part.l1
      repeat' first
      | (with_reducible exact ih0 _ _ _ _ _ _ _ _)
      | (with_reducible exact ih1 _ _ _ _ _ _ _ _ _ _)
      | (with_reducible exact ih2 _ _ _ _ _ _ _ _ _ _ _)
      | (with_reducible exact ih3 _ _ _ _ _ _ _ _ _ _ _)
      | (with_reducible exact LeO.refl _)
      | (with_reducible exact LeO.none _)
      | (with_reducible refine LeO.ite ?_ ?_)
      | (with_reducible refine LeO.bind ?_ (fun _ => ?_))
      | exact ih0 _ _ _ _ _ _ _ _
      | exact ih1 _ _ _ _ _ _ _ _ _ _
      | exact ih2 _ _ _ _ _ _ _ _ _ _ _
      | exact ih3 _ _ _ _ _ _ _ _ _ _ _
      | exact LeO.none _
      | refine LeO.ite ?_ ?_
      | refine LeO.bind ?_ (fun _ => ?_)
    · intro y0 y1 y2 y3 y4 y5 y6 y7 y8 y9 y10
      unfold gangsawref25_part.l2
      repeat' first
      | (with_reducible exact ih0 _ _ _ _ _ _ _ _)
      | (with_reducible exact ih1 _ _ _ _ _ _ _ _ _ _)
      | (with_reducible exact ih2 _ _ _ _ _ _ _ _ _ _ _)
      | (with_reducible exact ih3 _ _ _ _ _ _ _ _ _ _ _)
      | (with_reducible exact LeO.refl _)
      | (with_reducible exact LeO.none _)
      | (with_reducible refine LeO.ite ?_ ?_)
      | (with_reducible refine LeO.bind ?_ (fun _ => ?_))
      | exact ih0 _ _ _ _ _ _ _ _
      | exact ih1 _ _ _ _ _ _ _ _ _ _
      | exact ih2 _ _ _ _ _ _ _ _ _ _ _
      | exact ih3 _ _ _ _ _ _ _ _ _ _ _
      | exact LeO.none _
      | refine LeO.ite ?_ ?_
      | refine LeO.bind ?_ (fun _ => ?_)
theorem gangsawref25_part.mono : ∀ a0 a1 a2 a3 a4 a5 a6 a7 k, LeO (gangsawref25_part.f k a0 a1 a2 a3 a4 a5 a6 a7) (gangsawref25_part.f (k + 1) a0 a1 a2 a3 a4 a5 a6 a7) := by
  intro a0 a1 a2 a3 a4 a5 a6 a7 k
  obtain ⟨ih0, ih1, ih2, ih3⟩ := gangsawref25_part.mono_l k
  exact ih0 a0 a1 a2 a3 a4 a5 a6 a7
set_option maxHeartbeats 8000000 in
set_option maxRecDepth 100000 in
theorem gangsawref25_part.calls (k : Nat) : ∀ (P0_ : Nat → Prop) (u9000_ : Value) (l0 : List (S59)) (A1 : Option Addr) (c1 : Nat) (l1 : List (List Int)) (A2 : Option Addr) (c2 : Nat) (l2 : List (S36)) (a3 : Int) (a4 : Int) (a5 : Int) (a6 : Int) (a7 : Int) (r : List (S59)) (w0 w : World) (hB : Below w0.heap.size w0 w) (ho0 : Kd.R k59 59 w w0.heap.size P0_ u9000_ l0) (hr1 : ∀ W_, Kept w W_ (fun k_ => P0_ k_) → Kd.C (Kd.slice 2 (Kd.int .i64)) W_ A1 l1.length l1) (hc1 : l1.length ≤ c1) (hr2 : ∀ W_, Kept w W_ (fun k_ => P0_ k_) → Kd.C k36 W_ A2 l2.length l2) (hc2 : l2.length ≤ c2) (h : gangsawref25_part.f k l0 l1 l2 a3 a4 a5 a6 a7 = some r),
    Calls Try.prog 36 #[u9000_, .slice A1 l1.length c1, .slice A2 l2.length c2, .int .i64 a3, .int .i64 a4, .int .i64 a5, .int .i64 a6, .int .i64 a7] w fun e w' => ∃ v0_ : Value, e = .returned (v0_) ∧ Kd.R k59 59 w' w0.heap.size (fun k_ => (P0_ k_ ∨ w.heap.size ≤ k_)) v0_ r ∧ Below w0.heap.size w0 w' ∧ Kept w w' (fun k_ => P0_ k_) := by
  induction k using Nat.strongRecOn with
  | _ k ih =>
  intro P0_ u9000_ l0 A1 c1 l1 A2 c2 l2 a3 a4 a5 a6 a7 r w0 w hB ho0 hr1 hc1 hr2 hc2 h
  cases k with
  | zero => exact absurd h (by simp [gangsawref25_part.f])
  | succ k =>
  simp only [gangsawref25_part.f] at h
  have hu59 := Try.underlying59
  have HO0 := Aside0.mk (show Kd.R k59 59 w w0.heap.size (fun k_ => (P0_ k_ ∨ w.heap.size ≤ k_)) u9000_ l0 from Kd.R_mono ho0 (fun k_ hk => (.inl hk)))
  have HR1 := Aside0.mk hr1
  have HC1 := Aside0.mk hc1
  clear hr1 hc1
  have HR2 := Aside0.mk hr2
  have HC2 := Aside0.mk hc2
  clear hr2 hc2
  have HK := Aside0.mk (Kept.refl w (fun k_ => P0_ k_))
  have HW0 := Aside0.mk hB.size
  have HB := Aside0.mk hB
  clear hB
  have H : (if 0 ≤ a6 then (if a6 < (l1.length : Int) then (if 0 ≤ a7 then (if a7 < ((rd_L5 l1 a6).length : Int) then (if (rd (rd_L5 l1 a6) a7) = 0 then (if l0.length < 2199023255552 then (some (l0 ++ [(⟨0, (⟨#[]⟩ : ByteArray), 0, 0, 0, 0, 0⟩ : S59)])) else (none)) else (gangsawref25_part.l0 k l0 l1 l2 a3 a4 a5 a6 a7 (rd (rd_L5 l1 a6) a7) 0)) else (none)) else (none)) else (none)) else (none)) = some r := h
  clear h
  by_cases c9 : 0 ≤ a6
  · rw [if_pos c9] at H
    have c9b0 : decide (0 ≤ a6) = true := decide_eq_true c9
    clear c9
    by_cases c10 : a6 < (l1.length : Int)
    · rw [if_pos c10] at H
      have c10b0 : decide (a6 < (l1.length : Int)) = true := decide_eq_true c10
      clear c10
      by_cases c11 : 0 ≤ a7
      · rw [if_pos c11] at H
        have c11b0 : decide (0 ≤ a7) = true := decide_eq_true c11
        clear c11
        by_cases c12 : a7 < ((rd_L5 l1 a6).length : Int)
        · rw [if_pos c12] at H
          have c12b0 : decide (a7 < ((rd_L5 l1 a6).length : Int)) = true := decide_eq_true c12
          clear c12
          by_cases c13 : (rd (rd_L5 l1 a6) a7) = 0
          · rw [if_pos c13] at H
            have c13b0 : ((rd (rd_L5 l1 a6) a7) == 0) = true := beq_iff_eq.mpr c13
            have c13b1 : ((rd (rd_L5 l1 a6) a7) != 0) = false := bne_eq_false_iff_eq.mpr c13
            clear c13
            by_cases c14 : l0.length < 2199023255552
            · rw [if_pos c14] at H
              have LMc14 := Aside0.mk c14
              clear c14
              obtain ⟨y197, hy197⟩ : ∃ y_ : List (S59), y_ = (l0 ++ [(⟨0, (⟨#[]⟩ : ByteArray), 0, 0, 0, 0, 0⟩ : S59)]) := ⟨_, rfl⟩
              replace H : (some y197) = some r := by first | (rw [hy197]; with_reducible exact H) | (have H2_ := (Option.bind_some _ _).symm.trans H; rw [hy197]; with_reducible exact H2_) | (have H2_ := (Option.bind_some _ _).symm.trans H; with_reducible exact H2_) | with_reducible exact H | (rw [hy197]; exact H) | exact H
              have Ny197 := Aside0.mk hy197
              clear hy197
              obtain rfl := Option.some.inj H
              have p195 : 0 ≤ (a6 : Int) := of_decide_eq_true (by first | (with_reducible assumption) | assumption)
              have q195 : a6 < (l1.length : Int) := of_decide_eq_true (by first | (with_reducible assumption) | assumption)
              obtain ⟨ad195, A195_0, c195_0, e195, hx195_0, hl195_0, hi195_0⟩ := at_L5 (Kd.C_kept_now HR1.out HK.out) a6 p195 q195
              cases e195
              have HR195_0 := Aside0.mk hi195_0
              have HC195_0 := Aside0.mk hl195_0
              clear hi195_0 hl195_0
              replace p195 := eq_true p195
              replace q195 := eq_true q195
              have p196 : 0 ≤ (a7 : Int) := of_decide_eq_true (by first | (with_reducible assumption) | assumption)
              have q196 : a7 < ((rd_L5 l1 a6).length : Int) := of_decide_eq_true (by first | (with_reducible assumption) | assumption)
              obtain ⟨ad196, e196, hx196_0⟩ := Kd.at_int (by repeat (first | (with_reducible exact HR195_0.out) | (with_reducible refine Kd.C_alloc ?_ _) | (with_reducible refine Kd.C_drewN ?_ _) | (with_reducible refine Kd.C_drew ?_) | exact HR195_0.out)) a7 p196 q196
              cases e196
              replace p196 := eq_true p196
              replace q196 := eq_true q196
              go_enter Try.func36, Try.ntmps36
              go_wp2_with (first | ((with_reducible refine gate_builtin (b := .append) (xs := #[.tmp 31, .tmp 33]) rfl ?_); at_builtin; refine Kd.R_append k59 (w0 := w0) w0.heap.size rfl (.tmp 31) (.tmp 33) 27 59 (.agg #[(.int .i64 0), (.string ⟨#[]⟩), (.int .i64 0), (.int .i64 0), (.int .i64 0), (.int .i64 0), (.int .i64 0)]) 64 rfl Try.underlying27 info59 rfl (by decide) (by omega) u9000_ l0 (⟨0, (⟨#[]⟩ : ByteArray), 0, 0, 0, 0, 0⟩ : S59) [.int .i64 0, .string (⟨#[]⟩ : ByteArray), .int .i64 0, .int .i64 0, .int .i64 0, .int .i64 0, .int .i64 0] (fun k_ => (P0_ k_ ∨ w.heap.size ≤ k_)) (fun _ => False) rfl rfl ?aP (fun _ hk => hk.elim) ?aF ?aO ?aB ?aS ?aL ?_; (case aP => exact k59_mkM _ _ _ (⟨0, (⟨#[]⟩ : ByteArray), 0, 0, 0, 0, 0⟩ : S59)); (case aB => exact (by repeat (first | (with_reducible first | exact HB.out | apply below_alloc | apply pw_below_drewN | apply below_drew1) | exact HB.out))); (case aF => exact (fun k_ hk => (.inr (Nat.le_trans (by first | exact HK.out.1 | exact (show Kept w _ (fun k_ => P0_ k_) from by repeat (first | (with_reducible first | exact HK.out | apply Kept.alloc | apply Kept.drewN | apply Kept.drew) | exact HK.out)).1) hk)))); (case aO => exact (by (with_reducible repeat (first | apply Kd.R_alloc | apply Kd.R_drewN | apply Kd.R_drew)); exact HO0.out)); (case aS => exact (below_size (by repeat (first | (with_reducible first | exact HB.out | apply below_alloc | apply pw_below_drewN | apply below_drew1) | exact HB.out)))); (case aL => have := LMc14.out; omega); intro v198 w15 ho hb hg hat; rw [← Ny197.out] at ho; have n0_ := Aside0.mk (hb); have n1_ := Aside0.mk (Kept.of_grown (S := (fun k_ => P0_ k_)) hg (by repeat (first | (with_reducible first | exact HK.out | apply Kept.alloc | apply Kept.drewN | apply Kept.drew) | exact HK.out)) (fun k_ e_ => (HO0.out.1 k_ e_))); have n2_ := Aside0.mk (ho); clear HB; clear HK; clear HO0; have HB := n0_; have HK := n1_; have HO199 := n2_; clear n0_ n1_ n2_; clear ho hb hg hat))
              repeat (go_quiet (first | ((with_reducible refine gate_builtin (b := .append) (xs := #[.tmp 31, .tmp 33]) rfl ?_); at_builtin; refine Kd.R_append k59 (w0 := w0) w0.heap.size rfl (.tmp 31) (.tmp 33) 27 59 (.agg #[(.int .i64 0), (.string ⟨#[]⟩), (.int .i64 0), (.int .i64 0), (.int .i64 0), (.int .i64 0), (.int .i64 0)]) 64 rfl Try.underlying27 info59 rfl (by decide) (by omega) u9000_ l0 (⟨0, (⟨#[]⟩ : ByteArray), 0, 0, 0, 0, 0⟩ : S59) [.int .i64 0, .string (⟨#[]⟩ : ByteArray), .int .i64 0, .int .i64 0, .int .i64 0, .int .i64 0, .int .i64 0] (fun k_ => (P0_ k_ ∨ w.heap.size ≤ k_)) (fun _ => False) rfl rfl ?aP (fun _ hk => hk.elim) ?aF ?aO ?aB ?aS ?aL ?_; (case aP => exact k59_mkM _ _ _ (⟨0, (⟨#[]⟩ : ByteArray), 0, 0, 0, 0, 0⟩ : S59)); (case aB => exact (by repeat (first | (with_reducible first | exact HB.out | apply below_alloc | apply pw_below_drewN | apply below_drew1) | exact HB.out))); (case aF => exact (fun k_ hk => (.inr (Nat.le_trans (by first | exact HK.out.1 | exact (show Kept w _ (fun k_ => P0_ k_) from by repeat (first | (with_reducible first | exact HK.out | apply Kept.alloc | apply Kept.drewN | apply Kept.drew) | exact HK.out)).1) hk)))); (case aO => exact (by (with_reducible repeat (first | apply Kd.R_alloc | apply Kd.R_drewN | apply Kd.R_drew)); exact HO0.out)); (case aS => exact (below_size (by repeat (first | (with_reducible first | exact HB.out | apply below_alloc | apply pw_below_drewN | apply below_drew1) | exact HB.out)))); (case aL => have := LMc14.out; omega); intro v198 w15 ho hb hg hat; rw [← Ny197.out] at ho; have n0_ := Aside0.mk (hb); have n1_ := Aside0.mk (Kept.of_grown (S := (fun k_ => P0_ k_)) hg (by repeat (first | (with_reducible first | exact HK.out | apply Kept.alloc | apply Kept.drewN | apply Kept.drew) | exact HK.out)) (fun k_ e_ => (HO0.out.1 k_ e_))); have n2_ := Aside0.mk (ho); clear HB; clear HK; clear HO0; have HB := n0_; have HK := n1_; have HO199 := n2_; clear n0_ n1_ n2_; clear ho hb hg hat)); try go_wp2_with (first | ((with_reducible refine gate_builtin (b := .append) (xs := #[.tmp 31, .tmp 33]) rfl ?_); at_builtin; refine Kd.R_append k59 (w0 := w0) w0.heap.size rfl (.tmp 31) (.tmp 33) 27 59 (.agg #[(.int .i64 0), (.string ⟨#[]⟩), (.int .i64 0), (.int .i64 0), (.int .i64 0), (.int .i64 0), (.int .i64 0)]) 64 rfl Try.underlying27 info59 rfl (by decide) (by omega) u9000_ l0 (⟨0, (⟨#[]⟩ : ByteArray), 0, 0, 0, 0, 0⟩ : S59) [.int .i64 0, .string (⟨#[]⟩ : ByteArray), .int .i64 0, .int .i64 0, .int .i64 0, .int .i64 0, .int .i64 0] (fun k_ => (P0_ k_ ∨ w.heap.size ≤ k_)) (fun _ => False) rfl rfl ?aP (fun _ hk => hk.elim) ?aF ?aO ?aB ?aS ?aL ?_; (case aP => exact k59_mkM _ _ _ (⟨0, (⟨#[]⟩ : ByteArray), 0, 0, 0, 0, 0⟩ : S59)); (case aB => exact (by repeat (first | (with_reducible first | exact HB.out | apply below_alloc | apply pw_below_drewN | apply below_drew1) | exact HB.out))); (case aF => exact (fun k_ hk => (.inr (Nat.le_trans (by first | exact HK.out.1 | exact (show Kept w _ (fun k_ => P0_ k_) from by repeat (first | (with_reducible first | exact HK.out | apply Kept.alloc | apply Kept.drewN | apply Kept.drew) | exact HK.out)).1) hk)))); (case aO => exact (by (with_reducible repeat (first | apply Kd.R_alloc | apply Kd.R_drewN | apply Kd.R_drew)); exact HO0.out)); (case aS => exact (below_size (by repeat (first | (with_reducible first | exact HB.out | apply below_alloc | apply pw_below_drewN | apply below_drew1) | exact HB.out)))); (case aL => have := LMc14.out; omega); intro v198 w15 ho hb hg hat; rw [← Ny197.out] at ho; have n0_ := Aside0.mk (hb); have n1_ := Aside0.mk (Kept.of_grown (S := (fun k_ => P0_ k_)) hg (by repeat (first | (with_reducible first | exact HK.out | apply Kept.alloc | apply Kept.drewN | apply Kept.drew) | exact HK.out)) (fun k_ e_ => (HO0.out.1 k_ e_))); have n2_ := Aside0.mk (ho); clear HB; clear HK; clear HO0; have HB := n0_; have HK := n1_; have HO199 := n2_; clear n0_ n1_ n2_; clear ho hb hg hat)))
              go_ret
              exact ⟨_, by first | rfl | (simp [errW_none, errW_some] <;> rfl) | (simp [*, errW_none, errW_some] <;> rfl), by (with_reducible repeat (first | apply Kd.R_alloc | apply Kd.R_drewN | apply Kd.R_drew)); exact HO199.out, by repeat (first | (with_reducible first | exact HB.out | apply below_alloc | apply pw_below_drewN | apply below_drew1) | exact HB.out), by repeat (first | (with_reducible first | exact HK.out | apply Kept.alloc | apply Kept.drewN | apply Kept.drew) | exact HK.out)⟩
            · rw [if_neg c14] at H
              exact absurd H (by simp)
          · rw [if_neg c13] at H
            have c13b0 : ((rd (rd_L5 l1 a6) a7) == 0) = false := beq_eq_false_iff_ne.mpr c13
            have c13b1 : ((rd (rd_L5 l1 a6) a7) != 0) = true := bne_iff_ne.mpr c13
            have H' := Aside0.mk H
            clear H
            have p195 : 0 ≤ (a6 : Int) := of_decide_eq_true (by first | (with_reducible assumption) | assumption)
            have q195 : a6 < (l1.length : Int) := of_decide_eq_true (by first | (with_reducible assumption) | assumption)
            obtain ⟨ad195, A195_0, c195_0, e195, hx195_0, hl195_0, hi195_0⟩ := at_L5 (Kd.C_kept_now HR1.out HK.out) a6 p195 q195
            cases e195
            have HR195_0 := Aside0.mk hi195_0
            have HC195_0 := Aside0.mk hl195_0
            clear hi195_0 hl195_0
            replace p195 := eq_true p195
            replace q195 := eq_true q195
            have p196 : 0 ≤ (a7 : Int) := of_decide_eq_true (by first | (with_reducible assumption) | assumption)
            have q196 : a7 < ((rd_L5 l1 a6).length : Int) := of_decide_eq_true (by first | (with_reducible assumption) | assumption)
            obtain ⟨ad196, e196, hx196_0⟩ := Kd.at_int (by repeat (first | (with_reducible exact HR195_0.out) | (with_reducible refine Kd.C_alloc ?_ _) | (with_reducible refine Kd.C_drewN ?_ _) | (with_reducible refine Kd.C_drew ?_) | exact HR195_0.out)) a7 p196 q196
            cases e196
            replace p196 := eq_true p196
            replace q196 := eq_true q196
            go_enter Try.func36, Try.ntmps36
            go_wp2
            repeat (go_quiet (fail); try go_wp2)
            go_loopg [18] k (fun kq v18 w' => ∃ (x18_1 : Int), v18 = .int .i64 x18_1 ∧ Aside0 (gangsawref25_part.l0 kq l0 l1 l2 a3 a4 a5 a6 a7 (rd (rd_L5 l1 a6) a7) x18_1 = some r) ∧ Aside0 (kq ≤ k) ∧ Aside0 (Kd.R k59 59 w' w0.heap.size (fun k_ => (P0_ k_ ∨ w.heap.size ≤ k_)) u9000_ l0) ∧ Aside0 (Kd.C (Kd.int .i64) w' (some ad196) (rd_L5 l1 a6).length (rd_L5 l1 a6)) ∧ Aside0 (Kept w w' (fun k_ => P0_ k_)) ∧ Aside0 (Below w0.heap.size w0 w'))
            case atStart => exact ⟨(0), (by first | rfl | (simp; done) | (simp [*]; done)), H', ⟨Nat.le_refl _⟩, ⟨by (with_reducible repeat (first | apply Kd.R_alloc | apply Kd.R_drewN | apply Kd.R_drew)); exact HO0.out⟩, ⟨by repeat (first | (with_reducible exact HR195_0.out) | (with_reducible refine Kd.C_alloc ?_ _) | (with_reducible refine Kd.C_drewN ?_ _) | (with_reducible refine Kd.C_drew ?_) | exact HR195_0.out)⟩, ⟨by repeat (first | (with_reducible first | exact HK.out | apply Kept.alloc | apply Kept.drewN | apply Kept.drew) | exact HK.out)⟩, ⟨by repeat (first | (with_reducible first | exact HB.out | apply below_alloc | apply pw_below_drewN | apply below_drew1) | exact HB.out)⟩⟩
            case round =>
              clear H'
              try clear c1
              try clear p1
              try clear q1
              try clear hx1
              try clear c2
              try clear p2
              try clear c3
              try clear c9
              try clear c9b0
              try clear c10
              try clear c10b0
              try clear c11
              try clear c11b0
              try clear c12
              try clear c12b0
              try clear c13
              try clear c13b0
              try clear c13b1
              try clear c14
              try clear hx195_0
              try clear hx196_0
              try clear p195
              try clear p196
              try clear q195
              try clear q196
              obtain ⟨x18_1, rfl, HA, HK1, HO_0, HR195_0, HK, HB⟩ := hrel
              cases gk with
              | zero => exact absurd HA.out (by simp [gangsawref25_part.l0])
              | succ k1 =>
                have H := HA.out
                clear HA
                simp only [gangsawref25_part.l0] at H
                by_cases c16 : x18_1 < (l2.length : Int)
                · rw [if_pos c16] at H
                  have c16b0 : decide (x18_1 < (l2.length : Int)) = true := decide_eq_true c16
                  clear c16
                  by_cases c17 : 0 ≤ x18_1
                  · rw [if_pos c17] at H
                    have c17b0 : decide (0 ≤ x18_1) = true := decide_eq_true c17
                    clear c17
                    by_cases c18 : ((rd_T36 l2 x18_1).f1.f0) = a6
                    · rw [if_pos c18] at H
                      have c18b0 : (((rd_T36 l2 x18_1).f1.f0) == a6) = true := beq_iff_eq.mpr c18
                      have c18b1 : (((rd_T36 l2 x18_1).f1.f0) != a6) = false := bne_eq_false_iff_eq.mpr c18
                      clear c18
                      by_cases c19 : ((rd_T36 l2 x18_1).f1.f1) = a7
                      · rw [if_pos c19] at H
                        have c19b0 : (((rd_T36 l2 x18_1).f1.f1) == a7) = true := beq_iff_eq.mpr c19
                        have c19b1 : (((rd_T36 l2 x18_1).f1.f1) != a7) = false := bne_eq_false_iff_eq.mpr c19
                        clear c19
                        by_cases c20 : ((rd_T36 l2 x18_1).f2) = (rd (rd_L5 l1 a6) a7)
                        · rw [if_pos c20] at H
                          have c20b0 : (((rd_T36 l2 x18_1).f2) == (rd (rd_L5 l1 a6) a7)) = true := beq_iff_eq.mpr c20
                          have c20b1 : (((rd_T36 l2 x18_1).f2) != (rd (rd_L5 l1 a6) a7)) = false := bne_eq_false_iff_eq.mpr c20
                          clear c20
                          by_cases c21 : l0.length < 2199023255552
                          · rw [if_pos c21] at H
                            have LMc21 := Aside0.mk c21
                            clear c21
                            obtain ⟨y204, hy204⟩ : ∃ y_ : List (S59), y_ = (l0 ++ [(⟨1, (rd_T36 l2 x18_1).f0, 0, 0, 0, 0, 0⟩ : S59)]) := ⟨_, rfl⟩
                            replace H : (some y204) = some r := by first | (rw [hy204]; with_reducible exact H) | (have H2_ := (Option.bind_some _ _).symm.trans H; rw [hy204]; with_reducible exact H2_) | (have H2_ := (Option.bind_some _ _).symm.trans H; with_reducible exact H2_) | with_reducible exact H | (rw [hy204]; exact H) | exact H
                            have Ny204 := Aside0.mk hy204
                            clear hy204
                            obtain rfl := Option.some.inj H
                            have p200 : 0 ≤ (x18_1 : Int) := of_decide_eq_true (by first | (with_reducible assumption) | assumption)
                            have q200 : x18_1 < (l2.length : Int) := of_decide_eq_true (by first | (with_reducible assumption) | assumption)
                            obtain ⟨ad200, e200, hx200_0, hx200_1, hx200_2, hx200_3, hx200_4, hx200_5, hx200_6⟩ := at_T36 (Kd.C_kept_now HR2.out HK.out) x18_1 p200 q200
                            cases e200
                            replace p200 := eq_true p200
                            replace q200 := eq_true q200
                            have p201 : 0 ≤ (x18_1 : Int) := of_decide_eq_true (by first | (with_reducible assumption) | assumption)
                            have q201 : x18_1 < (l2.length : Int) := of_decide_eq_true (by first | (with_reducible assumption) | assumption)
                            obtain ⟨ad201, e201, hx201_0, hx201_1, hx201_2, hx201_3, hx201_4, hx201_5, hx201_6⟩ := at_T36 (Kd.C_kept_now HR2.out HK.out) x18_1 p201 q201
                            obtain rfl : ad200 = ad201 := (by injection e201)
                            replace p201 := eq_true p201
                            replace q201 := eq_true q201
                            have p202 : 0 ≤ (x18_1 : Int) := of_decide_eq_true (by first | (with_reducible assumption) | assumption)
                            have q202 : x18_1 < (l2.length : Int) := of_decide_eq_true (by first | (with_reducible assumption) | assumption)
                            obtain ⟨ad202, e202, hx202_0, hx202_1, hx202_2, hx202_3, hx202_4, hx202_5, hx202_6⟩ := at_T36 (Kd.C_kept_now HR2.out HK.out) x18_1 p202 q202
                            obtain rfl : ad200 = ad202 := (by injection e202)
                            replace p202 := eq_true p202
                            replace q202 := eq_true q202
                            have p203 : 0 ≤ (x18_1 : Int) := of_decide_eq_true (by first | (with_reducible assumption) | assumption)
                            have q203 : x18_1 < (l2.length : Int) := of_decide_eq_true (by first | (with_reducible assumption) | assumption)
                            obtain ⟨ad203, e203, hx203_0, hx203_1, hx203_2, hx203_3, hx203_4, hx203_5, hx203_6⟩ := at_T36 (Kd.C_kept_now HR2.out HK.out) x18_1 p203 q203
                            obtain rfl : ad200 = ad203 := (by injection e203)
                            replace p203 := eq_true p203
                            replace q203 := eq_true q203
                            go_wp2_with (first | ((with_reducible refine gate_builtin (b := .append) (xs := #[.tmp 68, .tmp 75]) rfl ?_); at_builtin; refine Kd.R_append k59 (w0 := w0) w0.heap.size rfl (.tmp 68) (.tmp 75) 27 59 (.agg #[(.int .i64 0), (.string ⟨#[]⟩), (.int .i64 0), (.int .i64 0), (.int .i64 0), (.int .i64 0), (.int .i64 0)]) 64 rfl Try.underlying27 info59 rfl (by decide) (by omega) u9000_ l0 (⟨1, (rd_T36 l2 x18_1).f0, 0, 0, 0, 0, 0⟩ : S59) [.int .i64 1, .string ((rd_T36 l2 x18_1).f0), .int .i64 0, .int .i64 0, .int .i64 0, .int .i64 0, .int .i64 0] (fun k_ => (P0_ k_ ∨ w.heap.size ≤ k_)) (fun _ => False) rfl rfl ?aP (fun _ hk => hk.elim) ?aF ?aO ?aB ?aS ?aL ?_; (case aP => exact k59_mkM _ _ _ (⟨1, (rd_T36 l2 x18_1).f0, 0, 0, 0, 0, 0⟩ : S59)); (case aB => exact (by repeat (first | (with_reducible first | exact HB.out | apply below_alloc | apply pw_below_drewN | apply below_drew1) | exact HB.out))); (case aF => exact (fun k_ hk => (.inr (Nat.le_trans (by first | exact HK.out.1 | exact (show Kept w _ (fun k_ => P0_ k_) from by repeat (first | (with_reducible first | exact HK.out | apply Kept.alloc | apply Kept.drewN | apply Kept.drew) | exact HK.out)).1) hk)))); (case aO => exact (by (with_reducible repeat (first | apply Kd.R_alloc | apply Kd.R_drewN | apply Kd.R_drew)); exact HO_0.out)); (case aS => exact (below_size (by repeat (first | (with_reducible first | exact HB.out | apply below_alloc | apply pw_below_drewN | apply below_drew1) | exact HB.out)))); (case aL => have := LMc21.out; omega); intro v205 w22 ho hb hg hat; rw [← Ny204.out] at ho; have n0_ := Aside0.mk (hb); have n1_ := Aside0.mk (Kept.of_grown (S := (fun k_ => P0_ k_)) hg (by repeat (first | (with_reducible first | exact HK.out | apply Kept.alloc | apply Kept.drewN | apply Kept.drew) | exact HK.out)) (fun k_ e_ => (HO_0.out.1 k_ e_))); have n2_ := Aside0.mk (ho); clear HB; clear HK; clear HO_0; have HB := n0_; have HK := n1_; have HO206 := n2_; clear n0_ n1_ n2_; clear ho hb hg hat))
                            repeat (go_quiet (first | ((with_reducible refine gate_builtin (b := .append) (xs := #[.tmp 68, .tmp 75]) rfl ?_); at_builtin; refine Kd.R_append k59 (w0 := w0) w0.heap.size rfl (.tmp 68) (.tmp 75) 27 59 (.agg #[(.int .i64 0), (.string ⟨#[]⟩), (.int .i64 0), (.int .i64 0), (.int .i64 0), (.int .i64 0), (.int .i64 0)]) 64 rfl Try.underlying27 info59 rfl (by decide) (by omega) u9000_ l0 (⟨1, (rd_T36 l2 x18_1).f0, 0, 0, 0, 0, 0⟩ : S59) [.int .i64 1, .string ((rd_T36 l2 x18_1).f0), .int .i64 0, .int .i64 0, .int .i64 0, .int .i64 0, .int .i64 0] (fun k_ => (P0_ k_ ∨ w.heap.size ≤ k_)) (fun _ => False) rfl rfl ?aP (fun _ hk => hk.elim) ?aF ?aO ?aB ?aS ?aL ?_; (case aP => exact k59_mkM _ _ _ (⟨1, (rd_T36 l2 x18_1).f0, 0, 0, 0, 0, 0⟩ : S59)); (case aB => exact (by repeat (first | (with_reducible first | exact HB.out | apply below_alloc | apply pw_below_drewN | apply below_drew1) | exact HB.out))); (case aF => exact (fun k_ hk => (.inr (Nat.le_trans (by first | exact HK.out.1 | exact (show Kept w _ (fun k_ => P0_ k_) from by repeat (first | (with_reducible first | exact HK.out | apply Kept.alloc | apply Kept.drewN | apply Kept.drew) | exact HK.out)).1) hk)))); (case aO => exact (by (with_reducible repeat (first | apply Kd.R_alloc | apply Kd.R_drewN | apply Kd.R_drew)); exact HO_0.out)); (case aS => exact (below_size (by repeat (first | (with_reducible first | exact HB.out | apply below_alloc | apply pw_below_drewN | apply below_drew1) | exact HB.out)))); (case aL => have := LMc21.out; omega); intro v205 w22 ho hb hg hat; rw [← Ny204.out] at ho; have n0_ := Aside0.mk (hb); have n1_ := Aside0.mk (Kept.of_grown (S := (fun k_ => P0_ k_)) hg (by repeat (first | (with_reducible first | exact HK.out | apply Kept.alloc | apply Kept.drewN | apply Kept.drew) | exact HK.out)) (fun k_ e_ => (HO_0.out.1 k_ e_))); have n2_ := Aside0.mk (ho); clear HB; clear HK; clear HO_0; have HB := n0_; have HK := n1_; have HO206 := n2_; clear n0_ n1_ n2_; clear ho hb hg hat)); try go_wp2_with (first | ((with_reducible refine gate_builtin (b := .append) (xs := #[.tmp 68, .tmp 75]) rfl ?_); at_builtin; refine Kd.R_append k59 (w0 := w0) w0.heap.size rfl (.tmp 68) (.tmp 75) 27 59 (.agg #[(.int .i64 0), (.string ⟨#[]⟩), (.int .i64 0), (.int .i64 0), (.int .i64 0), (.int .i64 0), (.int .i64 0)]) 64 rfl Try.underlying27 info59 rfl (by decide) (by omega) u9000_ l0 (⟨1, (rd_T36 l2 x18_1).f0, 0, 0, 0, 0, 0⟩ : S59) [.int .i64 1, .string ((rd_T36 l2 x18_1).f0), .int .i64 0, .int .i64 0, .int .i64 0, .int .i64 0, .int .i64 0] (fun k_ => (P0_ k_ ∨ w.heap.size ≤ k_)) (fun _ => False) rfl rfl ?aP (fun _ hk => hk.elim) ?aF ?aO ?aB ?aS ?aL ?_; (case aP => exact k59_mkM _ _ _ (⟨1, (rd_T36 l2 x18_1).f0, 0, 0, 0, 0, 0⟩ : S59)); (case aB => exact (by repeat (first | (with_reducible first | exact HB.out | apply below_alloc | apply pw_below_drewN | apply below_drew1) | exact HB.out))); (case aF => exact (fun k_ hk => (.inr (Nat.le_trans (by first | exact HK.out.1 | exact (show Kept w _ (fun k_ => P0_ k_) from by repeat (first | (with_reducible first | exact HK.out | apply Kept.alloc | apply Kept.drewN | apply Kept.drew) | exact HK.out)).1) hk)))); (case aO => exact (by (with_reducible repeat (first | apply Kd.R_alloc | apply Kd.R_drewN | apply Kd.R_drew)); exact HO_0.out)); (case aS => exact (below_size (by repeat (first | (with_reducible first | exact HB.out | apply below_alloc | apply pw_below_drewN | apply below_drew1) | exact HB.out)))); (case aL => have := LMc21.out; omega); intro v205 w22 ho hb hg hat; rw [← Ny204.out] at ho; have n0_ := Aside0.mk (hb); have n1_ := Aside0.mk (Kept.of_grown (S := (fun k_ => P0_ k_)) hg (by repeat (first | (with_reducible first | exact HK.out | apply Kept.alloc | apply Kept.drewN | apply Kept.drew) | exact HK.out)) (fun k_ e_ => (HO_0.out.1 k_ e_))); have n2_ := Aside0.mk (ho); clear HB; clear HK; clear HO_0; have HB := n0_; have HK := n1_; have HO206 := n2_; clear n0_ n1_ n2_; clear ho hb hg hat)))
                            go_ret
                            exact ⟨_, by first | rfl | (simp [errW_none, errW_some] <;> rfl) | (simp [*, errW_none, errW_some] <;> rfl), by (with_reducible repeat (first | apply Kd.R_alloc | apply Kd.R_drewN | apply Kd.R_drew)); exact HO206.out, by repeat (first | (with_reducible first | exact HB.out | apply below_alloc | apply pw_below_drewN | apply below_drew1) | exact HB.out), by repeat (first | (with_reducible first | exact HK.out | apply Kept.alloc | apply Kept.drewN | apply Kept.drew) | exact HK.out)⟩
                          · rw [if_neg c21] at H
                            exact absurd H (by simp)
                        · rw [if_neg c20] at H
                          have c20b0 : (((rd_T36 l2 x18_1).f2) == (rd (rd_L5 l1 a6) a7)) = false := beq_eq_false_iff_ne.mpr c20
                          have c20b1 : (((rd_T36 l2 x18_1).f2) != (rd (rd_L5 l1 a6) a7)) = true := bne_iff_ne.mpr c20
                          have H' := Aside0.mk H
                          clear H
                          have p200 : 0 ≤ (x18_1 : Int) := of_decide_eq_true (by first | (with_reducible assumption) | assumption)
                          have q200 : x18_1 < (l2.length : Int) := of_decide_eq_true (by first | (with_reducible assumption) | assumption)
                          obtain ⟨ad200, e200, hx200_0, hx200_1, hx200_2, hx200_3, hx200_4, hx200_5, hx200_6⟩ := at_T36 (Kd.C_kept_now HR2.out HK.out) x18_1 p200 q200
                          cases e200
                          replace p200 := eq_true p200
                          replace q200 := eq_true q200
                          have p201 : 0 ≤ (x18_1 : Int) := of_decide_eq_true (by first | (with_reducible assumption) | assumption)
                          have q201 : x18_1 < (l2.length : Int) := of_decide_eq_true (by first | (with_reducible assumption) | assumption)
                          obtain ⟨ad201, e201, hx201_0, hx201_1, hx201_2, hx201_3, hx201_4, hx201_5, hx201_6⟩ := at_T36 (Kd.C_kept_now HR2.out HK.out) x18_1 p201 q201
                          obtain rfl : ad200 = ad201 := (by injection e201)
                          replace p201 := eq_true p201
                          replace q201 := eq_true q201
                          have p202 : 0 ≤ (x18_1 : Int) := of_decide_eq_true (by first | (with_reducible assumption) | assumption)
                          have q202 : x18_1 < (l2.length : Int) := of_decide_eq_true (by first | (with_reducible assumption) | assumption)
                          obtain ⟨ad202, e202, hx202_0, hx202_1, hx202_2, hx202_3, hx202_4, hx202_5, hx202_6⟩ := at_T36 (Kd.C_kept_now HR2.out HK.out) x18_1 p202 q202
                          obtain rfl : ad200 = ad202 := (by injection e202)
                          replace p202 := eq_true p202
                          replace q202 := eq_true q202
                          go_wp2
                          repeat (go_quiet (fail); try go_wp2)
                          go_roundg k1
                          case measure => have := HK1.out; omega
                          case rel => exact ⟨(wrap64 (x18_1 + 1)), (by first | rfl | (simp; done) | (simp [*]; done)), H', ⟨by have := HK1.out; omega⟩, ⟨by (with_reducible repeat (first | apply Kd.R_alloc | apply Kd.R_drewN | apply Kd.R_drew)); exact HO_0.out⟩, ⟨by repeat (first | (with_reducible exact HR195_0.out) | (with_reducible refine Kd.C_alloc ?_ _) | (with_reducible refine Kd.C_drewN ?_ _) | (with_reducible refine Kd.C_drew ?_) | exact HR195_0.out)⟩, ⟨by repeat (first | (with_reducible first | exact HK.out | apply Kept.alloc | apply Kept.drewN | apply Kept.drew) | exact HK.out)⟩, ⟨by repeat (first | (with_reducible first | exact HB.out | apply below_alloc | apply pw_below_drewN | apply below_drew1) | exact HB.out)⟩⟩
                      · rw [if_neg c19] at H
                        have c19b0 : (((rd_T36 l2 x18_1).f1.f1) == a7) = false := beq_eq_false_iff_ne.mpr c19
                        have c19b1 : (((rd_T36 l2 x18_1).f1.f1) != a7) = true := bne_iff_ne.mpr c19
                        have H' := Aside0.mk H
                        clear H
                        have p200 : 0 ≤ (x18_1 : Int) := of_decide_eq_true (by first | (with_reducible assumption) | assumption)
                        have q200 : x18_1 < (l2.length : Int) := of_decide_eq_true (by first | (with_reducible assumption) | assumption)
                        obtain ⟨ad200, e200, hx200_0, hx200_1, hx200_2, hx200_3, hx200_4, hx200_5, hx200_6⟩ := at_T36 (Kd.C_kept_now HR2.out HK.out) x18_1 p200 q200
                        cases e200
                        replace p200 := eq_true p200
                        replace q200 := eq_true q200
                        have p201 : 0 ≤ (x18_1 : Int) := of_decide_eq_true (by first | (with_reducible assumption) | assumption)
                        have q201 : x18_1 < (l2.length : Int) := of_decide_eq_true (by first | (with_reducible assumption) | assumption)
                        obtain ⟨ad201, e201, hx201_0, hx201_1, hx201_2, hx201_3, hx201_4, hx201_5, hx201_6⟩ := at_T36 (Kd.C_kept_now HR2.out HK.out) x18_1 p201 q201
                        obtain rfl : ad200 = ad201 := (by injection e201)
                        replace p201 := eq_true p201
                        replace q201 := eq_true q201
                        go_wp2
                        repeat (go_quiet (fail); try go_wp2)
                        go_roundg k1
                        case measure => have := HK1.out; omega
                        case rel => exact ⟨(wrap64 (x18_1 + 1)), (by first | rfl | (simp; done) | (simp [*]; done)), H', ⟨by have := HK1.out; omega⟩, ⟨by (with_reducible repeat (first | apply Kd.R_alloc | apply Kd.R_drewN | apply Kd.R_drew)); exact HO_0.out⟩, ⟨by repeat (first | (with_reducible exact HR195_0.out) | (with_reducible refine Kd.C_alloc ?_ _) | (with_reducible refine Kd.C_drewN ?_ _) | (with_reducible refine Kd.C_drew ?_) | exact HR195_0.out)⟩, ⟨by repeat (first | (with_reducible first | exact HK.out | apply Kept.alloc | apply Kept.drewN | apply Kept.drew) | exact HK.out)⟩, ⟨by repeat (first | (with_reducible first | exact HB.out | apply below_alloc | apply pw_below_drewN | apply below_drew1) | exact HB.out)⟩⟩
                    · rw [if_neg c18] at H
                      have c18b0 : (((rd_T36 l2 x18_1).f1.f0) == a6) = false := beq_eq_false_iff_ne.mpr c18
                      have c18b1 : (((rd_T36 l2 x18_1).f1.f0) != a6) = true := bne_iff_ne.mpr c18
                      have H' := Aside0.mk H
                      clear H
                      have p200 : 0 ≤ (x18_1 : Int) := of_decide_eq_true (by first | (with_reducible assumption) | assumption)
                      have q200 : x18_1 < (l2.length : Int) := of_decide_eq_true (by first | (with_reducible assumption) | assumption)
                      obtain ⟨ad200, e200, hx200_0, hx200_1, hx200_2, hx200_3, hx200_4, hx200_5, hx200_6⟩ := at_T36 (Kd.C_kept_now HR2.out HK.out) x18_1 p200 q200
                      cases e200
                      replace p200 := eq_true p200
                      replace q200 := eq_true q200
                      go_wp2
                      repeat (go_quiet (fail); try go_wp2)
                      go_roundg k1
                      case measure => have := HK1.out; omega
                      case rel => exact ⟨(wrap64 (x18_1 + 1)), (by first | rfl | (simp; done) | (simp [*]; done)), H', ⟨by have := HK1.out; omega⟩, ⟨by (with_reducible repeat (first | apply Kd.R_alloc | apply Kd.R_drewN | apply Kd.R_drew)); exact HO_0.out⟩, ⟨by repeat (first | (with_reducible exact HR195_0.out) | (with_reducible refine Kd.C_alloc ?_ _) | (with_reducible refine Kd.C_drewN ?_ _) | (with_reducible refine Kd.C_drew ?_) | exact HR195_0.out)⟩, ⟨by repeat (first | (with_reducible first | exact HK.out | apply Kept.alloc | apply Kept.drewN | apply Kept.drew) | exact HK.out)⟩, ⟨by repeat (first | (with_reducible first | exact HB.out | apply below_alloc | apply pw_below_drewN | apply below_drew1) | exact HB.out)⟩⟩
                  · rw [if_neg c17] at H
                    exact absurd H (by simp)
                · rw [if_neg c16] at H
                  have c16b0 : decide (x18_1 < (l2.length : Int)) = false := decide_eq_false c16
                  clear c16
                  have H' := Aside0.mk H
                  clear H
                  obtain ⟨Ao23, co23, eo23⟩ := Kd.R_slice HO_0.out
                  subst eo23
                  go_wp2
                  repeat (go_quiet (fail); try go_wp2)
                  go_loopg [0, 20] k1 (fun kq v0 v20 w' => ∃ (x0_2 : List (S59)) (x20_2 : Int), v20 = .int .i64 x20_2 ∧ Aside0 (gangsawref25_part.l1 kq x0_2 l1 l2 a3 a4 a5 a6 a7 (rd (rd_L5 l1 a6) a7) (l0.length : Int) x20_2 = some r) ∧ Aside0 (kq ≤ k1) ∧ Aside0 (Kd.R k59 59 w' w0.heap.size (fun k_ => (P0_ k_ ∨ w.heap.size ≤ k_)) v0 x0_2) ∧ Aside0 (Kd.C (Kd.int .i64) w' (some ad196) (rd_L5 l1 a6).length (rd_L5 l1 a6)) ∧ Aside0 (Kept w w' (fun k_ => P0_ k_)) ∧ Aside0 (Below w0.heap.size w0 w'))
                  case atStart => exact ⟨(l0), (1), (by first | rfl | (simp; done) | (simp [*]; done)), H', ⟨Nat.le_refl _⟩, ⟨by (with_reducible repeat (first | apply Kd.R_alloc | apply Kd.R_drewN | apply Kd.R_drew)); exact HO_0.out⟩, ⟨by repeat (first | (with_reducible exact HR195_0.out) | (with_reducible refine Kd.C_alloc ?_ _) | (with_reducible refine Kd.C_drewN ?_ _) | (with_reducible refine Kd.C_drew ?_) | exact HR195_0.out)⟩, ⟨by repeat (first | (with_reducible first | exact HK.out | apply Kept.alloc | apply Kept.drewN | apply Kept.drew) | exact HK.out)⟩, ⟨by repeat (first | (with_reducible first | exact HB.out | apply below_alloc | apply pw_below_drewN | apply below_drew1) | exact HB.out)⟩⟩
                  case round =>
                    clear H'
                    try clear c1
                    try clear p1
                    try clear q1
                    try clear hx1
                    try clear c2
                    try clear p2
                    try clear q2
                    try clear hx2
                    try clear c3
                    try clear p6
                    try clear c9
                    try clear c9b0
                    try clear c10
                    try clear c10b0
                    try clear c11
                    try clear c11b0
                    try clear c12
                    try clear c12b0
                    try clear c13
                    try clear c13b0
                    try clear c13b1
                    try clear c14
                    try clear c16
                    try clear c16b0
                    try clear c17
                    try clear c17b0
                    try clear c18
                    try clear c18b0
                    try clear c18b1
                    try clear c19
                    try clear c19b0
                    try clear c19b1
                    try clear p19
                    try clear q19
                    try clear hx19
                    try clear c20
                    try clear c20b0
                    try clear c20b1
                    try clear p20
                    try clear q20
                    try clear hx20
                    try clear c21
                    try clear hx195_0
                    try clear hx196_0
                    try clear hx200_0
                    try clear hx200_1
                    try clear hx200_2
                    try clear hx200_3
                    try clear hx200_4
                    try clear hx200_5
                    try clear hx200_6
                    try clear hx201_0
                    try clear hx201_1
                    try clear hx201_2
                    try clear hx201_3
                    try clear hx201_4
                    try clear hx201_5
                    try clear hx201_6
                    try clear hx202_0
                    try clear hx202_1
                    try clear hx202_2
                    try clear hx202_3
                    try clear hx202_4
                    try clear hx202_5
                    try clear hx202_6
                    try clear hx203_0
                    try clear hx203_1
                    try clear hx203_2
                    try clear hx203_3
                    try clear hx203_4
                    try clear hx203_5
                    try clear hx203_6
                    try clear p1
                    try clear p195
                    try clear p196
                    try clear p2
                    try clear p200
                    try clear p201
                    try clear p202
                    try clear p203
                    try clear q1
                    try clear q195
                    try clear q196
                    try clear q200
                    try clear q201
                    try clear q202
                    try clear q203
                    obtain ⟨x0_2, x20_2, rfl, HA, HK2, HO_0, HR195_0, HK, HB⟩ := hrel
                    cases gk with
                    | zero => exact absurd HA.out (by simp [gangsawref25_part.l1])
                    | succ k2 =>
                      have H := HA.out
                      clear HA
                      simp only [gangsawref25_part.l1] at H
                      by_cases c24 : (wrap64 (x20_2 + a3)) < a6
                      · rw [if_pos c24] at H
                        have c24b0 : decide ((wrap64 (x20_2 + a3)) < a6) = true := decide_eq_true c24
                        clear c24
                        by_cases c25 : 0 ≤ x20_2
                        · rw [if_pos c25] at H
                          have c25b0 : decide (0 ≤ x20_2) = true := decide_eq_true c25
                          clear c25
                          by_cases c26 : x20_2 < (l1.length : Int)
                          · rw [if_pos c26] at H
                            have c26b0 : decide (x20_2 < (l1.length : Int)) = true := decide_eq_true c26
                            clear c26
                            by_cases c27 : 0 ≤ a7
                            · rw [if_pos c27] at H
                              have c27b0 : decide (0 ≤ a7) = true := decide_eq_true c27
                              clear c27
                              by_cases c28 : a7 < ((rd_L5 l1 x20_2).length : Int)
                              · rw [if_pos c28] at H
                                have c28b0 : decide (a7 < ((rd_L5 l1 x20_2).length : Int)) = true := decide_eq_true c28
                                clear c28
                                obtain ⟨ji29, hji29⟩ : ∃ j_ : Int, (wrap64 ((wrap64 (a6 - x20_2)) - a3)) = j_ := ⟨_, rfl⟩
                                replace H : (if 0 ≤ (ji29) then (if (ji29) < (l1.length : Int) then (if a7 < ((rd_L5 l1 (ji29)).length : Int) then (if (wrap64 ((rd (rd_L5 l1 x20_2) a7) + (rd (rd_L5 l1 (ji29)) a7))) = (rd (rd_L5 l1 a6) a7) then (if x0_2.length < 2199023255552 then ((gangsawref25_part.f k2 (x0_2 ++ [(⟨3, (⟨#[]⟩ : ByteArray), 0, wrap64 (a4 + x20_2), a3, wrap64 ((l0.length : Int) + 1), 0⟩ : S59)]) l1 l2 a3 a4 a5 x20_2 a7).bind fun t214 => (if 0 ≤ (l0.length : Int) then (if (l0.length : Int) < (t214.length : Int) then ((gangsawref25_part.f k2 (t214.set ((l0.length : Int) : Int).toNat (⟨(rd_T59 t214 (l0.length : Int)).f0, (rd_T59 t214 (l0.length : Int)).f1, (rd_T59 t214 (l0.length : Int)).f2, (rd_T59 t214 (l0.length : Int)).f3, (rd_T59 t214 (l0.length : Int)).f4, (rd_T59 t214 (l0.length : Int)).f5, (t214.length : Int)⟩ : S59)) l1 l2 a3 (wrap64 ((wrap64 (a4 + x20_2)) + a3)) a5 (ji29) a7).bind fun t218 => (some t218)) else (none)) else (none))) else (none)) else (gangsawref25_part.l1 k2 x0_2 l1 l2 a3 a4 a5 a6 a7 (rd (rd_L5 l1 a6) a7) (l0.length : Int) (wrap64 (x20_2 + 1)))) else (none)) else (none)) else (none)) = some r := by first | (rw [hji29] at H; exact H) | (simp only [hji29] at H ⊢; exact H)
                                have hji29w : (IntKind.i64.wrap ((wrap64 (a6 - x20_2)) - a3)) = ji29 := (i64_w _).trans hji29
                                by_cases c30 : 0 ≤ (ji29)
                                · rw [if_pos c30] at H
                                  have c30b0 : decide (0 ≤ (ji29)) = true := decide_eq_true c30
                                  clear c30
                                  by_cases c31 : (ji29) < (l1.length : Int)
                                  · rw [if_pos c31] at H
                                    have c31b0 : decide ((ji29) < (l1.length : Int)) = true := decide_eq_true c31
                                    clear c31
                                    by_cases c32 : a7 < ((rd_L5 l1 (ji29)).length : Int)
                                    · rw [if_pos c32] at H
                                      have c32b0 : decide (a7 < ((rd_L5 l1 (ji29)).length : Int)) = true := decide_eq_true c32
                                      clear c32
                                      by_cases c33 : (wrap64 ((rd (rd_L5 l1 x20_2) a7) + (rd (rd_L5 l1 (ji29)) a7))) = (rd (rd_L5 l1 a6) a7)
                                      · rw [if_pos c33] at H
                                        have c33b0 : ((wrap64 ((rd (rd_L5 l1 x20_2) a7) + (rd (rd_L5 l1 (ji29)) a7))) == (rd (rd_L5 l1 a6) a7)) = true := beq_iff_eq.mpr c33
                                        have c33b1 : ((wrap64 ((rd (rd_L5 l1 x20_2) a7) + (rd (rd_L5 l1 (ji29)) a7))) != (rd (rd_L5 l1 a6) a7)) = false := bne_eq_false_iff_eq.mpr c33
                                        clear c33
                                        by_cases c34 : x0_2.length < 2199023255552
                                        · rw [if_pos c34] at H
                                          have LMc34 := Aside0.mk c34
                                          clear c34
                                          obtain ⟨y211, hy211⟩ : ∃ y_ : List (S59), y_ = (x0_2 ++ [(⟨3, (⟨#[]⟩ : ByteArray), 0, wrap64 (a4 + x20_2), a3, wrap64 ((l0.length : Int) + 1), 0⟩ : S59)]) := ⟨_, rfl⟩
                                          replace H : ((gangsawref25_part.f k2 y211 l1 l2 a3 a4 a5 x20_2 a7).bind fun t214 => (if 0 ≤ (l0.length : Int) then (if (l0.length : Int) < (t214.length : Int) then ((gangsawref25_part.f k2 (t214.set ((l0.length : Int) : Int).toNat (⟨(rd_T59 t214 (l0.length : Int)).f0, (rd_T59 t214 (l0.length : Int)).f1, (rd_T59 t214 (l0.length : Int)).f2, (rd_T59 t214 (l0.length : Int)).f3, (rd_T59 t214 (l0.length : Int)).f4, (rd_T59 t214 (l0.length : Int)).f5, (t214.length : Int)⟩ : S59)) l1 l2 a3 (wrap64 ((wrap64 (a4 + x20_2)) + a3)) a5 (ji29) a7).bind fun t218 => (some t218)) else (none)) else (none))) = some r := by first | (rw [hy211]; with_reducible exact H) | (have H2_ := (Option.bind_some _ _).symm.trans H; rw [hy211]; with_reducible exact H2_) | (have H2_ := (Option.bind_some _ _).symm.trans H; with_reducible exact H2_) | with_reducible exact H | (rw [hy211]; exact H) | exact H
                                          have Ny211 := Aside0.mk hy211
                                          clear hy211
                                          replace H := Option.bind_eq_some_iff.mp H
                                          obtain ⟨t214, A350, H⟩ := H
                                          replace H : (if 0 ≤ (l0.length : Int) then (if (l0.length : Int) < (t214.length : Int) then ((gangsawref25_part.f k2 (t214.set ((l0.length : Int) : Int).toNat (⟨(rd_T59 t214 (l0.length : Int)).f0, (rd_T59 t214 (l0.length : Int)).f1, (rd_T59 t214 (l0.length : Int)).f2, (rd_T59 t214 (l0.length : Int)).f3, (rd_T59 t214 (l0.length : Int)).f4, (rd_T59 t214 (l0.length : Int)).f5, (t214.length : Int)⟩ : S59)) l1 l2 a3 (wrap64 ((wrap64 (a4 + x20_2)) + a3)) a5 (ji29) a7).bind fun t218 => (some t218)) else (none)) else (none)) = some r := H
                                          have A35 := Aside0.mk A350
                                          clear A350
                                          by_cases c36 : 0 ≤ (l0.length : Int)
                                          · rw [if_pos c36] at H
                                            have c36b0 : decide (0 ≤ (l0.length : Int)) = true := decide_eq_true c36
                                            have c36b1 : decide (0 ≤ l0.length) = true := decide_eq_true (by omega)
                                            clear c36
                                            by_cases c37 : (l0.length : Int) < (t214.length : Int)
                                            · rw [if_pos c37] at H
                                              have c37b0 : decide ((l0.length : Int) < (t214.length : Int)) = true := decide_eq_true c37
                                              have c37b1 : decide (l0.length < t214.length) = true := decide_eq_true (Int.ofNat_lt.mp c37)
                                              clear c37
                                              obtain ⟨y217, hy217⟩ : ∃ y_ : List (S59), y_ = (t214.set ((l0.length : Int) : Int).toNat (⟨(rd_T59 t214 (l0.length : Int)).f0, (rd_T59 t214 (l0.length : Int)).f1, (rd_T59 t214 (l0.length : Int)).f2, (rd_T59 t214 (l0.length : Int)).f3, (rd_T59 t214 (l0.length : Int)).f4, (rd_T59 t214 (l0.length : Int)).f5, (t214.length : Int)⟩ : S59)) := ⟨_, rfl⟩
                                              replace H : ((gangsawref25_part.f k2 y217 l1 l2 a3 (wrap64 ((wrap64 (a4 + x20_2)) + a3)) a5 (ji29) a7).bind fun t218 => (some t218)) = some r := by first | (rw [hy217]; with_reducible exact H) | (have H2_ := (Option.bind_some _ _).symm.trans H; rw [hy217]; with_reducible exact H2_) | (have H2_ := (Option.bind_some _ _).symm.trans H; with_reducible exact H2_) | with_reducible exact H | (rw [hy217]; exact H) | exact H
                                              have Ny217 := Aside0.mk hy217
                                              clear hy217
                                              replace H := Option.bind_eq_some_iff.mp H
                                              obtain ⟨t218, A390, H⟩ := H
                                              replace H : (some t218) = some r := H
                                              have A39 := Aside0.mk A390
                                              clear A390
                                              obtain rfl := Option.some.inj H
                                              have p207 : 0 ≤ (x20_2 : Int) := of_decide_eq_true (by first | (with_reducible assumption) | assumption)
                                              have q207 : x20_2 < (l1.length : Int) := of_decide_eq_true (by first | (with_reducible assumption) | assumption)
                                              obtain ⟨ad207, A207_0, c207_0, e207, hx207_0, hl207_0, hi207_0⟩ := at_L5 (Kd.C_kept_now HR1.out HK.out) x20_2 p207 q207
                                              obtain rfl : ad195 = ad207 := (by injection e207)
                                              have HR207_0 := Aside0.mk hi207_0
                                              have HC207_0 := Aside0.mk hl207_0
                                              clear hi207_0 hl207_0
                                              replace p207 := eq_true p207
                                              replace q207 := eq_true q207
                                              have p208 : 0 ≤ (a7 : Int) := of_decide_eq_true (by first | (with_reducible assumption) | assumption)
                                              have q208 : a7 < ((rd_L5 l1 x20_2).length : Int) := of_decide_eq_true (by first | (with_reducible assumption) | assumption)
                                              obtain ⟨ad208, e208, hx208_0⟩ := Kd.at_int (by repeat (first | (with_reducible exact HR207_0.out) | (with_reducible refine Kd.C_alloc ?_ _) | (with_reducible refine Kd.C_drewN ?_ _) | (with_reducible refine Kd.C_drew ?_) | exact HR207_0.out)) a7 p208 q208
                                              cases e208
                                              replace p208 := eq_true p208
                                              replace q208 := eq_true q208
                                              have p209 : 0 ≤ ((ji29) : Int) := of_decide_eq_true (by first | (with_reducible assumption) | assumption)
                                              have q209 : (ji29) < (l1.length : Int) := of_decide_eq_true (by first | (with_reducible assumption) | assumption)
                                              obtain ⟨ad209, A209_0, c209_0, e209, hx209_0, hl209_0, hi209_0⟩ := at_L5 (Kd.C_kept_now HR1.out HK.out) (ji29) p209 q209
                                              obtain rfl : ad195 = ad209 := (by injection e209)
                                              have HR209_0 := Aside0.mk hi209_0
                                              have HC209_0 := Aside0.mk hl209_0
                                              clear hi209_0 hl209_0
                                              replace p209 := eq_true p209
                                              replace q209 := eq_true q209
                                              have p210 : 0 ≤ (a7 : Int) := of_decide_eq_true (by first | (with_reducible assumption) | assumption)
                                              have q210 : a7 < ((rd_L5 l1 (ji29)).length : Int) := of_decide_eq_true (by first | (with_reducible assumption) | assumption)
                                              obtain ⟨ad210, e210, hx210_0⟩ := Kd.at_int (by repeat (first | (with_reducible exact HR209_0.out) | (with_reducible refine Kd.C_alloc ?_ _) | (with_reducible refine Kd.C_drewN ?_ _) | (with_reducible refine Kd.C_drew ?_) | exact HR209_0.out)) a7 p210 q210
                                              cases e210
                                              replace p210 := eq_true p210
                                              replace q210 := eq_true q210
                                              go_wp2_with (first | ((with_reducible refine gate_builtin (b := .append) (xs := #[.tmp 107, .tmp 115]) rfl ?_); at_builtin; refine Kd.R_append k59 (w0 := w0) w0.heap.size rfl (.tmp 107) (.tmp 115) 27 59 (.agg #[(.int .i64 0), (.string ⟨#[]⟩), (.int .i64 0), (.int .i64 0), (.int .i64 0), (.int .i64 0), (.int .i64 0)]) 64 rfl Try.underlying27 info59 rfl (by decide) (by omega) u0 x0_2 (⟨3, (⟨#[]⟩ : ByteArray), 0, wrap64 (a4 + x20_2), a3, wrap64 ((l0.length : Int) + 1), 0⟩ : S59) [.int .i64 3, .string (⟨#[]⟩ : ByteArray), .int .i64 0, .int .i64 (wrap64 (a4 + x20_2)), .int .i64 a3, .int .i64 (wrap64 ((l0.length : Int) + 1)), .int .i64 0] (fun k_ => (P0_ k_ ∨ w.heap.size ≤ k_)) (fun _ => False) rfl rfl ?aP (fun _ hk => hk.elim) ?aF ?aO ?aB ?aS ?aL ?_; (case aP => exact k59_mkM _ _ _ (⟨3, (⟨#[]⟩ : ByteArray), 0, wrap64 (a4 + x20_2), a3, wrap64 ((l0.length : Int) + 1), 0⟩ : S59)); (case aB => exact (by repeat (first | (with_reducible first | exact HB.out | apply below_alloc | apply pw_below_drewN | apply below_drew1) | exact HB.out))); (case aF => exact (fun k_ hk => (.inr (Nat.le_trans (by first | exact HK.out.1 | exact (show Kept w _ (fun k_ => P0_ k_) from by repeat (first | (with_reducible first | exact HK.out | apply Kept.alloc | apply Kept.drewN | apply Kept.drew) | exact HK.out)).1) hk)))); (case aO => exact (by (with_reducible repeat (first | apply Kd.R_alloc | apply Kd.R_drewN | apply Kd.R_drew)); exact HO_0.out)); (case aS => exact (below_size (by repeat (first | (with_reducible first | exact HB.out | apply below_alloc | apply pw_below_drewN | apply below_drew1) | exact HB.out)))); (case aL => have := LMc34.out; omega); intro v212 w40 ho hb hg hat; rw [← Ny211.out] at ho; have n0_ := Aside0.mk (hb); have n1_ := Aside0.mk (Kept.of_grown (S := (fun k_ => P0_ k_)) hg (by repeat (first | (with_reducible first | exact HK.out | apply Kept.alloc | apply Kept.drewN | apply Kept.drew) | exact HK.out)) (fun k_ e_ => (HO_0.out.1 k_ e_))); have n2_ := Aside0.mk (ho); clear HB; clear HK; clear HO_0; have HB := n0_; have HK := n1_; have HO213 := n2_; clear n0_ n1_ n2_; clear ho hb hg hat; obtain ⟨Ao41, co41, eo41⟩ := Kd.R_slice HO213.out; subst eo41) | (go_at_call 36; (with_reducible refine (ih k2 (by have := HK1.out; have := HK2.out; omega) (fun k_ => some k_ = (.slice Ao41 y211.length co41 : Value).ownBlock) (.slice Ao41 y211.length co41) y211 _ _ l1 _ _ l2 a3 a4 a5 x20_2 a7 t214 w0 _ ?side1 ?side2 ?side3 ?side4 ?side5 ?side6 A35.out).mono ?_); (case side1 => repeat (first | (with_reducible first | exact HB.out | apply below_alloc | apply pw_below_drewN | apply below_drew1) | exact HB.out)); (case side2 => exact Kd.R_tight rfl HO213.out); (case side3 => exact Kd.C_kept_call HR1.out (by repeat (first | (with_reducible first | exact HK.out | apply Kept.alloc | apply Kept.drewN | apply Kept.drew) | exact HK.out)) (fun k_ hs_ => (fun e_ => (HO213.out.1 k_ e_.symm)) hs_)); (case side4 => exact HC1.out); (case side5 => exact Kd.C_kept_call HR2.out (by repeat (first | (with_reducible first | exact HK.out | apply Kept.alloc | apply Kept.drewN | apply Kept.drew) | exact HK.out)) (fun k_ hs_ => (fun e_ => (HO213.out.1 k_ e_.symm)) hs_)); (case side6 => exact HC2.out); rintro e w42 ⟨v215, rfl, ho0, hb, hkp⟩; have n0_ := Aside0.mk (Kd.R_mono (ok' := fun k_ => (P0_ k_ ∨ w.heap.size ≤ k_)) ho0 (fun k_ hk_ => Or.elim hk_ (fun hs_ => (HO213.out.1 k_ (hs_).symm)) (fun hn_ => (.inr (Nat.le_trans (by first | exact HK.out.1 | exact (show Kept w _ (fun k_ => P0_ k_) from by repeat (first | (with_reducible first | exact HK.out | apply Kept.alloc | apply Kept.drewN | apply Kept.drew) | exact HK.out)).1) hn_))))); have n1_ := Aside0.mk (Kept.then_ (S := (fun k_ => P0_ k_)) (by repeat (first | (with_reducible first | exact HK.out | apply Kept.alloc | apply Kept.drewN | apply Kept.drew) | exact HK.out)) hkp (fun k_ hs_ => (fun e_ => (HO213.out.1 k_ e_.symm)) hs_)); have n2_ := Aside0.mk (hb); clear HK; clear HB; clear HO213; have HO216 := n0_; have HK := n1_; have HB := n2_; clear n0_ n1_ n2_; (try clear hb); (try clear hkp); (try clear ho0); obtain ⟨Ao43, co43, eo43⟩ := Kd.R_slice HO216.out; subst eo43; have p38 : 0 ≤ ((l0.length : Int) : Int) := of_decide_eq_true (by first | (with_reducible assumption) | assumption); have q38 : ((l0.length : Int) : Int) < ((t214.length : Int) : Int) := of_decide_eq_true (by first | (with_reducible assumption) | assumption); obtain ⟨go38, co38, eo38, gb38, gl38, cl38, HG38⟩ := Kd.R_form HO216.out (by omega); (first | cases eo38 | (injection eo38 with ea_ en_ ec_; (first | subst ea_ | (injection ea_ with ea_; subst ea_)); subst ec_; clear en_)); have GB38 := Aside0.mk gb38; have GG38 := Aside0.mk HG38; clear gb38 gl38 HG38; have HMgo38 := Aside0.mk (show (P0_ go38 ∨ w.heap.size ≤ go38) from (HO216.out.1 _ rfl)); obtain ⟨ce38, hcl38, hM38, hcc38, hfr38⟩ := Kd.R_elem HO216.out z59 ((l0.length : Int) : Int) p38 q38; obtain rfl := k59_openM hM38; have hx38_0 : w42.cell? ⟨go38, ((l0.length : Int) : Int).toNat * 7, none⟩ = some (.int .i64 ((rd_T59 t214 (l0.length : Int)).f0)) := hcc38 0 _ rfl; have hx38_1 : w42.cell? ⟨go38, ((l0.length : Int) : Int).toNat * 7 + 1, none⟩ = some (.string ((rd_T59 t214 (l0.length : Int)).f1)) := hcc38 1 _ rfl; have hx38_2 : w42.cell? ⟨go38, ((l0.length : Int) : Int).toNat * 7 + 2, none⟩ = some (.int .i64 ((rd_T59 t214 (l0.length : Int)).f2)) := hcc38 2 _ rfl; have hx38_3 : w42.cell? ⟨go38, ((l0.length : Int) : Int).toNat * 7 + 3, none⟩ = some (.int .i64 ((rd_T59 t214 (l0.length : Int)).f3)) := hcc38 3 _ rfl; have hx38_4 : w42.cell? ⟨go38, ((l0.length : Int) : Int).toNat * 7 + 4, none⟩ = some (.int .i64 ((rd_T59 t214 (l0.length : Int)).f4)) := hcc38 4 _ rfl; have hx38_5 : w42.cell? ⟨go38, ((l0.length : Int) : Int).toNat * 7 + 5, none⟩ = some (.int .i64 ((rd_T59 t214 (l0.length : Int)).f5)) := hcc38 5 _ rfl; have hx38_6 : w42.cell? ⟨go38, ((l0.length : Int) : Int).toNat * 7 + 6, none⟩ = some (.int .i64 ((rd_T59 t214 (l0.length : Int)).f6)) := hcc38 6 _ rfl; have hf38_0 : w42.frozen? ⟨go38, ((l0.length : Int) : Int).toNat * 7, none⟩ = false := hfr38 0; have hf38_1 : w42.frozen? ⟨go38, ((l0.length : Int) : Int).toNat * 7 + 1, none⟩ = false := hfr38 1; have hf38_2 : w42.frozen? ⟨go38, ((l0.length : Int) : Int).toNat * 7 + 2, none⟩ = false := hfr38 2; have hf38_3 : w42.frozen? ⟨go38, ((l0.length : Int) : Int).toNat * 7 + 3, none⟩ = false := hfr38 3; have hf38_4 : w42.frozen? ⟨go38, ((l0.length : Int) : Int).toNat * 7 + 4, none⟩ = false := hfr38 4; have hf38_5 : w42.frozen? ⟨go38, ((l0.length : Int) : Int).toNat * 7 + 5, none⟩ = false := hfr38 5; have hf38_6 : w42.frozen? ⟨go38, ((l0.length : Int) : Int).toNat * 7 + 6, none⟩ = false := hfr38 6; clear hcl38 hcc38 hfr38 hM38; replace p38 := eq_true p38; replace q38 := eq_true q38; have HX44 := Aside0.mk (show Kd.R k59 59 w42 w0.heap.size (fun k_ => (P0_ k_ ∨ w.heap.size ≤ k_)) (.slice (some ⟨go38, 0, none⟩) t214.length co43) t214 from (by (with_reducible repeat (first | apply Kd.R_alloc | apply Kd.R_drewN | apply Kd.R_drew)); exact HO216.out)); obtain ⟨ce44, hcl44, hM44, hcc44, hfr44⟩ := Kd.R_elem HX44.out z59 ((l0.length : Int) : Int) (of_decide_eq_true (by first | (with_reducible assumption) | assumption)) (by have h_ : ((l0.length : Int) : Int) < ((t214.length : Int) : Int) := of_decide_eq_true (by first | (with_reducible assumption) | assumption); first | exact h_ | (have e_ := (Kd.R_reads' HO216.out).1; omega) | simpa using h_); obtain rfl := k59_openM hM44; have HP44 := Kd.R_seg HX44.out ((l0.length : Int) : Int) (of_decide_eq_true (by first | (with_reducible assumption) | assumption)) (by have h_ : ((l0.length : Int) : Int) < ((t214.length : Int) : Int) := of_decide_eq_true (by first | (with_reducible assumption) | assumption); first | exact h_ | (have e_ := (Kd.R_reads' HO216.out).1; omega) | simpa using h_) (seg := [.int .i64 (t214.length : Int)]) (j := 6) hcl44 hcc44 (show 7 ≤ 7 from by decide) (x' := (⟨(rd_T59 t214 (l0.length : Int)).f0, (rd_T59 t214 (l0.length : Int)).f1, (rd_T59 t214 (l0.length : Int)).f2, (rd_T59 t214 (l0.length : Int)).f3, (rd_T59 t214 (l0.length : Int)).f4, (rd_T59 t214 (l0.length : Int)).f5, (t214.length : Int)⟩ : S59)) (k59_mkM _ _ _ (⟨(rd_T59 t214 (l0.length : Int)).f0, (rd_T59 t214 (l0.length : Int)).f1, (rd_T59 t214 (l0.length : Int)).f2, (rd_T59 t214 (l0.length : Int)).f3, (rd_T59 t214 (l0.length : Int)).f4, (rd_T59 t214 (l0.length : Int)).f5, (t214.length : Int)⟩ : S59) ) (fun _ hk => hk); have hx44_6 := hcc44 6 _ rfl; (try simp only [show (k59).sz = 7 from rfl, Nat.mul_one, Nat.add_zero] at hx44_6); have hf44_6 := hfr44 6; (try simp only [show (k59).sz = 7 from rfl, Nat.mul_one, Nat.add_zero] at hf44_6); (try simp only [Int.toNat_natCast] at hf44_6 hx44_6); clear hcl44 hcc44 hfr44 hM44) | ((with_reducible refine gate_store (t := 3) (p := 131) rfl ?_); (try (rw [drewN_self w42]; generalize hq_ : World.drewN w42 _ = w42; have n0_ := Aside0.mk (Kd.R_at hq_ HO216.out); have n1_ := Aside0.mk (kept_at hq_ HK.out); have n2_ := Aside0.mk (below_at hq_ HB.out); clear hq_ HO216 HK HB; have HO216 := n0_; have HK := n1_; have HB := n2_; clear n0_ n1_ n2_; (try (have HX44 := Aside0.mk (show Kd.R k59 59 w42 w0.heap.size (fun k_ => (P0_ k_ ∨ w.heap.size ≤ k_)) (.slice (some ⟨go38, 0, none⟩) t214.length co43) t214 from (by (with_reducible repeat (first | apply Kd.R_alloc | apply Kd.R_drewN | apply Kd.R_drew)); exact HO216.out)))); (try (obtain ⟨ce44, hcl44, hM44, hcc44, hfr44⟩ := Kd.R_elem HX44.out z59 ((l0.length : Int) : Int) (of_decide_eq_true (by first | (with_reducible assumption) | assumption)) (by have h_ : ((l0.length : Int) : Int) < ((t214.length : Int) : Int) := of_decide_eq_true (by first | (with_reducible assumption) | assumption); first | exact h_ | (have e_ := (Kd.R_reads' HO216.out).1; omega) | simpa using h_))); (try (obtain rfl := k59_openM hM44)); (try (have HP44 := Kd.R_seg HX44.out ((l0.length : Int) : Int) (of_decide_eq_true (by first | (with_reducible assumption) | assumption)) (by have h_ : ((l0.length : Int) : Int) < ((t214.length : Int) : Int) := of_decide_eq_true (by first | (with_reducible assumption) | assumption); first | exact h_ | (have e_ := (Kd.R_reads' HO216.out).1; omega) | simpa using h_) (seg := [.int .i64 (t214.length : Int)]) (j := 6) hcl44 hcc44 (show 7 ≤ 7 from by decide) (x' := (⟨(rd_T59 t214 (l0.length : Int)).f0, (rd_T59 t214 (l0.length : Int)).f1, (rd_T59 t214 (l0.length : Int)).f2, (rd_T59 t214 (l0.length : Int)).f3, (rd_T59 t214 (l0.length : Int)).f4, (rd_T59 t214 (l0.length : Int)).f5, (t214.length : Int)⟩ : S59)) (k59_mkM _ _ _ (⟨(rd_T59 t214 (l0.length : Int)).f0, (rd_T59 t214 (l0.length : Int)).f1, (rd_T59 t214 (l0.length : Int)).f2, (rd_T59 t214 (l0.length : Int)).f3, (rd_T59 t214 (l0.length : Int)).f4, (rd_T59 t214 (l0.length : Int)).f5, (t214.length : Int)⟩ : S59) ) (fun _ hk => hk))); (try (have hx44_6 := hcc44 6 _ rfl)); (try (try simp only [show (k59).sz = 7 from rfl, Nat.mul_one, Nat.add_zero] at hx44_6)); (try (have hf44_6 := hfr44 6)); (try (try simp only [show (k59).sz = 7 from rfl, Nat.mul_one, Nat.add_zero] at hf44_6)); (try simp only [Int.toNat_natCast] at hf44_6 hx44_6); (try (clear hcl44 hcc44 hfr44 hM44)))); refine store_event (t := 3) (p := 131) (v := ?vo_w45) (w1 := (w42.setCell ⟨go38, ((l0.length : Int) : Int).toNat * 7 + 6, none⟩ (.int .i64 (t214.length : Int)))) ?hg ?ho ?hn ?hr ?_; (case ho => rfl); (case hg => rfl); (case hn => rfl); (case hr => first | (go_simp; done) | (go_simp; rfl)); intro w45 hw; have hg : w42.grownBy w45 (some go38) := (by rw [hw]; exact HP44.2); have hp_ : Kd.R k59 59 w45 w0.heap.size (fun k_ => (P0_ k_ ∨ w.heap.size ≤ k_)) (.slice (some ⟨go38, 0, none⟩) t214.length co43) y217 := (by rw [hw, Ny217.out]; exact HP44.1); clear HP44; have n0_ := Aside0.mk (hp_); have n1_ := Aside0.mk ((by rw [hw]; exact below_set (HB.out) GB38.out : Below w0.heap.size w0 w45)); have n2_ := Aside0.mk (Kept.of_grown (S := (fun k_ => P0_ k_)) hg (by repeat (first | (with_reducible first | exact HK.out | apply Kept.alloc | apply Kept.drewN | apply Kept.drew) | exact HK.out)) (fun k_ e_ => (HO216.out.1 k_ e_))); clear HO216; clear HB; clear HK; have HO216 := n0_; have HB := n1_; have HK := n2_; clear n0_ n1_ n2_; clear hg hw hp_) | (go_at_call 36; (with_reducible refine (ih k2 (by have := HK1.out; have := HK2.out; omega) (fun k_ => some k_ = (.slice (some ⟨go38, 0, none⟩) t214.length co43 : Value).ownBlock) (.slice (some ⟨go38, 0, none⟩) t214.length co43) y217 _ _ l1 _ _ l2 a3 (wrap64 ((wrap64 (a4 + x20_2)) + a3)) a5 ji29 a7 t218 w0 _ ?side1 ?side2 ?side3 ?side4 ?side5 ?side6 A39.out).mono ?_); (case side1 => repeat (first | (with_reducible first | exact HB.out | apply below_alloc | apply pw_below_drewN | apply below_drew1) | exact HB.out)); (case side2 => exact Kd.R_tight rfl HO216.out); (case side3 => exact Kd.C_kept_call HR1.out (by repeat (first | (with_reducible first | exact HK.out | apply Kept.alloc | apply Kept.drewN | apply Kept.drew) | exact HK.out)) (fun k_ hs_ => (fun e_ => (HO216.out.1 k_ e_.symm)) hs_)); (case side4 => exact HC1.out); (case side5 => exact Kd.C_kept_call HR2.out (by repeat (first | (with_reducible first | exact HK.out | apply Kept.alloc | apply Kept.drewN | apply Kept.drew) | exact HK.out)) (fun k_ hs_ => (fun e_ => (HO216.out.1 k_ e_.symm)) hs_)); (case side6 => exact HC2.out); rintro e w46 ⟨v219, rfl, ho0, hb, hkp⟩; have n0_ := Aside0.mk (Kd.R_mono (ok' := fun k_ => (P0_ k_ ∨ w.heap.size ≤ k_)) ho0 (fun k_ hk_ => Or.elim hk_ (fun hs_ => (HO216.out.1 k_ (hs_).symm)) (fun hn_ => (.inr (Nat.le_trans (by first | exact HK.out.1 | exact (show Kept w _ (fun k_ => P0_ k_) from by repeat (first | (with_reducible first | exact HK.out | apply Kept.alloc | apply Kept.drewN | apply Kept.drew) | exact HK.out)).1) hn_))))); have n1_ := Aside0.mk (Kept.then_ (S := (fun k_ => P0_ k_)) (by repeat (first | (with_reducible first | exact HK.out | apply Kept.alloc | apply Kept.drewN | apply Kept.drew) | exact HK.out)) hkp (fun k_ hs_ => (fun e_ => (HO216.out.1 k_ e_.symm)) hs_)); have n2_ := Aside0.mk (hb); clear HK; clear HB; clear HO216; have HO220 := n0_; have HK := n1_; have HB := n2_; clear n0_ n1_ n2_; (try clear hb); (try clear hkp); (try clear ho0)))
                                              repeat (go_quiet (first | ((with_reducible refine gate_builtin (b := .append) (xs := #[.tmp 107, .tmp 115]) rfl ?_); at_builtin; refine Kd.R_append k59 (w0 := w0) w0.heap.size rfl (.tmp 107) (.tmp 115) 27 59 (.agg #[(.int .i64 0), (.string ⟨#[]⟩), (.int .i64 0), (.int .i64 0), (.int .i64 0), (.int .i64 0), (.int .i64 0)]) 64 rfl Try.underlying27 info59 rfl (by decide) (by omega) u0 x0_2 (⟨3, (⟨#[]⟩ : ByteArray), 0, wrap64 (a4 + x20_2), a3, wrap64 ((l0.length : Int) + 1), 0⟩ : S59) [.int .i64 3, .string (⟨#[]⟩ : ByteArray), .int .i64 0, .int .i64 (wrap64 (a4 + x20_2)), .int .i64 a3, .int .i64 (wrap64 ((l0.length : Int) + 1)), .int .i64 0] (fun k_ => (P0_ k_ ∨ w.heap.size ≤ k_)) (fun _ => False) rfl rfl ?aP (fun _ hk => hk.elim) ?aF ?aO ?aB ?aS ?aL ?_; (case aP => exact k59_mkM _ _ _ (⟨3, (⟨#[]⟩ : ByteArray), 0, wrap64 (a4 + x20_2), a3, wrap64 ((l0.length : Int) + 1), 0⟩ : S59)); (case aB => exact (by repeat (first | (with_reducible first | exact HB.out | apply below_alloc | apply pw_below_drewN | apply below_drew1) | exact HB.out))); (case aF => exact (fun k_ hk => (.inr (Nat.le_trans (by first | exact HK.out.1 | exact (show Kept w _ (fun k_ => P0_ k_) from by repeat (first | (with_reducible first | exact HK.out | apply Kept.alloc | apply Kept.drewN | apply Kept.drew) | exact HK.out)).1) hk)))); (case aO => exact (by (with_reducible repeat (first | apply Kd.R_alloc | apply Kd.R_drewN | apply Kd.R_drew)); exact HO_0.out)); (case aS => exact (below_size (by repeat (first | (with_reducible first | exact HB.out | apply below_alloc | apply pw_below_drewN | apply below_drew1) | exact HB.out)))); (case aL => have := LMc34.out; omega); intro v212 w40 ho hb hg hat; rw [← Ny211.out] at ho; have n0_ := Aside0.mk (hb); have n1_ := Aside0.mk (Kept.of_grown (S := (fun k_ => P0_ k_)) hg (by repeat (first | (with_reducible first | exact HK.out | apply Kept.alloc | apply Kept.drewN | apply Kept.drew) | exact HK.out)) (fun k_ e_ => (HO_0.out.1 k_ e_))); have n2_ := Aside0.mk (ho); clear HB; clear HK; clear HO_0; have HB := n0_; have HK := n1_; have HO213 := n2_; clear n0_ n1_ n2_; clear ho hb hg hat; obtain ⟨Ao41, co41, eo41⟩ := Kd.R_slice HO213.out; subst eo41) | (go_at_call 36; (with_reducible refine (ih k2 (by have := HK1.out; have := HK2.out; omega) (fun k_ => some k_ = (.slice Ao41 y211.length co41 : Value).ownBlock) (.slice Ao41 y211.length co41) y211 _ _ l1 _ _ l2 a3 a4 a5 x20_2 a7 t214 w0 _ ?side1 ?side2 ?side3 ?side4 ?side5 ?side6 A35.out).mono ?_); (case side1 => repeat (first | (with_reducible first | exact HB.out | apply below_alloc | apply pw_below_drewN | apply below_drew1) | exact HB.out)); (case side2 => exact Kd.R_tight rfl HO213.out); (case side3 => exact Kd.C_kept_call HR1.out (by repeat (first | (with_reducible first | exact HK.out | apply Kept.alloc | apply Kept.drewN | apply Kept.drew) | exact HK.out)) (fun k_ hs_ => (fun e_ => (HO213.out.1 k_ e_.symm)) hs_)); (case side4 => exact HC1.out); (case side5 => exact Kd.C_kept_call HR2.out (by repeat (first | (with_reducible first | exact HK.out | apply Kept.alloc | apply Kept.drewN | apply Kept.drew) | exact HK.out)) (fun k_ hs_ => (fun e_ => (HO213.out.1 k_ e_.symm)) hs_)); (case side6 => exact HC2.out); rintro e w42 ⟨v215, rfl, ho0, hb, hkp⟩; have n0_ := Aside0.mk (Kd.R_mono (ok' := fun k_ => (P0_ k_ ∨ w.heap.size ≤ k_)) ho0 (fun k_ hk_ => Or.elim hk_ (fun hs_ => (HO213.out.1 k_ (hs_).symm)) (fun hn_ => (.inr (Nat.le_trans (by first | exact HK.out.1 | exact (show Kept w _ (fun k_ => P0_ k_) from by repeat (first | (with_reducible first | exact HK.out | apply Kept.alloc | apply Kept.drewN | apply Kept.drew) | exact HK.out)).1) hn_))))); have n1_ := Aside0.mk (Kept.then_ (S := (fun k_ => P0_ k_)) (by repeat (first | (with_reducible first | exact HK.out | apply Kept.alloc | apply Kept.drewN | apply Kept.drew) | exact HK.out)) hkp (fun k_ hs_ => (fun e_ => (HO213.out.1 k_ e_.symm)) hs_)); have n2_ := Aside0.mk (hb); clear HK; clear HB; clear HO213; have HO216 := n0_; have HK := n1_; have HB := n2_; clear n0_ n1_ n2_; (try clear hb); (try clear hkp); (try clear ho0); obtain ⟨Ao43, co43, eo43⟩ := Kd.R_slice HO216.out; subst eo43; have p38 : 0 ≤ ((l0.length : Int) : Int) := of_decide_eq_true (by first | (with_reducible assumption) | assumption); have q38 : ((l0.length : Int) : Int) < ((t214.length : Int) : Int) := of_decide_eq_true (by first | (with_reducible assumption) | assumption); obtain ⟨go38, co38, eo38, gb38, gl38, cl38, HG38⟩ := Kd.R_form HO216.out (by omega); (first | cases eo38 | (injection eo38 with ea_ en_ ec_; (first | subst ea_ | (injection ea_ with ea_; subst ea_)); subst ec_; clear en_)); have GB38 := Aside0.mk gb38; have GG38 := Aside0.mk HG38; clear gb38 gl38 HG38; have HMgo38 := Aside0.mk (show (P0_ go38 ∨ w.heap.size ≤ go38) from (HO216.out.1 _ rfl)); obtain ⟨ce38, hcl38, hM38, hcc38, hfr38⟩ := Kd.R_elem HO216.out z59 ((l0.length : Int) : Int) p38 q38; obtain rfl := k59_openM hM38; have hx38_0 : w42.cell? ⟨go38, ((l0.length : Int) : Int).toNat * 7, none⟩ = some (.int .i64 ((rd_T59 t214 (l0.length : Int)).f0)) := hcc38 0 _ rfl; have hx38_1 : w42.cell? ⟨go38, ((l0.length : Int) : Int).toNat * 7 + 1, none⟩ = some (.string ((rd_T59 t214 (l0.length : Int)).f1)) := hcc38 1 _ rfl; have hx38_2 : w42.cell? ⟨go38, ((l0.length : Int) : Int).toNat * 7 + 2, none⟩ = some (.int .i64 ((rd_T59 t214 (l0.length : Int)).f2)) := hcc38 2 _ rfl; have hx38_3 : w42.cell? ⟨go38, ((l0.length : Int) : Int).toNat * 7 + 3, none⟩ = some (.int .i64 ((rd_T59 t214 (l0.length : Int)).f3)) := hcc38 3 _ rfl; have hx38_4 : w42.cell? ⟨go38, ((l0.length : Int) : Int).toNat * 7 + 4, none⟩ = some (.int .i64 ((rd_T59 t214 (l0.length : Int)).f4)) := hcc38 4 _ rfl; have hx38_5 : w42.cell? ⟨go38, ((l0.length : Int) : Int).toNat * 7 + 5, none⟩ = some (.int .i64 ((rd_T59 t214 (l0.length : Int)).f5)) := hcc38 5 _ rfl; have hx38_6 : w42.cell? ⟨go38, ((l0.length : Int) : Int).toNat * 7 + 6, none⟩ = some (.int .i64 ((rd_T59 t214 (l0.length : Int)).f6)) := hcc38 6 _ rfl; have hf38_0 : w42.frozen? ⟨go38, ((l0.length : Int) : Int).toNat * 7, none⟩ = false := hfr38 0; have hf38_1 : w42.frozen? ⟨go38, ((l0.length : Int) : Int).toNat * 7 + 1, none⟩ = false := hfr38 1; have hf38_2 : w42.frozen? ⟨go38, ((l0.length : Int) : Int).toNat * 7 + 2, none⟩ = false := hfr38 2; have hf38_3 : w42.frozen? ⟨go38, ((l0.length : Int) : Int).toNat * 7 + 3, none⟩ = false := hfr38 3; have hf38_4 : w42.frozen? ⟨go38, ((l0.length : Int) : Int).toNat * 7 + 4, none⟩ = false := hfr38 4; have hf38_5 : w42.frozen? ⟨go38, ((l0.length : Int) : Int).toNat * 7 + 5, none⟩ = false := hfr38 5; have hf38_6 : w42.frozen? ⟨go38, ((l0.length : Int) : Int).toNat * 7 + 6, none⟩ = false := hfr38 6; clear hcl38 hcc38 hfr38 hM38; replace p38 := eq_true p38; replace q38 := eq_true q38; have HX44 := Aside0.mk (show Kd.R k59 59 w42 w0.heap.size (fun k_ => (P0_ k_ ∨ w.heap.size ≤ k_)) (.slice (some ⟨go38, 0, none⟩) t214.length co43) t214 from (by (with_reducible repeat (first | apply Kd.R_alloc | apply Kd.R_drewN | apply Kd.R_drew)); exact HO216.out)); obtain ⟨ce44, hcl44, hM44, hcc44, hfr44⟩ := Kd.R_elem HX44.out z59 ((l0.length : Int) : Int) (of_decide_eq_true (by first | (with_reducible assumption) | assumption)) (by have h_ : ((l0.length : Int) : Int) < ((t214.length : Int) : Int) := of_decide_eq_true (by first | (with_reducible assumption) | assumption); first | exact h_ | (have e_ := (Kd.R_reads' HO216.out).1; omega) | simpa using h_); obtain rfl := k59_openM hM44; have HP44 := Kd.R_seg HX44.out ((l0.length : Int) : Int) (of_decide_eq_true (by first | (with_reducible assumption) | assumption)) (by have h_ : ((l0.length : Int) : Int) < ((t214.length : Int) : Int) := of_decide_eq_true (by first | (with_reducible assumption) | assumption); first | exact h_ | (have e_ := (Kd.R_reads' HO216.out).1; omega) | simpa using h_) (seg := [.int .i64 (t214.length : Int)]) (j := 6) hcl44 hcc44 (show 7 ≤ 7 from by decide) (x' := (⟨(rd_T59 t214 (l0.length : Int)).f0, (rd_T59 t214 (l0.length : Int)).f1, (rd_T59 t214 (l0.length : Int)).f2, (rd_T59 t214 (l0.length : Int)).f3, (rd_T59 t214 (l0.length : Int)).f4, (rd_T59 t214 (l0.length : Int)).f5, (t214.length : Int)⟩ : S59)) (k59_mkM _ _ _ (⟨(rd_T59 t214 (l0.length : Int)).f0, (rd_T59 t214 (l0.length : Int)).f1, (rd_T59 t214 (l0.length : Int)).f2, (rd_T59 t214 (l0.length : Int)).f3, (rd_T59 t214 (l0.length : Int)).f4, (rd_T59 t214 (l0.length : Int)).f5, (t214.length : Int)⟩ : S59) ) (fun _ hk => hk); have hx44_6 := hcc44 6 _ rfl; (try simp only [show (k59).sz = 7 from rfl, Nat.mul_one, Nat.add_zero] at hx44_6); have hf44_6 := hfr44 6; (try simp only [show (k59).sz = 7 from rfl, Nat.mul_one, Nat.add_zero] at hf44_6); (try simp only [Int.toNat_natCast] at hf44_6 hx44_6); clear hcl44 hcc44 hfr44 hM44) | ((with_reducible refine gate_store (t := 3) (p := 131) rfl ?_); (try (rw [drewN_self w42]; generalize hq_ : World.drewN w42 _ = w42; have n0_ := Aside0.mk (Kd.R_at hq_ HO216.out); have n1_ := Aside0.mk (kept_at hq_ HK.out); have n2_ := Aside0.mk (below_at hq_ HB.out); clear hq_ HO216 HK HB; have HO216 := n0_; have HK := n1_; have HB := n2_; clear n0_ n1_ n2_; (try (have HX44 := Aside0.mk (show Kd.R k59 59 w42 w0.heap.size (fun k_ => (P0_ k_ ∨ w.heap.size ≤ k_)) (.slice (some ⟨go38, 0, none⟩) t214.length co43) t214 from (by (with_reducible repeat (first | apply Kd.R_alloc | apply Kd.R_drewN | apply Kd.R_drew)); exact HO216.out)))); (try (obtain ⟨ce44, hcl44, hM44, hcc44, hfr44⟩ := Kd.R_elem HX44.out z59 ((l0.length : Int) : Int) (of_decide_eq_true (by first | (with_reducible assumption) | assumption)) (by have h_ : ((l0.length : Int) : Int) < ((t214.length : Int) : Int) := of_decide_eq_true (by first | (with_reducible assumption) | assumption); first | exact h_ | (have e_ := (Kd.R_reads' HO216.out).1; omega) | simpa using h_))); (try (obtain rfl := k59_openM hM44)); (try (have HP44 := Kd.R_seg HX44.out ((l0.length : Int) : Int) (of_decide_eq_true (by first | (with_reducible assumption) | assumption)) (by have h_ : ((l0.length : Int) : Int) < ((t214.length : Int) : Int) := of_decide_eq_true (by first | (with_reducible assumption) | assumption); first | exact h_ | (have e_ := (Kd.R_reads' HO216.out).1; omega) | simpa using h_) (seg := [.int .i64 (t214.length : Int)]) (j := 6) hcl44 hcc44 (show 7 ≤ 7 from by decide) (x' := (⟨(rd_T59 t214 (l0.length : Int)).f0, (rd_T59 t214 (l0.length : Int)).f1, (rd_T59 t214 (l0.length : Int)).f2, (rd_T59 t214 (l0.length : Int)).f3, (rd_T59 t214 (l0.length : Int)).f4, (rd_T59 t214 (l0.length : Int)).f5, (t214.length : Int)⟩ : S59)) (k59_mkM _ _ _ (⟨(rd_T59 t214 (l0.length : Int)).f0, (rd_T59 t214 (l0.length : Int)).f1, (rd_T59 t214 (l0.length : Int)).f2, (rd_T59 t214 (l0.length : Int)).f3, (rd_T59 t214 (l0.length : Int)).f4, (rd_T59 t214 (l0.length : Int)).f5, (t214.length : Int)⟩ : S59) ) (fun _ hk => hk))); (try (have hx44_6 := hcc44 6 _ rfl)); (try (try simp only [show (k59).sz = 7 from rfl, Nat.mul_one, Nat.add_zero] at hx44_6)); (try (have hf44_6 := hfr44 6)); (try (try simp only [show (k59).sz = 7 from rfl, Nat.mul_one, Nat.add_zero] at hf44_6)); (try simp only [Int.toNat_natCast] at hf44_6 hx44_6); (try (clear hcl44 hcc44 hfr44 hM44)))); refine store_event (t := 3) (p := 131) (v := ?vo_w45) (w1 := (w42.setCell ⟨go38, ((l0.length : Int) : Int).toNat * 7 + 6, none⟩ (.int .i64 (t214.length : Int)))) ?hg ?ho ?hn ?hr ?_; (case ho => rfl); (case hg => rfl); (case hn => rfl); (case hr => first | (go_simp; done) | (go_simp; rfl)); intro w45 hw; have hg : w42.grownBy w45 (some go38) := (by rw [hw]; exact HP44.2); have hp_ : Kd.R k59 59 w45 w0.heap.size (fun k_ => (P0_ k_ ∨ w.heap.size ≤ k_)) (.slice (some ⟨go38, 0, none⟩) t214.length co43) y217 := (by rw [hw, Ny217.out]; exact HP44.1); clear HP44; have n0_ := Aside0.mk (hp_); have n1_ := Aside0.mk ((by rw [hw]; exact below_set (HB.out) GB38.out : Below w0.heap.size w0 w45)); have n2_ := Aside0.mk (Kept.of_grown (S := (fun k_ => P0_ k_)) hg (by repeat (first | (with_reducible first | exact HK.out | apply Kept.alloc | apply Kept.drewN | apply Kept.drew) | exact HK.out)) (fun k_ e_ => (HO216.out.1 k_ e_))); clear HO216; clear HB; clear HK; have HO216 := n0_; have HB := n1_; have HK := n2_; clear n0_ n1_ n2_; clear hg hw hp_) | (go_at_call 36; (with_reducible refine (ih k2 (by have := HK1.out; have := HK2.out; omega) (fun k_ => some k_ = (.slice (some ⟨go38, 0, none⟩) t214.length co43 : Value).ownBlock) (.slice (some ⟨go38, 0, none⟩) t214.length co43) y217 _ _ l1 _ _ l2 a3 (wrap64 ((wrap64 (a4 + x20_2)) + a3)) a5 ji29 a7 t218 w0 _ ?side1 ?side2 ?side3 ?side4 ?side5 ?side6 A39.out).mono ?_); (case side1 => repeat (first | (with_reducible first | exact HB.out | apply below_alloc | apply pw_below_drewN | apply below_drew1) | exact HB.out)); (case side2 => exact Kd.R_tight rfl HO216.out); (case side3 => exact Kd.C_kept_call HR1.out (by repeat (first | (with_reducible first | exact HK.out | apply Kept.alloc | apply Kept.drewN | apply Kept.drew) | exact HK.out)) (fun k_ hs_ => (fun e_ => (HO216.out.1 k_ e_.symm)) hs_)); (case side4 => exact HC1.out); (case side5 => exact Kd.C_kept_call HR2.out (by repeat (first | (with_reducible first | exact HK.out | apply Kept.alloc | apply Kept.drewN | apply Kept.drew) | exact HK.out)) (fun k_ hs_ => (fun e_ => (HO216.out.1 k_ e_.symm)) hs_)); (case side6 => exact HC2.out); rintro e w46 ⟨v219, rfl, ho0, hb, hkp⟩; have n0_ := Aside0.mk (Kd.R_mono (ok' := fun k_ => (P0_ k_ ∨ w.heap.size ≤ k_)) ho0 (fun k_ hk_ => Or.elim hk_ (fun hs_ => (HO216.out.1 k_ (hs_).symm)) (fun hn_ => (.inr (Nat.le_trans (by first | exact HK.out.1 | exact (show Kept w _ (fun k_ => P0_ k_) from by repeat (first | (with_reducible first | exact HK.out | apply Kept.alloc | apply Kept.drewN | apply Kept.drew) | exact HK.out)).1) hn_))))); have n1_ := Aside0.mk (Kept.then_ (S := (fun k_ => P0_ k_)) (by repeat (first | (with_reducible first | exact HK.out | apply Kept.alloc | apply Kept.drewN | apply Kept.drew) | exact HK.out)) hkp (fun k_ hs_ => (fun e_ => (HO216.out.1 k_ e_.symm)) hs_)); have n2_ := Aside0.mk (hb); clear HK; clear HB; clear HO216; have HO220 := n0_; have HK := n1_; have HB := n2_; clear n0_ n1_ n2_; (try clear hb); (try clear hkp); (try clear ho0))); try go_wp2_with (first | ((with_reducible refine gate_builtin (b := .append) (xs := #[.tmp 107, .tmp 115]) rfl ?_); at_builtin; refine Kd.R_append k59 (w0 := w0) w0.heap.size rfl (.tmp 107) (.tmp 115) 27 59 (.agg #[(.int .i64 0), (.string ⟨#[]⟩), (.int .i64 0), (.int .i64 0), (.int .i64 0), (.int .i64 0), (.int .i64 0)]) 64 rfl Try.underlying27 info59 rfl (by decide) (by omega) u0 x0_2 (⟨3, (⟨#[]⟩ : ByteArray), 0, wrap64 (a4 + x20_2), a3, wrap64 ((l0.length : Int) + 1), 0⟩ : S59) [.int .i64 3, .string (⟨#[]⟩ : ByteArray), .int .i64 0, .int .i64 (wrap64 (a4 + x20_2)), .int .i64 a3, .int .i64 (wrap64 ((l0.length : Int) + 1)), .int .i64 0] (fun k_ => (P0_ k_ ∨ w.heap.size ≤ k_)) (fun _ => False) rfl rfl ?aP (fun _ hk => hk.elim) ?aF ?aO ?aB ?aS ?aL ?_; (case aP => exact k59_mkM _ _ _ (⟨3, (⟨#[]⟩ : ByteArray), 0, wrap64 (a4 + x20_2), a3, wrap64 ((l0.length : Int) + 1), 0⟩ : S59)); (case aB => exact (by repeat (first | (with_reducible first | exact HB.out | apply below_alloc | apply pw_below_drewN | apply below_drew1) | exact HB.out))); (case aF => exact (fun k_ hk => (.inr (Nat.le_trans (by first | exact HK.out.1 | exact (show Kept w _ (fun k_ => P0_ k_) from by repeat (first | (with_reducible first | exact HK.out | apply Kept.alloc | apply Kept.drewN | apply Kept.drew) | exact HK.out)).1) hk)))); (case aO => exact (by (with_reducible repeat (first | apply Kd.R_alloc | apply Kd.R_drewN | apply Kd.R_drew)); exact HO_0.out)); (case aS => exact (below_size (by repeat (first | (with_reducible first | exact HB.out | apply below_alloc | apply pw_below_drewN | apply below_drew1) | exact HB.out)))); (case aL => have := LMc34.out; omega); intro v212 w40 ho hb hg hat; rw [← Ny211.out] at ho; have n0_ := Aside0.mk (hb); have n1_ := Aside0.mk (Kept.of_grown (S := (fun k_ => P0_ k_)) hg (by repeat (first | (with_reducible first | exact HK.out | apply Kept.alloc | apply Kept.drewN | apply Kept.drew) | exact HK.out)) (fun k_ e_ => (HO_0.out.1 k_ e_))); have n2_ := Aside0.mk (ho); clear HB; clear HK; clear HO_0; have HB := n0_; have HK := n1_; have HO213 := n2_; clear n0_ n1_ n2_; clear ho hb hg hat; obtain ⟨Ao41, co41, eo41⟩ := Kd.R_slice HO213.out; subst eo41) | (go_at_call 36; (with_reducible refine (ih k2 (by have := HK1.out; have := HK2.out; omega) (fun k_ => some k_ = (.slice Ao41 y211.length co41 : Value).ownBlock) (.slice Ao41 y211.length co41) y211 _ _ l1 _ _ l2 a3 a4 a5 x20_2 a7 t214 w0 _ ?side1 ?side2 ?side3 ?side4 ?side5 ?side6 A35.out).mono ?_); (case side1 => repeat (first | (with_reducible first | exact HB.out | apply below_alloc | apply pw_below_drewN | apply below_drew1) | exact HB.out)); (case side2 => exact Kd.R_tight rfl HO213.out); (case side3 => exact Kd.C_kept_call HR1.out (by repeat (first | (with_reducible first | exact HK.out | apply Kept.alloc | apply Kept.drewN | apply Kept.drew) | exact HK.out)) (fun k_ hs_ => (fun e_ => (HO213.out.1 k_ e_.symm)) hs_)); (case side4 => exact HC1.out); (case side5 => exact Kd.C_kept_call HR2.out (by repeat (first | (with_reducible first | exact HK.out | apply Kept.alloc | apply Kept.drewN | apply Kept.drew) | exact HK.out)) (fun k_ hs_ => (fun e_ => (HO213.out.1 k_ e_.symm)) hs_)); (case side6 => exact HC2.out); rintro e w42 ⟨v215, rfl, ho0, hb, hkp⟩; have n0_ := Aside0.mk (Kd.R_mono (ok' := fun k_ => (P0_ k_ ∨ w.heap.size ≤ k_)) ho0 (fun k_ hk_ => Or.elim hk_ (fun hs_ => (HO213.out.1 k_ (hs_).symm)) (fun hn_ => (.inr (Nat.le_trans (by first | exact HK.out.1 | exact (show Kept w _ (fun k_ => P0_ k_) from by repeat (first | (with_reducible first | exact HK.out | apply Kept.alloc | apply Kept.drewN | apply Kept.drew) | exact HK.out)).1) hn_))))); have n1_ := Aside0.mk (Kept.then_ (S := (fun k_ => P0_ k_)) (by repeat (first | (with_reducible first | exact HK.out | apply Kept.alloc | apply Kept.drewN | apply Kept.drew) | exact HK.out)) hkp (fun k_ hs_ => (fun e_ => (HO213.out.1 k_ e_.symm)) hs_)); have n2_ := Aside0.mk (hb); clear HK; clear HB; clear HO213; have HO216 := n0_; have HK := n1_; have HB := n2_; clear n0_ n1_ n2_; (try clear hb); (try clear hkp); (try clear ho0); obtain ⟨Ao43, co43, eo43⟩ := Kd.R_slice HO216.out; subst eo43; have p38 : 0 ≤ ((l0.length : Int) : Int) := of_decide_eq_true (by first | (with_reducible assumption) | assumption); have q38 : ((l0.length : Int) : Int) < ((t214.length : Int) : Int) := of_decide_eq_true (by first | (with_reducible assumption) | assumption); obtain ⟨go38, co38, eo38, gb38, gl38, cl38, HG38⟩ := Kd.R_form HO216.out (by omega); (first | cases eo38 | (injection eo38 with ea_ en_ ec_; (first | subst ea_ | (injection ea_ with ea_; subst ea_)); subst ec_; clear en_)); have GB38 := Aside0.mk gb38; have GG38 := Aside0.mk HG38; clear gb38 gl38 HG38; have HMgo38 := Aside0.mk (show (P0_ go38 ∨ w.heap.size ≤ go38) from (HO216.out.1 _ rfl)); obtain ⟨ce38, hcl38, hM38, hcc38, hfr38⟩ := Kd.R_elem HO216.out z59 ((l0.length : Int) : Int) p38 q38; obtain rfl := k59_openM hM38; have hx38_0 : w42.cell? ⟨go38, ((l0.length : Int) : Int).toNat * 7, none⟩ = some (.int .i64 ((rd_T59 t214 (l0.length : Int)).f0)) := hcc38 0 _ rfl; have hx38_1 : w42.cell? ⟨go38, ((l0.length : Int) : Int).toNat * 7 + 1, none⟩ = some (.string ((rd_T59 t214 (l0.length : Int)).f1)) := hcc38 1 _ rfl; have hx38_2 : w42.cell? ⟨go38, ((l0.length : Int) : Int).toNat * 7 + 2, none⟩ = some (.int .i64 ((rd_T59 t214 (l0.length : Int)).f2)) := hcc38 2 _ rfl; have hx38_3 : w42.cell? ⟨go38, ((l0.length : Int) : Int).toNat * 7 + 3, none⟩ = some (.int .i64 ((rd_T59 t214 (l0.length : Int)).f3)) := hcc38 3 _ rfl; have hx38_4 : w42.cell? ⟨go38, ((l0.length : Int) : Int).toNat * 7 + 4, none⟩ = some (.int .i64 ((rd_T59 t214 (l0.length : Int)).f4)) := hcc38 4 _ rfl; have hx38_5 : w42.cell? ⟨go38, ((l0.length : Int) : Int).toNat * 7 + 5, none⟩ = some (.int .i64 ((rd_T59 t214 (l0.length : Int)).f5)) := hcc38 5 _ rfl; have hx38_6 : w42.cell? ⟨go38, ((l0.length : Int) : Int).toNat * 7 + 6, none⟩ = some (.int .i64 ((rd_T59 t214 (l0.length : Int)).f6)) := hcc38 6 _ rfl; have hf38_0 : w42.frozen? ⟨go38, ((l0.length : Int) : Int).toNat * 7, none⟩ = false := hfr38 0; have hf38_1 : w42.frozen? ⟨go38, ((l0.length : Int) : Int).toNat * 7 + 1, none⟩ = false := hfr38 1; have hf38_2 : w42.frozen? ⟨go38, ((l0.length : Int) : Int).toNat * 7 + 2, none⟩ = false := hfr38 2; have hf38_3 : w42.frozen? ⟨go38, ((l0.length : Int) : Int).toNat * 7 + 3, none⟩ = false := hfr38 3; have hf38_4 : w42.frozen? ⟨go38, ((l0.length : Int) : Int).toNat * 7 + 4, none⟩ = false := hfr38 4; have hf38_5 : w42.frozen? ⟨go38, ((l0.length : Int) : Int).toNat * 7 + 5, none⟩ = false := hfr38 5; have hf38_6 : w42.frozen? ⟨go38, ((l0.length : Int) : Int).toNat * 7 + 6, none⟩ = false := hfr38 6; clear hcl38 hcc38 hfr38 hM38; replace p38 := eq_true p38; replace q38 := eq_true q38; have HX44 := Aside0.mk (show Kd.R k59 59 w42 w0.heap.size (fun k_ => (P0_ k_ ∨ w.heap.size ≤ k_)) (.slice (some ⟨go38, 0, none⟩) t214.length co43) t214 from (by (with_reducible repeat (first | apply Kd.R_alloc | apply Kd.R_drewN | apply Kd.R_drew)); exact HO216.out)); obtain ⟨ce44, hcl44, hM44, hcc44, hfr44⟩ := Kd.R_elem HX44.out z59 ((l0.length : Int) : Int) (of_decide_eq_true (by first | (with_reducible assumption) | assumption)) (by have h_ : ((l0.length : Int) : Int) < ((t214.length : Int) : Int) := of_decide_eq_true (by first | (with_reducible assumption) | assumption); first | exact h_ | (have e_ := (Kd.R_reads' HO216.out).1; omega) | simpa using h_); obtain rfl := k59_openM hM44; have HP44 := Kd.R_seg HX44.out ((l0.length : Int) : Int) (of_decide_eq_true (by first | (with_reducible assumption) | assumption)) (by have h_ : ((l0.length : Int) : Int) < ((t214.length : Int) : Int) := of_decide_eq_true (by first | (with_reducible assumption) | assumption); first | exact h_ | (have e_ := (Kd.R_reads' HO216.out).1; omega) | simpa using h_) (seg := [.int .i64 (t214.length : Int)]) (j := 6) hcl44 hcc44 (show 7 ≤ 7 from by decide) (x' := (⟨(rd_T59 t214 (l0.length : Int)).f0, (rd_T59 t214 (l0.length : Int)).f1, (rd_T59 t214 (l0.length : Int)).f2, (rd_T59 t214 (l0.length : Int)).f3, (rd_T59 t214 (l0.length : Int)).f4, (rd_T59 t214 (l0.length : Int)).f5, (t214.length : Int)⟩ : S59)) (k59_mkM _ _ _ (⟨(rd_T59 t214 (l0.length : Int)).f0, (rd_T59 t214 (l0.length : Int)).f1, (rd_T59 t214 (l0.length : Int)).f2, (rd_T59 t214 (l0.length : Int)).f3, (rd_T59 t214 (l0.length : Int)).f4, (rd_T59 t214 (l0.length : Int)).f5, (t214.length : Int)⟩ : S59) ) (fun _ hk => hk); have hx44_6 := hcc44 6 _ rfl; (try simp only [show (k59).sz = 7 from rfl, Nat.mul_one, Nat.add_zero] at hx44_6); have hf44_6 := hfr44 6; (try simp only [show (k59).sz = 7 from rfl, Nat.mul_one, Nat.add_zero] at hf44_6); (try simp only [Int.toNat_natCast] at hf44_6 hx44_6); clear hcl44 hcc44 hfr44 hM44) | ((with_reducible refine gate_store (t := 3) (p := 131) rfl ?_); (try (rw [drewN_self w42]; generalize hq_ : World.drewN w42 _ = w42; have n0_ := Aside0.mk (Kd.R_at hq_ HO216.out); have n1_ := Aside0.mk (kept_at hq_ HK.out); have n2_ := Aside0.mk (below_at hq_ HB.out); clear hq_ HO216 HK HB; have HO216 := n0_; have HK := n1_; have HB := n2_; clear n0_ n1_ n2_; (try (have HX44 := Aside0.mk (show Kd.R k59 59 w42 w0.heap.size (fun k_ => (P0_ k_ ∨ w.heap.size ≤ k_)) (.slice (some ⟨go38, 0, none⟩) t214.length co43) t214 from (by (with_reducible repeat (first | apply Kd.R_alloc | apply Kd.R_drewN | apply Kd.R_drew)); exact HO216.out)))); (try (obtain ⟨ce44, hcl44, hM44, hcc44, hfr44⟩ := Kd.R_elem HX44.out z59 ((l0.length : Int) : Int) (of_decide_eq_true (by first | (with_reducible assumption) | assumption)) (by have h_ : ((l0.length : Int) : Int) < ((t214.length : Int) : Int) := of_decide_eq_true (by first | (with_reducible assumption) | assumption); first | exact h_ | (have e_ := (Kd.R_reads' HO216.out).1; omega) | simpa using h_))); (try (obtain rfl := k59_openM hM44)); (try (have HP44 := Kd.R_seg HX44.out ((l0.length : Int) : Int) (of_decide_eq_true (by first | (with_reducible assumption) | assumption)) (by have h_ : ((l0.length : Int) : Int) < ((t214.length : Int) : Int) := of_decide_eq_true (by first | (with_reducible assumption) | assumption); first | exact h_ | (have e_ := (Kd.R_reads' HO216.out).1; omega) | simpa using h_) (seg := [.int .i64 (t214.length : Int)]) (j := 6) hcl44 hcc44 (show 7 ≤ 7 from by decide) (x' := (⟨(rd_T59 t214 (l0.length : Int)).f0, (rd_T59 t214 (l0.length : Int)).f1, (rd_T59 t214 (l0.length : Int)).f2, (rd_T59 t214 (l0.length : Int)).f3, (rd_T59 t214 (l0.length : Int)).f4, (rd_T59 t214 (l0.length : Int)).f5, (t214.length : Int)⟩ : S59)) (k59_mkM _ _ _ (⟨(rd_T59 t214 (l0.length : Int)).f0, (rd_T59 t214 (l0.length : Int)).f1, (rd_T59 t214 (l0.length : Int)).f2, (rd_T59 t214 (l0.length : Int)).f3, (rd_T59 t214 (l0.length : Int)).f4, (rd_T59 t214 (l0.length : Int)).f5, (t214.length : Int)⟩ : S59) ) (fun _ hk => hk))); (try (have hx44_6 := hcc44 6 _ rfl)); (try (try simp only [show (k59).sz = 7 from rfl, Nat.mul_one, Nat.add_zero] at hx44_6)); (try (have hf44_6 := hfr44 6)); (try (try simp only [show (k59).sz = 7 from rfl, Nat.mul_one, Nat.add_zero] at hf44_6)); (try simp only [Int.toNat_natCast] at hf44_6 hx44_6); (try (clear hcl44 hcc44 hfr44 hM44)))); refine store_event (t := 3) (p := 131) (v := ?vo_w45) (w1 := (w42.setCell ⟨go38, ((l0.length : Int) : Int).toNat * 7 + 6, none⟩ (.int .i64 (t214.length : Int)))) ?hg ?ho ?hn ?hr ?_; (case ho => rfl); (case hg => rfl); (case hn => rfl); (case hr => first | (go_simp; done) | (go_simp; rfl)); intro w45 hw; have hg : w42.grownBy w45 (some go38) := (by rw [hw]; exact HP44.2); have hp_ : Kd.R k59 59 w45 w0.heap.size (fun k_ => (P0_ k_ ∨ w.heap.size ≤ k_)) (.slice (some ⟨go38, 0, none⟩) t214.length co43) y217 := (by rw [hw, Ny217.out]; exact HP44.1); clear HP44; have n0_ := Aside0.mk (hp_); have n1_ := Aside0.mk ((by rw [hw]; exact below_set (HB.out) GB38.out : Below w0.heap.size w0 w45)); have n2_ := Aside0.mk (Kept.of_grown (S := (fun k_ => P0_ k_)) hg (by repeat (first | (with_reducible first | exact HK.out | apply Kept.alloc | apply Kept.drewN | apply Kept.drew) | exact HK.out)) (fun k_ e_ => (HO216.out.1 k_ e_))); clear HO216; clear HB; clear HK; have HO216 := n0_; have HB := n1_; have HK := n2_; clear n0_ n1_ n2_; clear hg hw hp_) | (go_at_call 36; (with_reducible refine (ih k2 (by have := HK1.out; have := HK2.out; omega) (fun k_ => some k_ = (.slice (some ⟨go38, 0, none⟩) t214.length co43 : Value).ownBlock) (.slice (some ⟨go38, 0, none⟩) t214.length co43) y217 _ _ l1 _ _ l2 a3 (wrap64 ((wrap64 (a4 + x20_2)) + a3)) a5 ji29 a7 t218 w0 _ ?side1 ?side2 ?side3 ?side4 ?side5 ?side6 A39.out).mono ?_); (case side1 => repeat (first | (with_reducible first | exact HB.out | apply below_alloc | apply pw_below_drewN | apply below_drew1) | exact HB.out)); (case side2 => exact Kd.R_tight rfl HO216.out); (case side3 => exact Kd.C_kept_call HR1.out (by repeat (first | (with_reducible first | exact HK.out | apply Kept.alloc | apply Kept.drewN | apply Kept.drew) | exact HK.out)) (fun k_ hs_ => (fun e_ => (HO216.out.1 k_ e_.symm)) hs_)); (case side4 => exact HC1.out); (case side5 => exact Kd.C_kept_call HR2.out (by repeat (first | (with_reducible first | exact HK.out | apply Kept.alloc | apply Kept.drewN | apply Kept.drew) | exact HK.out)) (fun k_ hs_ => (fun e_ => (HO216.out.1 k_ e_.symm)) hs_)); (case side6 => exact HC2.out); rintro e w46 ⟨v219, rfl, ho0, hb, hkp⟩; have n0_ := Aside0.mk (Kd.R_mono (ok' := fun k_ => (P0_ k_ ∨ w.heap.size ≤ k_)) ho0 (fun k_ hk_ => Or.elim hk_ (fun hs_ => (HO216.out.1 k_ (hs_).symm)) (fun hn_ => (.inr (Nat.le_trans (by first | exact HK.out.1 | exact (show Kept w _ (fun k_ => P0_ k_) from by repeat (first | (with_reducible first | exact HK.out | apply Kept.alloc | apply Kept.drewN | apply Kept.drew) | exact HK.out)).1) hn_))))); have n1_ := Aside0.mk (Kept.then_ (S := (fun k_ => P0_ k_)) (by repeat (first | (with_reducible first | exact HK.out | apply Kept.alloc | apply Kept.drewN | apply Kept.drew) | exact HK.out)) hkp (fun k_ hs_ => (fun e_ => (HO216.out.1 k_ e_.symm)) hs_)); have n2_ := Aside0.mk (hb); clear HK; clear HB; clear HO216; have HO220 := n0_; have HK := n1_; have HB := n2_; clear n0_ n1_ n2_; (try clear hb); (try clear hkp); (try clear ho0))))
                                              go_ret
                                              exact ⟨_, by first | rfl | (simp [errW_none, errW_some] <;> rfl) | (simp only [← hji29]; first | rfl | (simp [errW_none, errW_some] <;> rfl)) | (simp [*, errW_none, errW_some] <;> rfl), by (with_reducible repeat (first | apply Kd.R_alloc | apply Kd.R_drewN | apply Kd.R_drew)); exact HO220.out, by repeat (first | (with_reducible first | exact HB.out | apply below_alloc | apply pw_below_drewN | apply below_drew1) | exact HB.out), by repeat (first | (with_reducible first | exact HK.out | apply Kept.alloc | apply Kept.drewN | apply Kept.drew) | exact HK.out)⟩
                                            · rw [if_neg c37] at H
                                              exact absurd H (by simp)
                                          · rw [if_neg c36] at H
                                            exact absurd H (by simp)
                                        · rw [if_neg c34] at H
                                          exact absurd H (by simp)
                                      · rw [if_neg c33] at H
                                        have c33b0 : ((wrap64 ((rd (rd_L5 l1 x20_2) a7) + (rd (rd_L5 l1 (ji29)) a7))) == (rd (rd_L5 l1 a6) a7)) = false := beq_eq_false_iff_ne.mpr c33
                                        have c33b1 : ((wrap64 ((rd (rd_L5 l1 x20_2) a7) + (rd (rd_L5 l1 (ji29)) a7))) != (rd (rd_L5 l1 a6) a7)) = true := bne_iff_ne.mpr c33
                                        have H' := Aside0.mk H
                                        clear H
                                        have p207 : 0 ≤ (x20_2 : Int) := of_decide_eq_true (by first | (with_reducible assumption) | assumption)
                                        have q207 : x20_2 < (l1.length : Int) := of_decide_eq_true (by first | (with_reducible assumption) | assumption)
                                        obtain ⟨ad207, A207_0, c207_0, e207, hx207_0, hl207_0, hi207_0⟩ := at_L5 (Kd.C_kept_now HR1.out HK.out) x20_2 p207 q207
                                        obtain rfl : ad195 = ad207 := (by injection e207)
                                        have HR207_0 := Aside0.mk hi207_0
                                        have HC207_0 := Aside0.mk hl207_0
                                        clear hi207_0 hl207_0
                                        replace p207 := eq_true p207
                                        replace q207 := eq_true q207
                                        have p208 : 0 ≤ (a7 : Int) := of_decide_eq_true (by first | (with_reducible assumption) | assumption)
                                        have q208 : a7 < ((rd_L5 l1 x20_2).length : Int) := of_decide_eq_true (by first | (with_reducible assumption) | assumption)
                                        obtain ⟨ad208, e208, hx208_0⟩ := Kd.at_int (by repeat (first | (with_reducible exact HR207_0.out) | (with_reducible refine Kd.C_alloc ?_ _) | (with_reducible refine Kd.C_drewN ?_ _) | (with_reducible refine Kd.C_drew ?_) | exact HR207_0.out)) a7 p208 q208
                                        cases e208
                                        replace p208 := eq_true p208
                                        replace q208 := eq_true q208
                                        have p209 : 0 ≤ ((ji29) : Int) := of_decide_eq_true (by first | (with_reducible assumption) | assumption)
                                        have q209 : (ji29) < (l1.length : Int) := of_decide_eq_true (by first | (with_reducible assumption) | assumption)
                                        obtain ⟨ad209, A209_0, c209_0, e209, hx209_0, hl209_0, hi209_0⟩ := at_L5 (Kd.C_kept_now HR1.out HK.out) (ji29) p209 q209
                                        obtain rfl : ad195 = ad209 := (by injection e209)
                                        have HR209_0 := Aside0.mk hi209_0
                                        have HC209_0 := Aside0.mk hl209_0
                                        clear hi209_0 hl209_0
                                        replace p209 := eq_true p209
                                        replace q209 := eq_true q209
                                        have p210 : 0 ≤ (a7 : Int) := of_decide_eq_true (by first | (with_reducible assumption) | assumption)
                                        have q210 : a7 < ((rd_L5 l1 (ji29)).length : Int) := of_decide_eq_true (by first | (with_reducible assumption) | assumption)
                                        obtain ⟨ad210, e210, hx210_0⟩ := Kd.at_int (by repeat (first | (with_reducible exact HR209_0.out) | (with_reducible refine Kd.C_alloc ?_ _) | (with_reducible refine Kd.C_drewN ?_ _) | (with_reducible refine Kd.C_drew ?_) | exact HR209_0.out)) a7 p210 q210
                                        cases e210
                                        replace p210 := eq_true p210
                                        replace q210 := eq_true q210
                                        go_wp2
                                        repeat (go_quiet (fail); try go_wp2)
                                        go_roundg k2
                                        case measure => have := HK1.out; have := HK2.out; omega
                                        case rel => exact ⟨(x0_2), (wrap64 (x20_2 + 1)), (by first | rfl | (simp; done) | (simp [*]; done)), H', ⟨by have := HK1.out; have := HK2.out; omega⟩, ⟨by (with_reducible repeat (first | apply Kd.R_alloc | apply Kd.R_drewN | apply Kd.R_drew)); exact HO_0.out⟩, ⟨by repeat (first | (with_reducible exact HR195_0.out) | (with_reducible refine Kd.C_alloc ?_ _) | (with_reducible refine Kd.C_drewN ?_ _) | (with_reducible refine Kd.C_drew ?_) | exact HR195_0.out)⟩, ⟨by repeat (first | (with_reducible first | exact HK.out | apply Kept.alloc | apply Kept.drewN | apply Kept.drew) | exact HK.out)⟩, ⟨by repeat (first | (with_reducible first | exact HB.out | apply below_alloc | apply pw_below_drewN | apply below_drew1) | exact HB.out)⟩⟩
                                    · rw [if_neg c32] at H
                                      exact absurd H (by simp)
                                  · rw [if_neg c31] at H
                                    exact absurd H (by simp)
                                · rw [if_neg c30] at H
                                  exact absurd H (by simp)
                              · rw [if_neg c28] at H
                                exact absurd H (by simp)
                            · rw [if_neg c27] at H
                              exact absurd H (by simp)
                          · rw [if_neg c26] at H
                            exact absurd H (by simp)
                        · rw [if_neg c25] at H
                          exact absurd H (by simp)
                      · rw [if_neg c24] at H
                        have c24b0 : decide ((wrap64 (x20_2 + a3)) < a6) = false := decide_eq_false c24
                        clear c24
                        have H' := Aside0.mk H
                        clear H
                        go_wp2
                        repeat (go_quiet (fail); try go_wp2)
                        go_loopg [0, 21] k2 (fun kq v0 v21 w' => ∃ (x0_3 : List (S59)) (x21_3 : Int), v21 = .int .i64 x21_3 ∧ Aside0 (gangsawref25_part.l2 kq x0_3 l1 l2 a3 a4 a5 a6 a7 (rd (rd_L5 l1 a6) a7) (l0.length : Int) x21_3 = some r) ∧ Aside0 (kq ≤ k2) ∧ Aside0 (Kd.R k59 59 w' w0.heap.size (fun k_ => (P0_ k_ ∨ w.heap.size ≤ k_)) v0 x0_3) ∧ Aside0 (Kd.C (Kd.int .i64) w' (some ad196) (rd_L5 l1 a6).length (rd_L5 l1 a6)) ∧ Aside0 (Kept w w' (fun k_ => P0_ k_)) ∧ Aside0 (Below w0.heap.size w0 w'))
                        case atStart => exact ⟨(x0_2), (1), (by first | rfl | (simp; done) | (simp [*]; done)), H', ⟨Nat.le_refl _⟩, ⟨by (with_reducible repeat (first | apply Kd.R_alloc | apply Kd.R_drewN | apply Kd.R_drew)); exact HO_0.out⟩, ⟨by repeat (first | (with_reducible exact HR195_0.out) | (with_reducible refine Kd.C_alloc ?_ _) | (with_reducible refine Kd.C_drewN ?_ _) | (with_reducible refine Kd.C_drew ?_) | exact HR195_0.out)⟩, ⟨by repeat (first | (with_reducible first | exact HK.out | apply Kept.alloc | apply Kept.drewN | apply Kept.drew) | exact HK.out)⟩, ⟨by repeat (first | (with_reducible first | exact HB.out | apply below_alloc | apply pw_below_drewN | apply below_drew1) | exact HB.out)⟩⟩
                        case round =>
                          clear H'
                          try clear c1
                          try clear p1
                          try clear q1
                          try clear hx1
                          try clear c2
                          try clear p2
                          try clear q2
                          try clear hx2
                          try clear c3
                          try clear p3
                          try clear q3
                          try clear hx3
                          try clear c4
                          try clear hx4
                          try clear p6
                          try clear c9
                          try clear c9b0
                          try clear c10
                          try clear c10b0
                          try clear c11
                          try clear c11b0
                          try clear c12
                          try clear c12b0
                          try clear c13
                          try clear c13b0
                          try clear c13b1
                          try clear c14
                          try clear c16
                          try clear c16b0
                          try clear c17
                          try clear c17b0
                          try clear c18
                          try clear c18b0
                          try clear c18b1
                          try clear c19
                          try clear c19b0
                          try clear c19b1
                          try clear p19
                          try clear q19
                          try clear hx19
                          try clear c20
                          try clear c20b0
                          try clear c20b1
                          try clear p20
                          try clear q20
                          try clear hx20
                          try clear c21
                          try clear p21
                          try clear q21
                          try clear hx21
                          try clear c24
                          try clear c24b0
                          try clear c25
                          try clear c25b0
                          try clear c26
                          try clear c26b0
                          try clear c27
                          try clear c27b0
                          try clear c28
                          try clear c28b0
                          try clear c30
                          try clear c30b0
                          try clear c31
                          try clear c31b0
                          try clear c32
                          try clear c32b0
                          try clear c33
                          try clear c33b0
                          try clear c33b1
                          try clear c34
                          try clear c36
                          try clear c36b0
                          try clear c36b1
                          try clear c37
                          try clear c37b0
                          try clear c37b1
                          try clear c38
                          try clear p38
                          try clear q38
                          try clear hx38
                          try clear hf38
                          try clear c44
                          try clear hx44
                          try clear hf44
                          try clear hx195_0
                          try clear hx196_0
                          try clear hx200_0
                          try clear hx200_1
                          try clear hx200_2
                          try clear hx200_3
                          try clear hx200_4
                          try clear hx200_5
                          try clear hx200_6
                          try clear hx201_0
                          try clear hx201_1
                          try clear hx201_2
                          try clear hx201_3
                          try clear hx201_4
                          try clear hx201_5
                          try clear hx201_6
                          try clear hx202_0
                          try clear hx202_1
                          try clear hx202_2
                          try clear hx202_3
                          try clear hx202_4
                          try clear hx202_5
                          try clear hx202_6
                          try clear hx203_0
                          try clear hx203_1
                          try clear hx203_2
                          try clear hx203_3
                          try clear hx203_4
                          try clear hx203_5
                          try clear hx203_6
                          try clear hx207_0
                          try clear hx208_0
                          try clear hx209_0
                          try clear hx210_0
                          try clear hx38_0
                          try clear hx38_1
                          try clear hx38_2
                          try clear hx38_3
                          try clear hx38_4
                          try clear hx38_5
                          try clear hx38_6
                          try clear hx44_6
                          try clear p1
                          try clear p19
                          try clear p195
                          try clear p196
                          try clear p2
                          try clear p20
                          try clear p200
                          try clear p201
                          try clear p202
                          try clear p203
                          try clear p207
                          try clear p208
                          try clear p209
                          try clear p210
                          try clear p38
                          try clear p6
                          try clear q1
                          try clear q19
                          try clear q195
                          try clear q196
                          try clear q2
                          try clear q20
                          try clear q200
                          try clear q201
                          try clear q202
                          try clear q203
                          try clear q207
                          try clear q208
                          try clear q209
                          try clear q210
                          try clear q38
                          obtain ⟨x0_3, x21_3, rfl, HA, HK3, HO_0, HR195_0, HK, HB⟩ := hrel
                          cases gk with
                          | zero => exact absurd HA.out (by simp [gangsawref25_part.l2])
                          | succ k3 =>
                            have H := HA.out
                            clear HA
                            simp only [gangsawref25_part.l2] at H
                            by_cases c47 : (wrap64 (x21_3 + a3)) < a7
                            · rw [if_pos c47] at H
                              have c47b0 : decide ((wrap64 (x21_3 + a3)) < a7) = true := decide_eq_true c47
                              clear c47
                              by_cases c48 : 0 ≤ a6
                              · rw [if_pos c48] at H
                                have c48b0 : decide (0 ≤ a6) = true := decide_eq_true c48
                                clear c48
                                by_cases c49 : a6 < (l1.length : Int)
                                · rw [if_pos c49] at H
                                  have c49b0 : decide (a6 < (l1.length : Int)) = true := decide_eq_true c49
                                  clear c49
                                  by_cases c50 : 0 ≤ x21_3
                                  · rw [if_pos c50] at H
                                    have c50b0 : decide (0 ≤ x21_3) = true := decide_eq_true c50
                                    clear c50
                                    by_cases c51 : x21_3 < ((rd_L5 l1 a6).length : Int)
                                    · rw [if_pos c51] at H
                                      have c51b0 : decide (x21_3 < ((rd_L5 l1 a6).length : Int)) = true := decide_eq_true c51
                                      clear c51
                                      obtain ⟨ji52, hji52⟩ : ∃ j_ : Int, (wrap64 ((wrap64 (a7 - x21_3)) - a3)) = j_ := ⟨_, rfl⟩
                                      replace H : (if 0 ≤ (ji52) then (if (ji52) < ((rd_L5 l1 a6).length : Int) then (if (wrap64 ((rd (rd_L5 l1 a6) x21_3) + (rd (rd_L5 l1 a6) (ji52)))) = (rd (rd_L5 l1 a6) a7) then (if x0_3.length < 2199023255552 then ((gangsawref25_part.f k3 (x0_3 ++ [(⟨3, (⟨#[]⟩ : ByteArray), 1, wrap64 (a5 + x21_3), a3, wrap64 ((l0.length : Int) + 1), 0⟩ : S59)]) l1 l2 a3 a4 a5 a6 x21_3).bind fun t228 => (if 0 ≤ (l0.length : Int) then (if (l0.length : Int) < (t228.length : Int) then ((gangsawref25_part.f k3 (t228.set ((l0.length : Int) : Int).toNat (⟨(rd_T59 t228 (l0.length : Int)).f0, (rd_T59 t228 (l0.length : Int)).f1, (rd_T59 t228 (l0.length : Int)).f2, (rd_T59 t228 (l0.length : Int)).f3, (rd_T59 t228 (l0.length : Int)).f4, (rd_T59 t228 (l0.length : Int)).f5, (t228.length : Int)⟩ : S59)) l1 l2 a3 a4 (wrap64 ((wrap64 (a5 + x21_3)) + a3)) a6 (ji52)).bind fun t232 => (some t232)) else (none)) else (none))) else (none)) else (gangsawref25_part.l2 k3 x0_3 l1 l2 a3 a4 a5 a6 a7 (rd (rd_L5 l1 a6) a7) (l0.length : Int) (wrap64 (x21_3 + 1)))) else (none)) else (none)) = some r := by first | (rw [hji52] at H; exact H) | (simp only [hji52] at H ⊢; exact H)
                                      have hji52w : (IntKind.i64.wrap ((wrap64 (a7 - x21_3)) - a3)) = ji52 := (i64_w _).trans hji52
                                      by_cases c53 : 0 ≤ (ji52)
                                      · rw [if_pos c53] at H
                                        have c53b0 : decide (0 ≤ (ji52)) = true := decide_eq_true c53
                                        clear c53
                                        by_cases c54 : (ji52) < ((rd_L5 l1 a6).length : Int)
                                        · rw [if_pos c54] at H
                                          have c54b0 : decide ((ji52) < ((rd_L5 l1 a6).length : Int)) = true := decide_eq_true c54
                                          clear c54
                                          by_cases c55 : (wrap64 ((rd (rd_L5 l1 a6) x21_3) + (rd (rd_L5 l1 a6) (ji52)))) = (rd (rd_L5 l1 a6) a7)
                                          · rw [if_pos c55] at H
                                            have c55b0 : ((wrap64 ((rd (rd_L5 l1 a6) x21_3) + (rd (rd_L5 l1 a6) (ji52)))) == (rd (rd_L5 l1 a6) a7)) = true := beq_iff_eq.mpr c55
                                            have c55b1 : ((wrap64 ((rd (rd_L5 l1 a6) x21_3) + (rd (rd_L5 l1 a6) (ji52)))) != (rd (rd_L5 l1 a6) a7)) = false := bne_eq_false_iff_eq.mpr c55
                                            clear c55
                                            by_cases c56 : x0_3.length < 2199023255552
                                            · rw [if_pos c56] at H
                                              have LMc56 := Aside0.mk c56
                                              clear c56
                                              obtain ⟨y225, hy225⟩ : ∃ y_ : List (S59), y_ = (x0_3 ++ [(⟨3, (⟨#[]⟩ : ByteArray), 1, wrap64 (a5 + x21_3), a3, wrap64 ((l0.length : Int) + 1), 0⟩ : S59)]) := ⟨_, rfl⟩
                                              replace H : ((gangsawref25_part.f k3 y225 l1 l2 a3 a4 a5 a6 x21_3).bind fun t228 => (if 0 ≤ (l0.length : Int) then (if (l0.length : Int) < (t228.length : Int) then ((gangsawref25_part.f k3 (t228.set ((l0.length : Int) : Int).toNat (⟨(rd_T59 t228 (l0.length : Int)).f0, (rd_T59 t228 (l0.length : Int)).f1, (rd_T59 t228 (l0.length : Int)).f2, (rd_T59 t228 (l0.length : Int)).f3, (rd_T59 t228 (l0.length : Int)).f4, (rd_T59 t228 (l0.length : Int)).f5, (t228.length : Int)⟩ : S59)) l1 l2 a3 a4 (wrap64 ((wrap64 (a5 + x21_3)) + a3)) a6 (ji52)).bind fun t232 => (some t232)) else (none)) else (none))) = some r := by first | (rw [hy225]; with_reducible exact H) | (have H2_ := (Option.bind_some _ _).symm.trans H; rw [hy225]; with_reducible exact H2_) | (have H2_ := (Option.bind_some _ _).symm.trans H; with_reducible exact H2_) | with_reducible exact H | (rw [hy225]; exact H) | exact H
                                              have Ny225 := Aside0.mk hy225
                                              clear hy225
                                              replace H := Option.bind_eq_some_iff.mp H
                                              obtain ⟨t228, A570, H⟩ := H
                                              replace H : (if 0 ≤ (l0.length : Int) then (if (l0.length : Int) < (t228.length : Int) then ((gangsawref25_part.f k3 (t228.set ((l0.length : Int) : Int).toNat (⟨(rd_T59 t228 (l0.length : Int)).f0, (rd_T59 t228 (l0.length : Int)).f1, (rd_T59 t228 (l0.length : Int)).f2, (rd_T59 t228 (l0.length : Int)).f3, (rd_T59 t228 (l0.length : Int)).f4, (rd_T59 t228 (l0.length : Int)).f5, (t228.length : Int)⟩ : S59)) l1 l2 a3 a4 (wrap64 ((wrap64 (a5 + x21_3)) + a3)) a6 (ji52)).bind fun t232 => (some t232)) else (none)) else (none)) = some r := H
                                              have A57 := Aside0.mk A570
                                              clear A570
                                              by_cases c58 : 0 ≤ (l0.length : Int)
                                              · rw [if_pos c58] at H
                                                have c58b0 : decide (0 ≤ (l0.length : Int)) = true := decide_eq_true c58
                                                have c58b1 : decide (0 ≤ l0.length) = true := decide_eq_true (by omega)
                                                clear c58
                                                by_cases c59 : (l0.length : Int) < (t228.length : Int)
                                                · rw [if_pos c59] at H
                                                  have c59b0 : decide ((l0.length : Int) < (t228.length : Int)) = true := decide_eq_true c59
                                                  have c59b1 : decide (l0.length < t228.length) = true := decide_eq_true (Int.ofNat_lt.mp c59)
                                                  clear c59
                                                  obtain ⟨y231, hy231⟩ : ∃ y_ : List (S59), y_ = (t228.set ((l0.length : Int) : Int).toNat (⟨(rd_T59 t228 (l0.length : Int)).f0, (rd_T59 t228 (l0.length : Int)).f1, (rd_T59 t228 (l0.length : Int)).f2, (rd_T59 t228 (l0.length : Int)).f3, (rd_T59 t228 (l0.length : Int)).f4, (rd_T59 t228 (l0.length : Int)).f5, (t228.length : Int)⟩ : S59)) := ⟨_, rfl⟩
                                                  replace H : ((gangsawref25_part.f k3 y231 l1 l2 a3 a4 (wrap64 ((wrap64 (a5 + x21_3)) + a3)) a6 (ji52)).bind fun t232 => (some t232)) = some r := by first | (rw [hy231]; with_reducible exact H) | (have H2_ := (Option.bind_some _ _).symm.trans H; rw [hy231]; with_reducible exact H2_) | (have H2_ := (Option.bind_some _ _).symm.trans H; with_reducible exact H2_) | with_reducible exact H | (rw [hy231]; exact H) | exact H
                                                  have Ny231 := Aside0.mk hy231
                                                  clear hy231
                                                  replace H := Option.bind_eq_some_iff.mp H
                                                  obtain ⟨t232, A610, H⟩ := H
                                                  replace H : (some t232) = some r := H
                                                  have A61 := Aside0.mk A610
                                                  clear A610
                                                  obtain rfl := Option.some.inj H
                                                  have p221 : 0 ≤ (a6 : Int) := of_decide_eq_true (by first | (with_reducible assumption) | assumption)
                                                  have q221 : a6 < (l1.length : Int) := of_decide_eq_true (by first | (with_reducible assumption) | assumption)
                                                  obtain ⟨ad221, A221_0, c221_0, e221, hx221_0, hl221_0, hi221_0⟩ := at_L5 (Kd.C_kept_now HR1.out HK.out) a6 p221 q221
                                                  obtain rfl : ad195 = ad221 := (by injection e221)
                                                  have HR221_0 := Aside0.mk hi221_0
                                                  have HC221_0 := Aside0.mk hl221_0
                                                  clear hi221_0 hl221_0
                                                  replace p221 := eq_true p221
                                                  replace q221 := eq_true q221
                                                  have p222 : 0 ≤ (x21_3 : Int) := of_decide_eq_true (by first | (with_reducible assumption) | assumption)
                                                  have q222 : x21_3 < ((rd_L5 l1 a6).length : Int) := of_decide_eq_true (by first | (with_reducible assumption) | assumption)
                                                  obtain ⟨ad222, e222, hx222_0⟩ := Kd.at_int (by repeat (first | (with_reducible exact HR221_0.out) | (with_reducible refine Kd.C_alloc ?_ _) | (with_reducible refine Kd.C_drewN ?_ _) | (with_reducible refine Kd.C_drew ?_) | exact HR221_0.out)) x21_3 p222 q222
                                                  cases e222
                                                  replace p222 := eq_true p222
                                                  replace q222 := eq_true q222
                                                  have p223 : 0 ≤ (a6 : Int) := of_decide_eq_true (by first | (with_reducible assumption) | assumption)
                                                  have q223 : a6 < (l1.length : Int) := of_decide_eq_true (by first | (with_reducible assumption) | assumption)
                                                  obtain ⟨ad223, A223_0, c223_0, e223, hx223_0, hl223_0, hi223_0⟩ := at_L5 (Kd.C_kept_now HR1.out HK.out) a6 p223 q223
                                                  obtain rfl : ad195 = ad223 := (by injection e223)
                                                  have HR223_0 := Aside0.mk hi223_0
                                                  have HC223_0 := Aside0.mk hl223_0
                                                  clear hi223_0 hl223_0
                                                  replace p223 := eq_true p223
                                                  replace q223 := eq_true q223
                                                  have ea_ := Option.some.inj (hx221_0.symm.trans hx223_0)
                                                  injection ea_ with ea_ en_ ec_
                                                  subst ea_
                                                  subst ec_
                                                  clear en_
                                                  have p224 : 0 ≤ ((ji52) : Int) := of_decide_eq_true (by first | (with_reducible assumption) | assumption)
                                                  have q224 : (ji52) < ((rd_L5 l1 a6).length : Int) := of_decide_eq_true (by first | (with_reducible assumption) | assumption)
                                                  obtain ⟨ad224, e224, hx224_0⟩ := Kd.at_int (by repeat (first | (with_reducible exact HR223_0.out) | (with_reducible refine Kd.C_alloc ?_ _) | (with_reducible refine Kd.C_drewN ?_ _) | (with_reducible refine Kd.C_drew ?_) | exact HR223_0.out)) (ji52) p224 q224
                                                  cases e224
                                                  replace p224 := eq_true p224
                                                  replace q224 := eq_true q224
                                                  go_wp2_with (first | ((with_reducible refine gate_builtin (b := .append) (xs := #[.tmp 177, .tmp 185]) rfl ?_); at_builtin; refine Kd.R_append k59 (w0 := w0) w0.heap.size rfl (.tmp 177) (.tmp 185) 27 59 (.agg #[(.int .i64 0), (.string ⟨#[]⟩), (.int .i64 0), (.int .i64 0), (.int .i64 0), (.int .i64 0), (.int .i64 0)]) 64 rfl Try.underlying27 info59 rfl (by decide) (by omega) u0 x0_3 (⟨3, (⟨#[]⟩ : ByteArray), 1, wrap64 (a5 + x21_3), a3, wrap64 ((l0.length : Int) + 1), 0⟩ : S59) [.int .i64 3, .string (⟨#[]⟩ : ByteArray), .int .i64 1, .int .i64 (wrap64 (a5 + x21_3)), .int .i64 a3, .int .i64 (wrap64 ((l0.length : Int) + 1)), .int .i64 0] (fun k_ => (P0_ k_ ∨ w.heap.size ≤ k_)) (fun _ => False) rfl rfl ?aP (fun _ hk => hk.elim) ?aF ?aO ?aB ?aS ?aL ?_; (case aP => exact k59_mkM _ _ _ (⟨3, (⟨#[]⟩ : ByteArray), 1, wrap64 (a5 + x21_3), a3, wrap64 ((l0.length : Int) + 1), 0⟩ : S59)); (case aB => exact (by repeat (first | (with_reducible first | exact HB.out | apply below_alloc | apply pw_below_drewN | apply below_drew1) | exact HB.out))); (case aF => exact (fun k_ hk => (.inr (Nat.le_trans (by first | exact HK.out.1 | exact (show Kept w _ (fun k_ => P0_ k_) from by repeat (first | (with_reducible first | exact HK.out | apply Kept.alloc | apply Kept.drewN | apply Kept.drew) | exact HK.out)).1) hk)))); (case aO => exact (by (with_reducible repeat (first | apply Kd.R_alloc | apply Kd.R_drewN | apply Kd.R_drew)); exact HO_0.out)); (case aS => exact (below_size (by repeat (first | (with_reducible first | exact HB.out | apply below_alloc | apply pw_below_drewN | apply below_drew1) | exact HB.out)))); (case aL => have := LMc56.out; omega); intro v226 w62 ho hb hg hat; rw [← Ny225.out] at ho; have n0_ := Aside0.mk (hb); have n1_ := Aside0.mk (Kept.of_grown (S := (fun k_ => P0_ k_)) hg (by repeat (first | (with_reducible first | exact HK.out | apply Kept.alloc | apply Kept.drewN | apply Kept.drew) | exact HK.out)) (fun k_ e_ => (HO_0.out.1 k_ e_))); have n2_ := Aside0.mk (ho); clear HB; clear HK; clear HO_0; have HB := n0_; have HK := n1_; have HO227 := n2_; clear n0_ n1_ n2_; clear ho hb hg hat; obtain ⟨Ao63, co63, eo63⟩ := Kd.R_slice HO227.out; subst eo63) | (go_at_call 36; (with_reducible refine (ih k3 (by have := HK1.out; have := HK2.out; have := HK3.out; omega) (fun k_ => some k_ = (.slice Ao63 y225.length co63 : Value).ownBlock) (.slice Ao63 y225.length co63) y225 _ _ l1 _ _ l2 a3 a4 a5 a6 x21_3 t228 w0 _ ?side1 ?side2 ?side3 ?side4 ?side5 ?side6 A57.out).mono ?_); (case side1 => repeat (first | (with_reducible first | exact HB.out | apply below_alloc | apply pw_below_drewN | apply below_drew1) | exact HB.out)); (case side2 => exact Kd.R_tight rfl HO227.out); (case side3 => exact Kd.C_kept_call HR1.out (by repeat (first | (with_reducible first | exact HK.out | apply Kept.alloc | apply Kept.drewN | apply Kept.drew) | exact HK.out)) (fun k_ hs_ => (fun e_ => (HO227.out.1 k_ e_.symm)) hs_)); (case side4 => exact HC1.out); (case side5 => exact Kd.C_kept_call HR2.out (by repeat (first | (with_reducible first | exact HK.out | apply Kept.alloc | apply Kept.drewN | apply Kept.drew) | exact HK.out)) (fun k_ hs_ => (fun e_ => (HO227.out.1 k_ e_.symm)) hs_)); (case side6 => exact HC2.out); rintro e w64 ⟨v229, rfl, ho0, hb, hkp⟩; have n0_ := Aside0.mk (Kd.R_mono (ok' := fun k_ => (P0_ k_ ∨ w.heap.size ≤ k_)) ho0 (fun k_ hk_ => Or.elim hk_ (fun hs_ => (HO227.out.1 k_ (hs_).symm)) (fun hn_ => (.inr (Nat.le_trans (by first | exact HK.out.1 | exact (show Kept w _ (fun k_ => P0_ k_) from by repeat (first | (with_reducible first | exact HK.out | apply Kept.alloc | apply Kept.drewN | apply Kept.drew) | exact HK.out)).1) hn_))))); have n1_ := Aside0.mk (Kept.then_ (S := (fun k_ => P0_ k_)) (by repeat (first | (with_reducible first | exact HK.out | apply Kept.alloc | apply Kept.drewN | apply Kept.drew) | exact HK.out)) hkp (fun k_ hs_ => (fun e_ => (HO227.out.1 k_ e_.symm)) hs_)); have n2_ := Aside0.mk (hb); clear HK; clear HB; clear HO227; have HO230 := n0_; have HK := n1_; have HB := n2_; clear n0_ n1_ n2_; (try clear hb); (try clear hkp); (try clear ho0); obtain ⟨Ao65, co65, eo65⟩ := Kd.R_slice HO230.out; subst eo65; have p60 : 0 ≤ ((l0.length : Int) : Int) := of_decide_eq_true (by first | (with_reducible assumption) | assumption); have q60 : ((l0.length : Int) : Int) < ((t228.length : Int) : Int) := of_decide_eq_true (by first | (with_reducible assumption) | assumption); obtain ⟨go60, co60, eo60, gb60, gl60, cl60, HG60⟩ := Kd.R_form HO230.out (by omega); (first | cases eo60 | (injection eo60 with ea_ en_ ec_; (first | subst ea_ | (injection ea_ with ea_; subst ea_)); subst ec_; clear en_)); have GB60 := Aside0.mk gb60; have GG60 := Aside0.mk HG60; clear gb60 gl60 HG60; have HMgo60 := Aside0.mk (show (P0_ go60 ∨ w.heap.size ≤ go60) from (HO230.out.1 _ rfl)); obtain ⟨ce60, hcl60, hM60, hcc60, hfr60⟩ := Kd.R_elem HO230.out z59 ((l0.length : Int) : Int) p60 q60; obtain rfl := k59_openM hM60; have hx60_0 : w64.cell? ⟨go60, ((l0.length : Int) : Int).toNat * 7, none⟩ = some (.int .i64 ((rd_T59 t228 (l0.length : Int)).f0)) := hcc60 0 _ rfl; have hx60_1 : w64.cell? ⟨go60, ((l0.length : Int) : Int).toNat * 7 + 1, none⟩ = some (.string ((rd_T59 t228 (l0.length : Int)).f1)) := hcc60 1 _ rfl; have hx60_2 : w64.cell? ⟨go60, ((l0.length : Int) : Int).toNat * 7 + 2, none⟩ = some (.int .i64 ((rd_T59 t228 (l0.length : Int)).f2)) := hcc60 2 _ rfl; have hx60_3 : w64.cell? ⟨go60, ((l0.length : Int) : Int).toNat * 7 + 3, none⟩ = some (.int .i64 ((rd_T59 t228 (l0.length : Int)).f3)) := hcc60 3 _ rfl; have hx60_4 : w64.cell? ⟨go60, ((l0.length : Int) : Int).toNat * 7 + 4, none⟩ = some (.int .i64 ((rd_T59 t228 (l0.length : Int)).f4)) := hcc60 4 _ rfl; have hx60_5 : w64.cell? ⟨go60, ((l0.length : Int) : Int).toNat * 7 + 5, none⟩ = some (.int .i64 ((rd_T59 t228 (l0.length : Int)).f5)) := hcc60 5 _ rfl; have hx60_6 : w64.cell? ⟨go60, ((l0.length : Int) : Int).toNat * 7 + 6, none⟩ = some (.int .i64 ((rd_T59 t228 (l0.length : Int)).f6)) := hcc60 6 _ rfl; have hf60_0 : w64.frozen? ⟨go60, ((l0.length : Int) : Int).toNat * 7, none⟩ = false := hfr60 0; have hf60_1 : w64.frozen? ⟨go60, ((l0.length : Int) : Int).toNat * 7 + 1, none⟩ = false := hfr60 1; have hf60_2 : w64.frozen? ⟨go60, ((l0.length : Int) : Int).toNat * 7 + 2, none⟩ = false := hfr60 2; have hf60_3 : w64.frozen? ⟨go60, ((l0.length : Int) : Int).toNat * 7 + 3, none⟩ = false := hfr60 3; have hf60_4 : w64.frozen? ⟨go60, ((l0.length : Int) : Int).toNat * 7 + 4, none⟩ = false := hfr60 4; have hf60_5 : w64.frozen? ⟨go60, ((l0.length : Int) : Int).toNat * 7 + 5, none⟩ = false := hfr60 5; have hf60_6 : w64.frozen? ⟨go60, ((l0.length : Int) : Int).toNat * 7 + 6, none⟩ = false := hfr60 6; clear hcl60 hcc60 hfr60 hM60; replace p60 := eq_true p60; replace q60 := eq_true q60; have HX66 := Aside0.mk (show Kd.R k59 59 w64 w0.heap.size (fun k_ => (P0_ k_ ∨ w.heap.size ≤ k_)) (.slice (some ⟨go60, 0, none⟩) t228.length co65) t228 from (by (with_reducible repeat (first | apply Kd.R_alloc | apply Kd.R_drewN | apply Kd.R_drew)); exact HO230.out)); obtain ⟨ce66, hcl66, hM66, hcc66, hfr66⟩ := Kd.R_elem HX66.out z59 ((l0.length : Int) : Int) (of_decide_eq_true (by first | (with_reducible assumption) | assumption)) (by have h_ : ((l0.length : Int) : Int) < ((t228.length : Int) : Int) := of_decide_eq_true (by first | (with_reducible assumption) | assumption); first | exact h_ | (have e_ := (Kd.R_reads' HO230.out).1; omega) | simpa using h_); obtain rfl := k59_openM hM66; have HP66 := Kd.R_seg HX66.out ((l0.length : Int) : Int) (of_decide_eq_true (by first | (with_reducible assumption) | assumption)) (by have h_ : ((l0.length : Int) : Int) < ((t228.length : Int) : Int) := of_decide_eq_true (by first | (with_reducible assumption) | assumption); first | exact h_ | (have e_ := (Kd.R_reads' HO230.out).1; omega) | simpa using h_) (seg := [.int .i64 (t228.length : Int)]) (j := 6) hcl66 hcc66 (show 7 ≤ 7 from by decide) (x' := (⟨(rd_T59 t228 (l0.length : Int)).f0, (rd_T59 t228 (l0.length : Int)).f1, (rd_T59 t228 (l0.length : Int)).f2, (rd_T59 t228 (l0.length : Int)).f3, (rd_T59 t228 (l0.length : Int)).f4, (rd_T59 t228 (l0.length : Int)).f5, (t228.length : Int)⟩ : S59)) (k59_mkM _ _ _ (⟨(rd_T59 t228 (l0.length : Int)).f0, (rd_T59 t228 (l0.length : Int)).f1, (rd_T59 t228 (l0.length : Int)).f2, (rd_T59 t228 (l0.length : Int)).f3, (rd_T59 t228 (l0.length : Int)).f4, (rd_T59 t228 (l0.length : Int)).f5, (t228.length : Int)⟩ : S59) ) (fun _ hk => hk); have hx66_6 := hcc66 6 _ rfl; (try simp only [show (k59).sz = 7 from rfl, Nat.mul_one, Nat.add_zero] at hx66_6); have hf66_6 := hfr66 6; (try simp only [show (k59).sz = 7 from rfl, Nat.mul_one, Nat.add_zero] at hf66_6); (try simp only [Int.toNat_natCast] at hf66_6 hx66_6); clear hcl66 hcc66 hfr66 hM66) | ((with_reducible refine gate_store (t := 3) (p := 201) rfl ?_); (try (rw [drewN_self w64]; generalize hq_ : World.drewN w64 _ = w64; have n0_ := Aside0.mk (Kd.R_at hq_ HO230.out); have n1_ := Aside0.mk (kept_at hq_ HK.out); have n2_ := Aside0.mk (below_at hq_ HB.out); clear hq_ HO230 HK HB; have HO230 := n0_; have HK := n1_; have HB := n2_; clear n0_ n1_ n2_; (try (have HX66 := Aside0.mk (show Kd.R k59 59 w64 w0.heap.size (fun k_ => (P0_ k_ ∨ w.heap.size ≤ k_)) (.slice (some ⟨go60, 0, none⟩) t228.length co65) t228 from (by (with_reducible repeat (first | apply Kd.R_alloc | apply Kd.R_drewN | apply Kd.R_drew)); exact HO230.out)))); (try (obtain ⟨ce66, hcl66, hM66, hcc66, hfr66⟩ := Kd.R_elem HX66.out z59 ((l0.length : Int) : Int) (of_decide_eq_true (by first | (with_reducible assumption) | assumption)) (by have h_ : ((l0.length : Int) : Int) < ((t228.length : Int) : Int) := of_decide_eq_true (by first | (with_reducible assumption) | assumption); first | exact h_ | (have e_ := (Kd.R_reads' HO230.out).1; omega) | simpa using h_))); (try (obtain rfl := k59_openM hM66)); (try (have HP66 := Kd.R_seg HX66.out ((l0.length : Int) : Int) (of_decide_eq_true (by first | (with_reducible assumption) | assumption)) (by have h_ : ((l0.length : Int) : Int) < ((t228.length : Int) : Int) := of_decide_eq_true (by first | (with_reducible assumption) | assumption); first | exact h_ | (have e_ := (Kd.R_reads' HO230.out).1; omega) | simpa using h_) (seg := [.int .i64 (t228.length : Int)]) (j := 6) hcl66 hcc66 (show 7 ≤ 7 from by decide) (x' := (⟨(rd_T59 t228 (l0.length : Int)).f0, (rd_T59 t228 (l0.length : Int)).f1, (rd_T59 t228 (l0.length : Int)).f2, (rd_T59 t228 (l0.length : Int)).f3, (rd_T59 t228 (l0.length : Int)).f4, (rd_T59 t228 (l0.length : Int)).f5, (t228.length : Int)⟩ : S59)) (k59_mkM _ _ _ (⟨(rd_T59 t228 (l0.length : Int)).f0, (rd_T59 t228 (l0.length : Int)).f1, (rd_T59 t228 (l0.length : Int)).f2, (rd_T59 t228 (l0.length : Int)).f3, (rd_T59 t228 (l0.length : Int)).f4, (rd_T59 t228 (l0.length : Int)).f5, (t228.length : Int)⟩ : S59) ) (fun _ hk => hk))); (try (have hx66_6 := hcc66 6 _ rfl)); (try (try simp only [show (k59).sz = 7 from rfl, Nat.mul_one, Nat.add_zero] at hx66_6)); (try (have hf66_6 := hfr66 6)); (try (try simp only [show (k59).sz = 7 from rfl, Nat.mul_one, Nat.add_zero] at hf66_6)); (try simp only [Int.toNat_natCast] at hf66_6 hx66_6); (try (clear hcl66 hcc66 hfr66 hM66)))); refine store_event (t := 3) (p := 201) (v := ?vo_w67) (w1 := (w64.setCell ⟨go60, ((l0.length : Int) : Int).toNat * 7 + 6, none⟩ (.int .i64 (t228.length : Int)))) ?hg ?ho ?hn ?hr ?_; (case ho => rfl); (case hg => rfl); (case hn => rfl); (case hr => first | (go_simp; done) | (go_simp; rfl)); intro w67 hw; have hg : w64.grownBy w67 (some go60) := (by rw [hw]; exact HP66.2); have hp_ : Kd.R k59 59 w67 w0.heap.size (fun k_ => (P0_ k_ ∨ w.heap.size ≤ k_)) (.slice (some ⟨go60, 0, none⟩) t228.length co65) y231 := (by rw [hw, Ny231.out]; exact HP66.1); clear HP66; have n0_ := Aside0.mk (hp_); have n1_ := Aside0.mk ((by rw [hw]; exact below_set (HB.out) GB60.out : Below w0.heap.size w0 w67)); have n2_ := Aside0.mk (Kept.of_grown (S := (fun k_ => P0_ k_)) hg (by repeat (first | (with_reducible first | exact HK.out | apply Kept.alloc | apply Kept.drewN | apply Kept.drew) | exact HK.out)) (fun k_ e_ => (HO230.out.1 k_ e_))); clear HO230; clear HB; clear HK; have HO230 := n0_; have HB := n1_; have HK := n2_; clear n0_ n1_ n2_; clear hg hw hp_) | (go_at_call 36; (with_reducible refine (ih k3 (by have := HK1.out; have := HK2.out; have := HK3.out; omega) (fun k_ => some k_ = (.slice (some ⟨go60, 0, none⟩) t228.length co65 : Value).ownBlock) (.slice (some ⟨go60, 0, none⟩) t228.length co65) y231 _ _ l1 _ _ l2 a3 a4 (wrap64 ((wrap64 (a5 + x21_3)) + a3)) a6 ji52 t232 w0 _ ?side1 ?side2 ?side3 ?side4 ?side5 ?side6 A61.out).mono ?_); (case side1 => repeat (first | (with_reducible first | exact HB.out | apply below_alloc | apply pw_below_drewN | apply below_drew1) | exact HB.out)); (case side2 => exact Kd.R_tight rfl HO230.out); (case side3 => exact Kd.C_kept_call HR1.out (by repeat (first | (with_reducible first | exact HK.out | apply Kept.alloc | apply Kept.drewN | apply Kept.drew) | exact HK.out)) (fun k_ hs_ => (fun e_ => (HO230.out.1 k_ e_.symm)) hs_)); (case side4 => exact HC1.out); (case side5 => exact Kd.C_kept_call HR2.out (by repeat (first | (with_reducible first | exact HK.out | apply Kept.alloc | apply Kept.drewN | apply Kept.drew) | exact HK.out)) (fun k_ hs_ => (fun e_ => (HO230.out.1 k_ e_.symm)) hs_)); (case side6 => exact HC2.out); rintro e w68 ⟨v233, rfl, ho0, hb, hkp⟩; have n0_ := Aside0.mk (Kd.R_mono (ok' := fun k_ => (P0_ k_ ∨ w.heap.size ≤ k_)) ho0 (fun k_ hk_ => Or.elim hk_ (fun hs_ => (HO230.out.1 k_ (hs_).symm)) (fun hn_ => (.inr (Nat.le_trans (by first | exact HK.out.1 | exact (show Kept w _ (fun k_ => P0_ k_) from by repeat (first | (with_reducible first | exact HK.out | apply Kept.alloc | apply Kept.drewN | apply Kept.drew) | exact HK.out)).1) hn_))))); have n1_ := Aside0.mk (Kept.then_ (S := (fun k_ => P0_ k_)) (by repeat (first | (with_reducible first | exact HK.out | apply Kept.alloc | apply Kept.drewN | apply Kept.drew) | exact HK.out)) hkp (fun k_ hs_ => (fun e_ => (HO230.out.1 k_ e_.symm)) hs_)); have n2_ := Aside0.mk (hb); clear HK; clear HB; clear HO230; have HO234 := n0_; have HK := n1_; have HB := n2_; clear n0_ n1_ n2_; (try clear hb); (try clear hkp); (try clear ho0)))
                                                  repeat (go_quiet (first | ((with_reducible refine gate_builtin (b := .append) (xs := #[.tmp 177, .tmp 185]) rfl ?_); at_builtin; refine Kd.R_append k59 (w0 := w0) w0.heap.size rfl (.tmp 177) (.tmp 185) 27 59 (.agg #[(.int .i64 0), (.string ⟨#[]⟩), (.int .i64 0), (.int .i64 0), (.int .i64 0), (.int .i64 0), (.int .i64 0)]) 64 rfl Try.underlying27 info59 rfl (by decide) (by omega) u0 x0_3 (⟨3, (⟨#[]⟩ : ByteArray), 1, wrap64 (a5 + x21_3), a3, wrap64 ((l0.length : Int) + 1), 0⟩ : S59) [.int .i64 3, .string (⟨#[]⟩ : ByteArray), .int .i64 1, .int .i64 (wrap64 (a5 + x21_3)), .int .i64 a3, .int .i64 (wrap64 ((l0.length : Int) + 1)), .int .i64 0] (fun k_ => (P0_ k_ ∨ w.heap.size ≤ k_)) (fun _ => False) rfl rfl ?aP (fun _ hk => hk.elim) ?aF ?aO ?aB ?aS ?aL ?_; (case aP => exact k59_mkM _ _ _ (⟨3, (⟨#[]⟩ : ByteArray), 1, wrap64 (a5 + x21_3), a3, wrap64 ((l0.length : Int) + 1), 0⟩ : S59)); (case aB => exact (by repeat (first | (with_reducible first | exact HB.out | apply below_alloc | apply pw_below_drewN | apply below_drew1) | exact HB.out))); (case aF => exact (fun k_ hk => (.inr (Nat.le_trans (by first | exact HK.out.1 | exact (show Kept w _ (fun k_ => P0_ k_) from by repeat (first | (with_reducible first | exact HK.out | apply Kept.alloc | apply Kept.drewN | apply Kept.drew) | exact HK.out)).1) hk)))); (case aO => exact (by (with_reducible repeat (first | apply Kd.R_alloc | apply Kd.R_drewN | apply Kd.R_drew)); exact HO_0.out)); (case aS => exact (below_size (by repeat (first | (with_reducible first | exact HB.out | apply below_alloc | apply pw_below_drewN | apply below_drew1) | exact HB.out)))); (case aL => have := LMc56.out; omega); intro v226 w62 ho hb hg hat; rw [← Ny225.out] at ho; have n0_ := Aside0.mk (hb); have n1_ := Aside0.mk (Kept.of_grown (S := (fun k_ => P0_ k_)) hg (by repeat (first | (with_reducible first | exact HK.out | apply Kept.alloc | apply Kept.drewN | apply Kept.drew) | exact HK.out)) (fun k_ e_ => (HO_0.out.1 k_ e_))); have n2_ := Aside0.mk (ho); clear HB; clear HK; clear HO_0; have HB := n0_; have HK := n1_; have HO227 := n2_; clear n0_ n1_ n2_; clear ho hb hg hat; obtain ⟨Ao63, co63, eo63⟩ := Kd.R_slice HO227.out; subst eo63) | (go_at_call 36; (with_reducible refine (ih k3 (by have := HK1.out; have := HK2.out; have := HK3.out; omega) (fun k_ => some k_ = (.slice Ao63 y225.length co63 : Value).ownBlock) (.slice Ao63 y225.length co63) y225 _ _ l1 _ _ l2 a3 a4 a5 a6 x21_3 t228 w0 _ ?side1 ?side2 ?side3 ?side4 ?side5 ?side6 A57.out).mono ?_); (case side1 => repeat (first | (with_reducible first | exact HB.out | apply below_alloc | apply pw_below_drewN | apply below_drew1) | exact HB.out)); (case side2 => exact Kd.R_tight rfl HO227.out); (case side3 => exact Kd.C_kept_call HR1.out (by repeat (first | (with_reducible first | exact HK.out | apply Kept.alloc | apply Kept.drewN | apply Kept.drew) | exact HK.out)) (fun k_ hs_ => (fun e_ => (HO227.out.1 k_ e_.symm)) hs_)); (case side4 => exact HC1.out); (case side5 => exact Kd.C_kept_call HR2.out (by repeat (first | (with_reducible first | exact HK.out | apply Kept.alloc | apply Kept.drewN | apply Kept.drew) | exact HK.out)) (fun k_ hs_ => (fun e_ => (HO227.out.1 k_ e_.symm)) hs_)); (case side6 => exact HC2.out); rintro e w64 ⟨v229, rfl, ho0, hb, hkp⟩; have n0_ := Aside0.mk (Kd.R_mono (ok' := fun k_ => (P0_ k_ ∨ w.heap.size ≤ k_)) ho0 (fun k_ hk_ => Or.elim hk_ (fun hs_ => (HO227.out.1 k_ (hs_).symm)) (fun hn_ => (.inr (Nat.le_trans (by first | exact HK.out.1 | exact (show Kept w _ (fun k_ => P0_ k_) from by repeat (first | (with_reducible first | exact HK.out | apply Kept.alloc | apply Kept.drewN | apply Kept.drew) | exact HK.out)).1) hn_))))); have n1_ := Aside0.mk (Kept.then_ (S := (fun k_ => P0_ k_)) (by repeat (first | (with_reducible first | exact HK.out | apply Kept.alloc | apply Kept.drewN | apply Kept.drew) | exact HK.out)) hkp (fun k_ hs_ => (fun e_ => (HO227.out.1 k_ e_.symm)) hs_)); have n2_ := Aside0.mk (hb); clear HK; clear HB; clear HO227; have HO230 := n0_; have HK := n1_; have HB := n2_; clear n0_ n1_ n2_; (try clear hb); (try clear hkp); (try clear ho0); obtain ⟨Ao65, co65, eo65⟩ := Kd.R_slice HO230.out; subst eo65; have p60 : 0 ≤ ((l0.length : Int) : Int) := of_decide_eq_true (by first | (with_reducible assumption) | assumption); have q60 : ((l0.length : Int) : Int) < ((t228.length : Int) : Int) := of_decide_eq_true (by first | (with_reducible assumption) | assumption); obtain ⟨go60, co60, eo60, gb60, gl60, cl60, HG60⟩ := Kd.R_form HO230.out (by omega); (first | cases eo60 | (injection eo60 with ea_ en_ ec_; (first | subst ea_ | (injection ea_ with ea_; subst ea_)); subst ec_; clear en_)); have GB60 := Aside0.mk gb60; have GG60 := Aside0.mk HG60; clear gb60 gl60 HG60; have HMgo60 := Aside0.mk (show (P0_ go60 ∨ w.heap.size ≤ go60) from (HO230.out.1 _ rfl)); obtain ⟨ce60, hcl60, hM60, hcc60, hfr60⟩ := Kd.R_elem HO230.out z59 ((l0.length : Int) : Int) p60 q60; obtain rfl := k59_openM hM60; have hx60_0 : w64.cell? ⟨go60, ((l0.length : Int) : Int).toNat * 7, none⟩ = some (.int .i64 ((rd_T59 t228 (l0.length : Int)).f0)) := hcc60 0 _ rfl; have hx60_1 : w64.cell? ⟨go60, ((l0.length : Int) : Int).toNat * 7 + 1, none⟩ = some (.string ((rd_T59 t228 (l0.length : Int)).f1)) := hcc60 1 _ rfl; have hx60_2 : w64.cell? ⟨go60, ((l0.length : Int) : Int).toNat * 7 + 2, none⟩ = some (.int .i64 ((rd_T59 t228 (l0.length : Int)).f2)) := hcc60 2 _ rfl; have hx60_3 : w64.cell? ⟨go60, ((l0.length : Int) : Int).toNat * 7 + 3, none⟩ = some (.int .i64 ((rd_T59 t228 (l0.length : Int)).f3)) := hcc60 3 _ rfl; have hx60_4 : w64.cell? ⟨go60, ((l0.length : Int) : Int).toNat * 7 + 4, none⟩ = some (.int .i64 ((rd_T59 t228 (l0.length : Int)).f4)) := hcc60 4 _ rfl; have hx60_5 : w64.cell? ⟨go60, ((l0.length : Int) : Int).toNat * 7 + 5, none⟩ = some (.int .i64 ((rd_T59 t228 (l0.length : Int)).f5)) := hcc60 5 _ rfl; have hx60_6 : w64.cell? ⟨go60, ((l0.length : Int) : Int).toNat * 7 + 6, none⟩ = some (.int .i64 ((rd_T59 t228 (l0.length : Int)).f6)) := hcc60 6 _ rfl; have hf60_0 : w64.frozen? ⟨go60, ((l0.length : Int) : Int).toNat * 7, none⟩ = false := hfr60 0; have hf60_1 : w64.frozen? ⟨go60, ((l0.length : Int) : Int).toNat * 7 + 1, none⟩ = false := hfr60 1; have hf60_2 : w64.frozen? ⟨go60, ((l0.length : Int) : Int).toNat * 7 + 2, none⟩ = false := hfr60 2; have hf60_3 : w64.frozen? ⟨go60, ((l0.length : Int) : Int).toNat * 7 + 3, none⟩ = false := hfr60 3; have hf60_4 : w64.frozen? ⟨go60, ((l0.length : Int) : Int).toNat * 7 + 4, none⟩ = false := hfr60 4; have hf60_5 : w64.frozen? ⟨go60, ((l0.length : Int) : Int).toNat * 7 + 5, none⟩ = false := hfr60 5; have hf60_6 : w64.frozen? ⟨go60, ((l0.length : Int) : Int).toNat * 7 + 6, none⟩ = false := hfr60 6; clear hcl60 hcc60 hfr60 hM60; replace p60 := eq_true p60; replace q60 := eq_true q60; have HX66 := Aside0.mk (show Kd.R k59 59 w64 w0.heap.size (fun k_ => (P0_ k_ ∨ w.heap.size ≤ k_)) (.slice (some ⟨go60, 0, none⟩) t228.length co65) t228 from (by (with_reducible repeat (first | apply Kd.R_alloc | apply Kd.R_drewN | apply Kd.R_drew)); exact HO230.out)); obtain ⟨ce66, hcl66, hM66, hcc66, hfr66⟩ := Kd.R_elem HX66.out z59 ((l0.length : Int) : Int) (of_decide_eq_true (by first | (with_reducible assumption) | assumption)) (by have h_ : ((l0.length : Int) : Int) < ((t228.length : Int) : Int) := of_decide_eq_true (by first | (with_reducible assumption) | assumption); first | exact h_ | (have e_ := (Kd.R_reads' HO230.out).1; omega) | simpa using h_); obtain rfl := k59_openM hM66; have HP66 := Kd.R_seg HX66.out ((l0.length : Int) : Int) (of_decide_eq_true (by first | (with_reducible assumption) | assumption)) (by have h_ : ((l0.length : Int) : Int) < ((t228.length : Int) : Int) := of_decide_eq_true (by first | (with_reducible assumption) | assumption); first | exact h_ | (have e_ := (Kd.R_reads' HO230.out).1; omega) | simpa using h_) (seg := [.int .i64 (t228.length : Int)]) (j := 6) hcl66 hcc66 (show 7 ≤ 7 from by decide) (x' := (⟨(rd_T59 t228 (l0.length : Int)).f0, (rd_T59 t228 (l0.length : Int)).f1, (rd_T59 t228 (l0.length : Int)).f2, (rd_T59 t228 (l0.length : Int)).f3, (rd_T59 t228 (l0.length : Int)).f4, (rd_T59 t228 (l0.length : Int)).f5, (t228.length : Int)⟩ : S59)) (k59_mkM _ _ _ (⟨(rd_T59 t228 (l0.length : Int)).f0, (rd_T59 t228 (l0.length : Int)).f1, (rd_T59 t228 (l0.length : Int)).f2, (rd_T59 t228 (l0.length : Int)).f3, (rd_T59 t228 (l0.length : Int)).f4, (rd_T59 t228 (l0.length : Int)).f5, (t228.length : Int)⟩ : S59) ) (fun _ hk => hk); have hx66_6 := hcc66 6 _ rfl; (try simp only [show (k59).sz = 7 from rfl, Nat.mul_one, Nat.add_zero] at hx66_6); have hf66_6 := hfr66 6; (try simp only [show (k59).sz = 7 from rfl, Nat.mul_one, Nat.add_zero] at hf66_6); (try simp only [Int.toNat_natCast] at hf66_6 hx66_6); clear hcl66 hcc66 hfr66 hM66) | ((with_reducible refine gate_store (t := 3) (p := 201) rfl ?_); (try (rw [drewN_self w64]; generalize hq_ : World.drewN w64 _ = w64; have n0_ := Aside0.mk (Kd.R_at hq_ HO230.out); have n1_ := Aside0.mk (kept_at hq_ HK.out); have n2_ := Aside0.mk (below_at hq_ HB.out); clear hq_ HO230 HK HB; have HO230 := n0_; have HK := n1_; have HB := n2_; clear n0_ n1_ n2_; (try (have HX66 := Aside0.mk (show Kd.R k59 59 w64 w0.heap.size (fun k_ => (P0_ k_ ∨ w.heap.size ≤ k_)) (.slice (some ⟨go60, 0, none⟩) t228.length co65) t228 from (by (with_reducible repeat (first | apply Kd.R_alloc | apply Kd.R_drewN | apply Kd.R_drew)); exact HO230.out)))); (try (obtain ⟨ce66, hcl66, hM66, hcc66, hfr66⟩ := Kd.R_elem HX66.out z59 ((l0.length : Int) : Int) (of_decide_eq_true (by first | (with_reducible assumption) | assumption)) (by have h_ : ((l0.length : Int) : Int) < ((t228.length : Int) : Int) := of_decide_eq_true (by first | (with_reducible assumption) | assumption); first | exact h_ | (have e_ := (Kd.R_reads' HO230.out).1; omega) | simpa using h_))); (try (obtain rfl := k59_openM hM66)); (try (have HP66 := Kd.R_seg HX66.out ((l0.length : Int) : Int) (of_decide_eq_true (by first | (with_reducible assumption) | assumption)) (by have h_ : ((l0.length : Int) : Int) < ((t228.length : Int) : Int) := of_decide_eq_true (by first | (with_reducible assumption) | assumption); first | exact h_ | (have e_ := (Kd.R_reads' HO230.out).1; omega) | simpa using h_) (seg := [.int .i64 (t228.length : Int)]) (j := 6) hcl66 hcc66 (show 7 ≤ 7 from by decide) (x' := (⟨(rd_T59 t228 (l0.length : Int)).f0, (rd_T59 t228 (l0.length : Int)).f1, (rd_T59 t228 (l0.length : Int)).f2, (rd_T59 t228 (l0.length : Int)).f3, (rd_T59 t228 (l0.length : Int)).f4, (rd_T59 t228 (l0.length : Int)).f5, (t228.length : Int)⟩ : S59)) (k59_mkM _ _ _ (⟨(rd_T59 t228 (l0.length : Int)).f0, (rd_T59 t228 (l0.length : Int)).f1, (rd_T59 t228 (l0.length : Int)).f2, (rd_T59 t228 (l0.length : Int)).f3, (rd_T59 t228 (l0.length : Int)).f4, (rd_T59 t228 (l0.length : Int)).f5, (t228.length : Int)⟩ : S59) ) (fun _ hk => hk))); (try (have hx66_6 := hcc66 6 _ rfl)); (try (try simp only [show (k59).sz = 7 from rfl, Nat.mul_one, Nat.add_zero] at hx66_6)); (try (have hf66_6 := hfr66 6)); (try (try simp only [show (k59).sz = 7 from rfl, Nat.mul_one, Nat.add_zero] at hf66_6)); (try simp only [Int.toNat_natCast] at hf66_6 hx66_6); (try (clear hcl66 hcc66 hfr66 hM66)))); refine store_event (t := 3) (p := 201) (v := ?vo_w67) (w1 := (w64.setCell ⟨go60, ((l0.length : Int) : Int).toNat * 7 + 6, none⟩ (.int .i64 (t228.length : Int)))) ?hg ?ho ?hn ?hr ?_; (case ho => rfl); (case hg => rfl); (case hn => rfl); (case hr => first | (go_simp; done) | (go_simp; rfl)); intro w67 hw; have hg : w64.grownBy w67 (some go60) := (by rw [hw]; exact HP66.2); have hp_ : Kd.R k59 59 w67 w0.heap.size (fun k_ => (P0_ k_ ∨ w.heap.size ≤ k_)) (.slice (some ⟨go60, 0, none⟩) t228.length co65) y231 := (by rw [hw, Ny231.out]; exact HP66.1); clear HP66; have n0_ := Aside0.mk (hp_); have n1_ := Aside0.mk ((by rw [hw]; exact below_set (HB.out) GB60.out : Below w0.heap.size w0 w67)); have n2_ := Aside0.mk (Kept.of_grown (S := (fun k_ => P0_ k_)) hg (by repeat (first | (with_reducible first | exact HK.out | apply Kept.alloc | apply Kept.drewN | apply Kept.drew) | exact HK.out)) (fun k_ e_ => (HO230.out.1 k_ e_))); clear HO230; clear HB; clear HK; have HO230 := n0_; have HB := n1_; have HK := n2_; clear n0_ n1_ n2_; clear hg hw hp_) | (go_at_call 36; (with_reducible refine (ih k3 (by have := HK1.out; have := HK2.out; have := HK3.out; omega) (fun k_ => some k_ = (.slice (some ⟨go60, 0, none⟩) t228.length co65 : Value).ownBlock) (.slice (some ⟨go60, 0, none⟩) t228.length co65) y231 _ _ l1 _ _ l2 a3 a4 (wrap64 ((wrap64 (a5 + x21_3)) + a3)) a6 ji52 t232 w0 _ ?side1 ?side2 ?side3 ?side4 ?side5 ?side6 A61.out).mono ?_); (case side1 => repeat (first | (with_reducible first | exact HB.out | apply below_alloc | apply pw_below_drewN | apply below_drew1) | exact HB.out)); (case side2 => exact Kd.R_tight rfl HO230.out); (case side3 => exact Kd.C_kept_call HR1.out (by repeat (first | (with_reducible first | exact HK.out | apply Kept.alloc | apply Kept.drewN | apply Kept.drew) | exact HK.out)) (fun k_ hs_ => (fun e_ => (HO230.out.1 k_ e_.symm)) hs_)); (case side4 => exact HC1.out); (case side5 => exact Kd.C_kept_call HR2.out (by repeat (first | (with_reducible first | exact HK.out | apply Kept.alloc | apply Kept.drewN | apply Kept.drew) | exact HK.out)) (fun k_ hs_ => (fun e_ => (HO230.out.1 k_ e_.symm)) hs_)); (case side6 => exact HC2.out); rintro e w68 ⟨v233, rfl, ho0, hb, hkp⟩; have n0_ := Aside0.mk (Kd.R_mono (ok' := fun k_ => (P0_ k_ ∨ w.heap.size ≤ k_)) ho0 (fun k_ hk_ => Or.elim hk_ (fun hs_ => (HO230.out.1 k_ (hs_).symm)) (fun hn_ => (.inr (Nat.le_trans (by first | exact HK.out.1 | exact (show Kept w _ (fun k_ => P0_ k_) from by repeat (first | (with_reducible first | exact HK.out | apply Kept.alloc | apply Kept.drewN | apply Kept.drew) | exact HK.out)).1) hn_))))); have n1_ := Aside0.mk (Kept.then_ (S := (fun k_ => P0_ k_)) (by repeat (first | (with_reducible first | exact HK.out | apply Kept.alloc | apply Kept.drewN | apply Kept.drew) | exact HK.out)) hkp (fun k_ hs_ => (fun e_ => (HO230.out.1 k_ e_.symm)) hs_)); have n2_ := Aside0.mk (hb); clear HK; clear HB; clear HO230; have HO234 := n0_; have HK := n1_; have HB := n2_; clear n0_ n1_ n2_; (try clear hb); (try clear hkp); (try clear ho0))); try go_wp2_with (first | ((with_reducible refine gate_builtin (b := .append) (xs := #[.tmp 177, .tmp 185]) rfl ?_); at_builtin; refine Kd.R_append k59 (w0 := w0) w0.heap.size rfl (.tmp 177) (.tmp 185) 27 59 (.agg #[(.int .i64 0), (.string ⟨#[]⟩), (.int .i64 0), (.int .i64 0), (.int .i64 0), (.int .i64 0), (.int .i64 0)]) 64 rfl Try.underlying27 info59 rfl (by decide) (by omega) u0 x0_3 (⟨3, (⟨#[]⟩ : ByteArray), 1, wrap64 (a5 + x21_3), a3, wrap64 ((l0.length : Int) + 1), 0⟩ : S59) [.int .i64 3, .string (⟨#[]⟩ : ByteArray), .int .i64 1, .int .i64 (wrap64 (a5 + x21_3)), .int .i64 a3, .int .i64 (wrap64 ((l0.length : Int) + 1)), .int .i64 0] (fun k_ => (P0_ k_ ∨ w.heap.size ≤ k_)) (fun _ => False) rfl rfl ?aP (fun _ hk => hk.elim) ?aF ?aO ?aB ?aS ?aL ?_; (case aP => exact k59_mkM _ _ _ (⟨3, (⟨#[]⟩ : ByteArray), 1, wrap64 (a5 + x21_3), a3, wrap64 ((l0.length : Int) + 1), 0⟩ : S59)); (case aB => exact (by repeat (first | (with_reducible first | exact HB.out | apply below_alloc | apply pw_below_drewN | apply below_drew1) | exact HB.out))); (case aF => exact (fun k_ hk => (.inr (Nat.le_trans (by first | exact HK.out.1 | exact (show Kept w _ (fun k_ => P0_ k_) from by repeat (first | (with_reducible first | exact HK.out | apply Kept.alloc | apply Kept.drewN | apply Kept.drew) | exact HK.out)).1) hk)))); (case aO => exact (by (with_reducible repeat (first | apply Kd.R_alloc | apply Kd.R_drewN | apply Kd.R_drew)); exact HO_0.out)); (case aS => exact (below_size (by repeat (first | (with_reducible first | exact HB.out | apply below_alloc | apply pw_below_drewN | apply below_drew1) | exact HB.out)))); (case aL => have := LMc56.out; omega); intro v226 w62 ho hb hg hat; rw [← Ny225.out] at ho; have n0_ := Aside0.mk (hb); have n1_ := Aside0.mk (Kept.of_grown (S := (fun k_ => P0_ k_)) hg (by repeat (first | (with_reducible first | exact HK.out | apply Kept.alloc | apply Kept.drewN | apply Kept.drew) | exact HK.out)) (fun k_ e_ => (HO_0.out.1 k_ e_))); have n2_ := Aside0.mk (ho); clear HB; clear HK; clear HO_0; have HB := n0_; have HK := n1_; have HO227 := n2_; clear n0_ n1_ n2_; clear ho hb hg hat; obtain ⟨Ao63, co63, eo63⟩ := Kd.R_slice HO227.out; subst eo63) | (go_at_call 36; (with_reducible refine (ih k3 (by have := HK1.out; have := HK2.out; have := HK3.out; omega) (fun k_ => some k_ = (.slice Ao63 y225.length co63 : Value).ownBlock) (.slice Ao63 y225.length co63) y225 _ _ l1 _ _ l2 a3 a4 a5 a6 x21_3 t228 w0 _ ?side1 ?side2 ?side3 ?side4 ?side5 ?side6 A57.out).mono ?_); (case side1 => repeat (first | (with_reducible first | exact HB.out | apply below_alloc | apply pw_below_drewN | apply below_drew1) | exact HB.out)); (case side2 => exact Kd.R_tight rfl HO227.out); (case side3 => exact Kd.C_kept_call HR1.out (by repeat (first | (with_reducible first | exact HK.out | apply Kept.alloc | apply Kept.drewN | apply Kept.drew) | exact HK.out)) (fun k_ hs_ => (fun e_ => (HO227.out.1 k_ e_.symm)) hs_)); (case side4 => exact HC1.out); (case side5 => exact Kd.C_kept_call HR2.out (by repeat (first | (with_reducible first | exact HK.out | apply Kept.alloc | apply Kept.drewN | apply Kept.drew) | exact HK.out)) (fun k_ hs_ => (fun e_ => (HO227.out.1 k_ e_.symm)) hs_)); (case side6 => exact HC2.out); rintro e w64 ⟨v229, rfl, ho0, hb, hkp⟩; have n0_ := Aside0.mk (Kd.R_mono (ok' := fun k_ => (P0_ k_ ∨ w.heap.size ≤ k_)) ho0 (fun k_ hk_ => Or.elim hk_ (fun hs_ => (HO227.out.1 k_ (hs_).symm)) (fun hn_ => (.inr (Nat.le_trans (by first | exact HK.out.1 | exact (show Kept w _ (fun k_ => P0_ k_) from by repeat (first | (with_reducible first | exact HK.out | apply Kept.alloc | apply Kept.drewN | apply Kept.drew) | exact HK.out)).1) hn_))))); have n1_ := Aside0.mk (Kept.then_ (S := (fun k_ => P0_ k_)) (by repeat (first | (with_reducible first | exact HK.out | apply Kept.alloc | apply Kept.drewN | apply Kept.drew) | exact HK.out)) hkp (fun k_ hs_ => (fun e_ => (HO227.out.1 k_ e_.symm)) hs_)); have n2_ := Aside0.mk (hb); clear HK; clear HB; clear HO227; have HO230 := n0_; have HK := n1_; have HB := n2_; clear n0_ n1_ n2_; (try clear hb); (try clear hkp); (try clear ho0); obtain ⟨Ao65, co65, eo65⟩ := Kd.R_slice HO230.out; subst eo65; have p60 : 0 ≤ ((l0.length : Int) : Int) := of_decide_eq_true (by first | (with_reducible assumption) | assumption); have q60 : ((l0.length : Int) : Int) < ((t228.length : Int) : Int) := of_decide_eq_true (by first | (with_reducible assumption) | assumption); obtain ⟨go60, co60, eo60, gb60, gl60, cl60, HG60⟩ := Kd.R_form HO230.out (by omega); (first | cases eo60 | (injection eo60 with ea_ en_ ec_; (first | subst ea_ | (injection ea_ with ea_; subst ea_)); subst ec_; clear en_)); have GB60 := Aside0.mk gb60; have GG60 := Aside0.mk HG60; clear gb60 gl60 HG60; have HMgo60 := Aside0.mk (show (P0_ go60 ∨ w.heap.size ≤ go60) from (HO230.out.1 _ rfl)); obtain ⟨ce60, hcl60, hM60, hcc60, hfr60⟩ := Kd.R_elem HO230.out z59 ((l0.length : Int) : Int) p60 q60; obtain rfl := k59_openM hM60; have hx60_0 : w64.cell? ⟨go60, ((l0.length : Int) : Int).toNat * 7, none⟩ = some (.int .i64 ((rd_T59 t228 (l0.length : Int)).f0)) := hcc60 0 _ rfl; have hx60_1 : w64.cell? ⟨go60, ((l0.length : Int) : Int).toNat * 7 + 1, none⟩ = some (.string ((rd_T59 t228 (l0.length : Int)).f1)) := hcc60 1 _ rfl; have hx60_2 : w64.cell? ⟨go60, ((l0.length : Int) : Int).toNat * 7 + 2, none⟩ = some (.int .i64 ((rd_T59 t228 (l0.length : Int)).f2)) := hcc60 2 _ rfl; have hx60_3 : w64.cell? ⟨go60, ((l0.length : Int) : Int).toNat * 7 + 3, none⟩ = some (.int .i64 ((rd_T59 t228 (l0.length : Int)).f3)) := hcc60 3 _ rfl; have hx60_4 : w64.cell? ⟨go60, ((l0.length : Int) : Int).toNat * 7 + 4, none⟩ = some (.int .i64 ((rd_T59 t228 (l0.length : Int)).f4)) := hcc60 4 _ rfl; have hx60_5 : w64.cell? ⟨go60, ((l0.length : Int) : Int).toNat * 7 + 5, none⟩ = some (.int .i64 ((rd_T59 t228 (l0.length : Int)).f5)) := hcc60 5 _ rfl; have hx60_6 : w64.cell? ⟨go60, ((l0.length : Int) : Int).toNat * 7 + 6, none⟩ = some (.int .i64 ((rd_T59 t228 (l0.length : Int)).f6)) := hcc60 6 _ rfl; have hf60_0 : w64.frozen? ⟨go60, ((l0.length : Int) : Int).toNat * 7, none⟩ = false := hfr60 0; have hf60_1 : w64.frozen? ⟨go60, ((l0.length : Int) : Int).toNat * 7 + 1, none⟩ = false := hfr60 1; have hf60_2 : w64.frozen? ⟨go60, ((l0.length : Int) : Int).toNat * 7 + 2, none⟩ = false := hfr60 2; have hf60_3 : w64.frozen? ⟨go60, ((l0.length : Int) : Int).toNat * 7 + 3, none⟩ = false := hfr60 3; have hf60_4 : w64.frozen? ⟨go60, ((l0.length : Int) : Int).toNat * 7 + 4, none⟩ = false := hfr60 4; have hf60_5 : w64.frozen? ⟨go60, ((l0.length : Int) : Int).toNat * 7 + 5, none⟩ = false := hfr60 5; have hf60_6 : w64.frozen? ⟨go60, ((l0.length : Int) : Int).toNat * 7 + 6, none⟩ = false := hfr60 6; clear hcl60 hcc60 hfr60 hM60; replace p60 := eq_true p60; replace q60 := eq_true q60; have HX66 := Aside0.mk (show Kd.R k59 59 w64 w0.heap.size (fun k_ => (P0_ k_ ∨ w.heap.size ≤ k_)) (.slice (some ⟨go60, 0, none⟩) t228.length co65) t228 from (by (with_reducible repeat (first | apply Kd.R_alloc | apply Kd.R_drewN | apply Kd.R_drew)); exact HO230.out)); obtain ⟨ce66, hcl66, hM66, hcc66, hfr66⟩ := Kd.R_elem HX66.out z59 ((l0.length : Int) : Int) (of_decide_eq_true (by first | (with_reducible assumption) | assumption)) (by have h_ : ((l0.length : Int) : Int) < ((t228.length : Int) : Int) := of_decide_eq_true (by first | (with_reducible assumption) | assumption); first | exact h_ | (have e_ := (Kd.R_reads' HO230.out).1; omega) | simpa using h_); obtain rfl := k59_openM hM66; have HP66 := Kd.R_seg HX66.out ((l0.length : Int) : Int) (of_decide_eq_true (by first | (with_reducible assumption) | assumption)) (by have h_ : ((l0.length : Int) : Int) < ((t228.length : Int) : Int) := of_decide_eq_true (by first | (with_reducible assumption) | assumption); first | exact h_ | (have e_ := (Kd.R_reads' HO230.out).1; omega) | simpa using h_) (seg := [.int .i64 (t228.length : Int)]) (j := 6) hcl66 hcc66 (show 7 ≤ 7 from by decide) (x' := (⟨(rd_T59 t228 (l0.length : Int)).f0, (rd_T59 t228 (l0.length : Int)).f1, (rd_T59 t228 (l0.length : Int)).f2, (rd_T59 t228 (l0.length : Int)).f3, (rd_T59 t228 (l0.length : Int)).f4, (rd_T59 t228 (l0.length : Int)).f5, (t228.length : Int)⟩ : S59)) (k59_mkM _ _ _ (⟨(rd_T59 t228 (l0.length : Int)).f0, (rd_T59 t228 (l0.length : Int)).f1, (rd_T59 t228 (l0.length : Int)).f2, (rd_T59 t228 (l0.length : Int)).f3, (rd_T59 t228 (l0.length : Int)).f4, (rd_T59 t228 (l0.length : Int)).f5, (t228.length : Int)⟩ : S59) ) (fun _ hk => hk); have hx66_6 := hcc66 6 _ rfl; (try simp only [show (k59).sz = 7 from rfl, Nat.mul_one, Nat.add_zero] at hx66_6); have hf66_6 := hfr66 6; (try simp only [show (k59).sz = 7 from rfl, Nat.mul_one, Nat.add_zero] at hf66_6); (try simp only [Int.toNat_natCast] at hf66_6 hx66_6); clear hcl66 hcc66 hfr66 hM66) | ((with_reducible refine gate_store (t := 3) (p := 201) rfl ?_); (try (rw [drewN_self w64]; generalize hq_ : World.drewN w64 _ = w64; have n0_ := Aside0.mk (Kd.R_at hq_ HO230.out); have n1_ := Aside0.mk (kept_at hq_ HK.out); have n2_ := Aside0.mk (below_at hq_ HB.out); clear hq_ HO230 HK HB; have HO230 := n0_; have HK := n1_; have HB := n2_; clear n0_ n1_ n2_; (try (have HX66 := Aside0.mk (show Kd.R k59 59 w64 w0.heap.size (fun k_ => (P0_ k_ ∨ w.heap.size ≤ k_)) (.slice (some ⟨go60, 0, none⟩) t228.length co65) t228 from (by (with_reducible repeat (first | apply Kd.R_alloc | apply Kd.R_drewN | apply Kd.R_drew)); exact HO230.out)))); (try (obtain ⟨ce66, hcl66, hM66, hcc66, hfr66⟩ := Kd.R_elem HX66.out z59 ((l0.length : Int) : Int) (of_decide_eq_true (by first | (with_reducible assumption) | assumption)) (by have h_ : ((l0.length : Int) : Int) < ((t228.length : Int) : Int) := of_decide_eq_true (by first | (with_reducible assumption) | assumption); first | exact h_ | (have e_ := (Kd.R_reads' HO230.out).1; omega) | simpa using h_))); (try (obtain rfl := k59_openM hM66)); (try (have HP66 := Kd.R_seg HX66.out ((l0.length : Int) : Int) (of_decide_eq_true (by first | (with_reducible assumption) | assumption)) (by have h_ : ((l0.length : Int) : Int) < ((t228.length : Int) : Int) := of_decide_eq_true (by first | (with_reducible assumption) | assumption); first | exact h_ | (have e_ := (Kd.R_reads' HO230.out).1; omega) | simpa using h_) (seg := [.int .i64 (t228.length : Int)]) (j := 6) hcl66 hcc66 (show 7 ≤ 7 from by decide) (x' := (⟨(rd_T59 t228 (l0.length : Int)).f0, (rd_T59 t228 (l0.length : Int)).f1, (rd_T59 t228 (l0.length : Int)).f2, (rd_T59 t228 (l0.length : Int)).f3, (rd_T59 t228 (l0.length : Int)).f4, (rd_T59 t228 (l0.length : Int)).f5, (t228.length : Int)⟩ : S59)) (k59_mkM _ _ _ (⟨(rd_T59 t228 (l0.length : Int)).f0, (rd_T59 t228 (l0.length : Int)).f1, (rd_T59 t228 (l0.length : Int)).f2, (rd_T59 t228 (l0.length : Int)).f3, (rd_T59 t228 (l0.length : Int)).f4, (rd_T59 t228 (l0.length : Int)).f5, (t228.length : Int)⟩ : S59) ) (fun _ hk => hk))); (try (have hx66_6 := hcc66 6 _ rfl)); (try (try simp only [show (k59).sz = 7 from rfl, Nat.mul_one, Nat.add_zero] at hx66_6)); (try (have hf66_6 := hfr66 6)); (try (try simp only [show (k59).sz = 7 from rfl, Nat.mul_one, Nat.add_zero] at hf66_6)); (try simp only [Int.toNat_natCast] at hf66_6 hx66_6); (try (clear hcl66 hcc66 hfr66 hM66)))); refine store_event (t := 3) (p := 201) (v := ?vo_w67) (w1 := (w64.setCell ⟨go60, ((l0.length : Int) : Int).toNat * 7 + 6, none⟩ (.int .i64 (t228.length : Int)))) ?hg ?ho ?hn ?hr ?_; (case ho => rfl); (case hg => rfl); (case hn => rfl); (case hr => first | (go_simp; done) | (go_simp; rfl)); intro w67 hw; have hg : w64.grownBy w67 (some go60) := (by rw [hw]; exact HP66.2); have hp_ : Kd.R k59 59 w67 w0.heap.size (fun k_ => (P0_ k_ ∨ w.heap.size ≤ k_)) (.slice (some ⟨go60, 0, none⟩) t228.length co65) y231 := (by rw [hw, Ny231.out]; exact HP66.1); clear HP66; have n0_ := Aside0.mk (hp_); have n1_ := Aside0.mk ((by rw [hw]; exact below_set (HB.out) GB60.out : Below w0.heap.size w0 w67)); have n2_ := Aside0.mk (Kept.of_grown (S := (fun k_ => P0_ k_)) hg (by repeat (first | (with_reducible first | exact HK.out | apply Kept.alloc | apply Kept.drewN | apply Kept.drew) | exact HK.out)) (fun k_ e_ => (HO230.out.1 k_ e_))); clear HO230; clear HB; clear HK; have HO230 := n0_; have HB := n1_; have HK := n2_; clear n0_ n1_ n2_; clear hg hw hp_) | (go_at_call 36; (with_reducible refine (ih k3 (by have := HK1.out; have := HK2.out; have := HK3.out; omega) (fun k_ => some k_ = (.slice (some ⟨go60, 0, none⟩) t228.length co65 : Value).ownBlock) (.slice (some ⟨go60, 0, none⟩) t228.length co65) y231 _ _ l1 _ _ l2 a3 a4 (wrap64 ((wrap64 (a5 + x21_3)) + a3)) a6 ji52 t232 w0 _ ?side1 ?side2 ?side3 ?side4 ?side5 ?side6 A61.out).mono ?_); (case side1 => repeat (first | (with_reducible first | exact HB.out | apply below_alloc | apply pw_below_drewN | apply below_drew1) | exact HB.out)); (case side2 => exact Kd.R_tight rfl HO230.out); (case side3 => exact Kd.C_kept_call HR1.out (by repeat (first | (with_reducible first | exact HK.out | apply Kept.alloc | apply Kept.drewN | apply Kept.drew) | exact HK.out)) (fun k_ hs_ => (fun e_ => (HO230.out.1 k_ e_.symm)) hs_)); (case side4 => exact HC1.out); (case side5 => exact Kd.C_kept_call HR2.out (by repeat (first | (with_reducible first | exact HK.out | apply Kept.alloc | apply Kept.drewN | apply Kept.drew) | exact HK.out)) (fun k_ hs_ => (fun e_ => (HO230.out.1 k_ e_.symm)) hs_)); (case side6 => exact HC2.out); rintro e w68 ⟨v233, rfl, ho0, hb, hkp⟩; have n0_ := Aside0.mk (Kd.R_mono (ok' := fun k_ => (P0_ k_ ∨ w.heap.size ≤ k_)) ho0 (fun k_ hk_ => Or.elim hk_ (fun hs_ => (HO230.out.1 k_ (hs_).symm)) (fun hn_ => (.inr (Nat.le_trans (by first | exact HK.out.1 | exact (show Kept w _ (fun k_ => P0_ k_) from by repeat (first | (with_reducible first | exact HK.out | apply Kept.alloc | apply Kept.drewN | apply Kept.drew) | exact HK.out)).1) hn_))))); have n1_ := Aside0.mk (Kept.then_ (S := (fun k_ => P0_ k_)) (by repeat (first | (with_reducible first | exact HK.out | apply Kept.alloc | apply Kept.drewN | apply Kept.drew) | exact HK.out)) hkp (fun k_ hs_ => (fun e_ => (HO230.out.1 k_ e_.symm)) hs_)); have n2_ := Aside0.mk (hb); clear HK; clear HB; clear HO230; have HO234 := n0_; have HK := n1_; have HB := n2_; clear n0_ n1_ n2_; (try clear hb); (try clear hkp); (try clear ho0))))
                                                  go_ret
                                                  exact ⟨_, by first | rfl | (simp [errW_none, errW_some] <;> rfl) | (simp only [← hji52]; first | rfl | (simp [errW_none, errW_some] <;> rfl)) | (simp [*, errW_none, errW_some] <;> rfl), by (with_reducible repeat (first | apply Kd.R_alloc | apply Kd.R_drewN | apply Kd.R_drew)); exact HO234.out, by repeat (first | (with_reducible first | exact HB.out | apply below_alloc | apply pw_below_drewN | apply below_drew1) | exact HB.out), by repeat (first | (with_reducible first | exact HK.out | apply Kept.alloc | apply Kept.drewN | apply Kept.drew) | exact HK.out)⟩
                                                · rw [if_neg c59] at H
                                                  exact absurd H (by simp)
                                              · rw [if_neg c58] at H
                                                exact absurd H (by simp)
                                            · rw [if_neg c56] at H
                                              exact absurd H (by simp)
                                          · rw [if_neg c55] at H
                                            have c55b0 : ((wrap64 ((rd (rd_L5 l1 a6) x21_3) + (rd (rd_L5 l1 a6) (ji52)))) == (rd (rd_L5 l1 a6) a7)) = false := beq_eq_false_iff_ne.mpr c55
                                            have c55b1 : ((wrap64 ((rd (rd_L5 l1 a6) x21_3) + (rd (rd_L5 l1 a6) (ji52)))) != (rd (rd_L5 l1 a6) a7)) = true := bne_iff_ne.mpr c55
                                            have H' := Aside0.mk H
                                            clear H
                                            have p221 : 0 ≤ (a6 : Int) := of_decide_eq_true (by first | (with_reducible assumption) | assumption)
                                            have q221 : a6 < (l1.length : Int) := of_decide_eq_true (by first | (with_reducible assumption) | assumption)
                                            obtain ⟨ad221, A221_0, c221_0, e221, hx221_0, hl221_0, hi221_0⟩ := at_L5 (Kd.C_kept_now HR1.out HK.out) a6 p221 q221
                                            obtain rfl : ad195 = ad221 := (by injection e221)
                                            have HR221_0 := Aside0.mk hi221_0
                                            have HC221_0 := Aside0.mk hl221_0
                                            clear hi221_0 hl221_0
                                            replace p221 := eq_true p221
                                            replace q221 := eq_true q221
                                            have p222 : 0 ≤ (x21_3 : Int) := of_decide_eq_true (by first | (with_reducible assumption) | assumption)
                                            have q222 : x21_3 < ((rd_L5 l1 a6).length : Int) := of_decide_eq_true (by first | (with_reducible assumption) | assumption)
                                            obtain ⟨ad222, e222, hx222_0⟩ := Kd.at_int (by repeat (first | (with_reducible exact HR221_0.out) | (with_reducible refine Kd.C_alloc ?_ _) | (with_reducible refine Kd.C_drewN ?_ _) | (with_reducible refine Kd.C_drew ?_) | exact HR221_0.out)) x21_3 p222 q222
                                            cases e222
                                            replace p222 := eq_true p222
                                            replace q222 := eq_true q222
                                            have p223 : 0 ≤ (a6 : Int) := of_decide_eq_true (by first | (with_reducible assumption) | assumption)
                                            have q223 : a6 < (l1.length : Int) := of_decide_eq_true (by first | (with_reducible assumption) | assumption)
                                            obtain ⟨ad223, A223_0, c223_0, e223, hx223_0, hl223_0, hi223_0⟩ := at_L5 (Kd.C_kept_now HR1.out HK.out) a6 p223 q223
                                            obtain rfl : ad195 = ad223 := (by injection e223)
                                            have HR223_0 := Aside0.mk hi223_0
                                            have HC223_0 := Aside0.mk hl223_0
                                            clear hi223_0 hl223_0
                                            replace p223 := eq_true p223
                                            replace q223 := eq_true q223
                                            have ea_ := Option.some.inj (hx221_0.symm.trans hx223_0)
                                            injection ea_ with ea_ en_ ec_
                                            subst ea_
                                            subst ec_
                                            clear en_
                                            have p224 : 0 ≤ ((ji52) : Int) := of_decide_eq_true (by first | (with_reducible assumption) | assumption)
                                            have q224 : (ji52) < ((rd_L5 l1 a6).length : Int) := of_decide_eq_true (by first | (with_reducible assumption) | assumption)
                                            obtain ⟨ad224, e224, hx224_0⟩ := Kd.at_int (by repeat (first | (with_reducible exact HR223_0.out) | (with_reducible refine Kd.C_alloc ?_ _) | (with_reducible refine Kd.C_drewN ?_ _) | (with_reducible refine Kd.C_drew ?_) | exact HR223_0.out)) (ji52) p224 q224
                                            cases e224
                                            replace p224 := eq_true p224
                                            replace q224 := eq_true q224
                                            go_wp2
                                            repeat (go_quiet (fail); try go_wp2)
                                            go_roundg k3
                                            case measure => have := HK1.out; have := HK2.out; have := HK3.out; omega
                                            case rel => exact ⟨(x0_3), (wrap64 (x21_3 + 1)), (by first | rfl | (simp; done) | (simp [*]; done)), H', ⟨by have := HK1.out; have := HK2.out; have := HK3.out; omega⟩, ⟨by (with_reducible repeat (first | apply Kd.R_alloc | apply Kd.R_drewN | apply Kd.R_drew)); exact HO_0.out⟩, ⟨by repeat (first | (with_reducible exact HR195_0.out) | (with_reducible refine Kd.C_alloc ?_ _) | (with_reducible refine Kd.C_drewN ?_ _) | (with_reducible refine Kd.C_drew ?_) | exact HR195_0.out)⟩, ⟨by repeat (first | (with_reducible first | exact HK.out | apply Kept.alloc | apply Kept.drewN | apply Kept.drew) | exact HK.out)⟩, ⟨by repeat (first | (with_reducible first | exact HB.out | apply below_alloc | apply pw_below_drewN | apply below_drew1) | exact HB.out)⟩⟩
                                        · rw [if_neg c54] at H
                                          exact absurd H (by simp)
                                      · rw [if_neg c53] at H
                                        exact absurd H (by simp)
                                    · rw [if_neg c51] at H
                                      exact absurd H (by simp)
                                  · rw [if_neg c50] at H
                                    exact absurd H (by simp)
                                · rw [if_neg c49] at H
                                  exact absurd H (by simp)
                              · rw [if_neg c48] at H
                                exact absurd H (by simp)
                            · rw [if_neg c47] at H
                              have c47b0 : decide ((wrap64 (x21_3 + a3)) < a7) = false := decide_eq_false c47
                              clear c47
                              obtain rfl := Option.some.inj H
                              go_wp2
                              repeat (go_quiet (fail); try go_wp2)
                              go_ret
                              exact ⟨_, by first | rfl | (simp [errW_none, errW_some] <;> rfl) | (simp [*, errW_none, errW_some] <;> rfl), by (with_reducible repeat (first | apply Kd.R_alloc | apply Kd.R_drewN | apply Kd.R_drew)); exact HO_0.out, by repeat (first | (with_reducible first | exact HB.out | apply below_alloc | apply pw_below_drewN | apply below_drew1) | exact HB.out), by repeat (first | (with_reducible first | exact HK.out | apply Kept.alloc | apply Kept.drewN | apply Kept.drew) | exact HK.out)⟩
        · rw [if_neg c12] at H
          exact absurd H (by simp)
      · rw [if_neg c11] at H
        exact absurd H (by simp)
    · rw [if_neg c10] at H
      exact absurd H (by simp)
  · rw [if_neg c9] at H
    exact absurd H (by simp)

end Go.Proofs.Ytdnjagfbhppmbaa.PA
