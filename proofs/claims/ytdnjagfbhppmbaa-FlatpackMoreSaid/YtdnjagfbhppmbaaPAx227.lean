import Derived.Test.YtdnjagfbhppmbaaGe
import Derived.Test.YtdnjagfbhppmbaaGj
import Derived.Test.YtdnjagfbhppmbaaGy
import Derived.Test.YtdnjagfbhppmbaaPAx1
namespace Go.Proofs.Ytdnjagfbhppmbaa.PA
open Go.RowKit Go.Proofs.YtdnjagfbhppmbaaW.PrintWords Go.Proofs.YtdnjagfbhppmbaaW.PrintLast Go.Proofs.YtdnjagfbhppmbaaW.PrintMore
attribute [local go_sem] max2_int min2_int max_two min_two max_three min_three max_four min_four
set_option linter.unusedVariables false
set_option linter.unusedSimpArgs false
noncomputable section
attribute [local go_sem high] eqA59
-- GIVEN: function 30 (flatpack_Check)
-- GIVEN: function 34 (flatpack_table)
-- NOT PRINTED: function 55 (api_Item)
-- NOT PRINTED: function 35 (flatpack_planner_add)
-- GIVEN: function 14 (flatpack_Plan)
mutual
def flatpack_Trim.l0 : Nat → Int → List (List Int) → Int → Int → Int → Option (Int × Int × Int)
 | 0, _, _, _, _, _ => none
 | k + 1, x1, x12, x13, x14, x15 => if 0 ≤ x14 then (if x14 < (x12.length : Int) then (if 0 ≤ x1 then (if x1 < ((rd_L5 x12 x14).length : Int) then (if (rd (rd_L5 x12 x14) x1) = x13 then (flatpack_Trim.l1 k x12 x13 x14 x15) else (flatpack_Trim.l0 k x1 x12 x13 (wrap64 (x14 + 1)) x15)) else (none)) else (none)) else (none)) else (none)
def flatpack_Trim.l1 : Nat → List (List Int) → Int → Int → Int → Option (Int × Int × Int)
 | 0, _, _, _, _ => none
 | k + 1, x12, x13, x14, x15 => if 0 ≤ x14 then (if x14 < (x12.length : Int) then (if 0 ≤ x15 then (if x15 < ((rd_L5 x12 x14).length : Int) then (if (rd (rd_L5 x12 x14) x15) = x13 then (some (x14, x15, 0)) else (flatpack_Trim.l1 k x12 x13 x14 (wrap64 (x15 + 1)))) else (none)) else (none)) else (none)) else (none)
end
def flatpack_Trim.f (k : Nat) (a0 : Int) (a1 : Int) (l2 : List (S36)) (a3 : Int) : Option (Int × Int × Int) := (flatpack_Check.f a0 a1 l2 a3).bind fun t109 => (if t109 = 0 then ((flatpack_table.f a0 a1 l2 a3).bind fun t110 => (if 0 ≤ a0 then (if a0 < (t110.length : Int) then (if 0 ≤ a1 then (if a1 < ((rd_L5 t110 a0).length : Int) then (flatpack_Trim.l0 k a1 t110 (rd (rd_L5 t110 a0) a1) 1 1) else (none)) else (none)) else (none)) else (none))) else (some (0, 0, t109)))
theorem flatpack_Trim.mono_l : ∀ k, (∀ y0 y1 y2 y3 y4, LeO (flatpack_Trim.l0 k y0 y1 y2 y3 y4) (flatpack_Trim.l0 (k + 1) y0 y1 y2 y3 y4)) ∧ (∀ y0 y1 y2 y3, LeO (flatpack_Trim.l1 k y0 y1 y2 y3) (flatpack_Trim.l1 (k + 1) y0 y1 y2 y3))
 | 0 => ⟨fun _ _ _ _ _ r h => by simp [flatpack_Trim.l0] at h, fun _ _ _ _ r h => by simp [flatpack_Trim.l1] at h⟩
 | k + 1 => by
  obtain ⟨ih0, ih1⟩ := flatpack_Trim.mono_l k
  refine ⟨?_, ?_⟩
  ·intro y0 y1 y2 y3 y4
   unfold flatpack_Trim.l0
   repeat' first
   | (with_reducible exact ih0 _ _ _ _ _)
   | (with_reducible exact ih1 _ _ _ _)
   | (with_reducible exact LeO.refl _)
   | (with_reducible exact LeO.none _)
   | (with_reducible refine LeO.ite ?_ ?_)
   | (with_reducible refine LeO.bind ?_ (fun _ => ?_))
   | exact ih0 _ _ _ _ _
   | exact ih1 _ _ _ _
   | exact LeO.none _
   | refine LeO.ite ?_ ?_
   | refine LeO.bind ?_ (fun _ => ?_)
  ·intro y0 y1 y2 y3
   unfold flatpack_Trim.l1
   repeat' first
   | (with_reducible exact ih0 _ _ _ _ _)
   | (with_reducible exact ih1 _ _ _ _)
   | (with_reducible exact LeO.refl _)
   | (with_reducible exact LeO.none _)
   | (with_reducible refine LeO.ite ?_ ?_)
   | (with_reducible refine LeO.bind ?_ (fun _ => ?_))
   | exact ih0 _ _ _ _ _
   | exact ih1 _ _ _ _
   | exact LeO.none _
   | refine LeO.ite ?_ ?_
   | refine LeO.bind ?_ (fun _ => ?_)
theorem flatpack_Trim.mono : ∀ a0 a1 a2 a3 k, LeO (flatpack_Trim.f k a0 a1 a2 a3) (flatpack_Trim.f (k + 1) a0 a1 a2 a3) := by
 intro a0 a1 a2 a3 k;obtain ⟨ih0, ih1⟩ := flatpack_Trim.mono_l k
 unfold flatpack_Trim.f
 repeat' first
   | (with_reducible exact ih0 _ _ _ _ _)
   | (with_reducible exact ih1 _ _ _ _)
   | (with_reducible exact LeO.refl _)
   | (with_reducible exact LeO.none _)
   | (with_reducible refine LeO.ite ?_ ?_)
   | (with_reducible refine LeO.bind ?_ (fun _ => ?_))
   | exact ih0 _ _ _ _ _
   | exact ih1 _ _ _ _
   | exact LeO.none _
   | refine LeO.ite ?_ ?_
   | refine LeO.bind ?_ (fun _ => ?_)
set_option maxHeartbeats 8000000 in
set_option maxRecDepth 100000 in
theorem flatpack_Trim.calls (k : Nat) (a0 : Int) (a1 : Int) (A2 : Option Addr) (c2 : Nat) (l2 : List (S36)) (a3 : Int) (r1 : Int) (r2 : Int) (r3 : Int) (w : World) (hr2 : Kd.C k36 w A2 l2.length l2) (hc2 : l2.length ≤ c2) (h : flatpack_Trim.f k a0 a1 l2 a3 = some (r1, r2, r3)) :
  Calls Try.prog 19 #[.int .i64 a0, .int .i64 a1, .slice A2 l2.length c2, .int .i64 a3] w fun e w' => e = .returned (.tuple #[.int .i64 r1, .int .i64 r2, .int .i64 r3]) ∧ Below w.heap.size w w' := by
 have HR2 := am hr2;have HC2 := am hc2;clear hr2 hc2;have HB := am (Below.refl w.heap.size w);have H : ((flatpack_Check.f a0 a1 l2 a3).bind fun t109 => (if t109 = 0 then ((flatpack_table.f a0 a1 l2 a3).bind fun t110 => (if 0 ≤ a0 then (if a0 < (t110.length : Int) then (if 0 ≤ a1 then (if a1 < ((rd_L5 t110 a0).length : Int) then (flatpack_Trim.l0 k a1 t110 (rd (rd_L5 t110 a0) a1) 1 1) else (none)) else (none)) else (none)) else (none))) else (some (0, 0, t109)))) = some (r1, r2, r3) := h;clear h;replace H := Option.bind_eq_some_iff.mp H;obtain ⟨t109, A50, H⟩ := H;replace H : (if t109 = 0 then ((flatpack_table.f a0 a1 l2 a3).bind fun t110 => (if 0 ≤ a0 then (if a0 < (t110.length : Int) then (if 0 ≤ a1 then (if a1 < ((rd_L5 t110 a0).length : Int) then (flatpack_Trim.l0 k a1 t110 (rd (rd_L5 t110 a0) a1) 1 1) else (none)) else (none)) else (none)) else (none))) else (some (0, 0, t109))) = some (r1, r2, r3) := H;have A5 := am A50;clear A50;by_cases c6 : t109 = 0
 ·rw [if_pos c6] at H;have c6b0 : (t109 == 0) = true := beq_iff_eq.mpr c6;have c6b1 : (t109 != 0) = false := bne_eq_false_iff_eq.mpr c6;clear c6;replace H := Option.bind_eq_some_iff.mp H;obtain ⟨t110, A70, H⟩ := H;replace H : (if 0 ≤ a0 then (if a0 < (t110.length : Int) then (if 0 ≤ a1 then (if a1 < ((rd_L5 t110 a0).length : Int) then (flatpack_Trim.l0 k a1 t110 (rd (rd_L5 t110 a0) a1) 1 1) else (none)) else (none)) else (none)) else (none)) = some (r1, r2, r3) := H;have A7 := am A70;clear A70;by_cases c8 : 0 ≤ a0
  ·rw [if_pos c8] at H;have c8b0 : decide (0 ≤ a0) = true := decide_eq_true c8;clear c8;by_cases c9 : a0 < (t110.length : Int)
   ·rw [if_pos c9] at H;have c9b0 : decide (a0 < (t110.length : Int)) = true := decide_eq_true c9;clear c9;by_cases c10 : 0 ≤ a1
    ·rw [if_pos c10] at H;have c10b0 : decide (0 ≤ a1) = true := decide_eq_true c10;clear c10;by_cases c11 : a1 < ((rd_L5 t110 a0).length : Int)
     ·rw [if_pos c11] at H;have c11b0 : decide (a1 < ((rd_L5 t110 a0).length : Int)) = true := decide_eq_true c11;clear c11;have H' := am H;clear H
      go_enter Try.func19, Try.ntmps19
      go_wp2_with (first | ((with_reducible refine gate_callee (f := 30) rfl ?_); refine goesL_ (some 20) rfl rfl Try.func30 (by kernel_rfl) rfl #[.int .i64 a0, .int .i64 a1, .slice A2 l2.length c2, .int .i64 a3] rfl (by (try simp only [List.map_toArray, List.map_cons, List.map_nil]); first | done | rfl | (simp only [List.length_drop, List.length_take]; rfl)) ?_; (with_reducible refine (flatpack_Check.calls a0 a1 _ _ l2 a3 t109 _ ?side1 ?side2 A5.out).mono ?_); (case side1 => repeat (first | exact HR2.out | (with_reducible refine Kd.C_alloc ?_ _) | (with_reducible refine Kd.C_drewN ?_ _) | (with_reducible refine Kd.C_drew ?_))); (case side2 => exact HC2.out); rintro e w12 ⟨rfl, hb⟩; refine ⟨_, rfl, ?_⟩; replace HB := bsa HB hb; (try clear hb); (try clear hb2); (try clear hk); (try clear hi)) | ((with_reducible refine gate_callee (f := 34) rfl ?_); refine goesL_ (some 28) rfl rfl Try.func34 (by kernel_rfl) rfl #[.int .i64 a0, .int .i64 a1, .slice A2 l2.length c2, .int .i64 a3] rfl (by (try simp only [List.map_toArray, List.map_cons, List.map_nil]); first | done | rfl | (simp only [List.length_drop, List.length_take]; rfl)) ?_; (with_reducible refine (flatpack_table.calls a0 a1 _ _ l2 a3 t110 _ ?side1 ?side2 A7.out).mono ?_); (case side1 => exact cq HR2.out HB.out); (case side2 => exact HC2.out); rintro e w13 ⟨v111, rfl, ho0, hb⟩; refine ⟨_, rfl, ?_⟩; have HO112 := am (Kd.S_lower ho0 (below_size (by repeat (first|(with_reducible first|exact HB.out|apply lA|apply lN|apply lD)|exact HB.out)))); replace HB := bsa HB hb; (try clear hb); (try clear hb2); (try clear hk); (try clear hi); (try clear ho0); obtain ⟨Ao14, co14, eo14⟩ := Kd.S_slice HO112.out; subst eo14; have p113 : 0 ≤ (a0 : Int) := of_decide_eq_true (by first | (with_reducible assumption) | assumption); have q113 : a0 < (t110.length : Int) := of_decide_eq_true (by first | (with_reducible assumption) | assumption); obtain ⟨ad113, A113_0, c113_0, e113, hx113_0, hl113_0, hi113_0⟩ := at_L5 (Kd.S_reads' HO112.out).2.2 a0 p113 q113; cases e113; obtain ⟨ce113, hce113, hMe113, hcc113⟩ := Kd.S_get HO112.out [] a0 p113 (by first | exact q113 | exact of_decide_eq_true (by first | (with_reducible assumption) | assumption) | (have e_ := (Kd.S_reads' HO112.out).1; omega)); obtain ⟨ve113_0, rfl, ge113_0⟩ := hMe113; have hv113_0 := hcc113 0 _ rfl; rw [Nat.add_zero, show ((Kd.slice 2 (Kd.int .i64))).sz = 1 from rfl, Nat.mul_one] at hv113_0; replace hv113_0 := Option.some.inj (hv113_0.symm.trans hx113_0); rw [hv113_0] at ge113_0; have HL113_0 := am (show Kd.R (Kd.int .i64) 2 _ _ _ _ (rd_L5 t110 a0) from ge113_0); clear hv113_0 ge113_0; clear hcc113 hce113; have HR113_0 := am hi113_0; have HC113_0 := am hl113_0; clear hi113_0 hl113_0; replace p113 := eq_true p113; replace q113 := eq_true q113; have p114 : 0 ≤ (a1 : Int) := of_decide_eq_true (by first | (with_reducible assumption) | assumption); have q114 : a1 < ((rd_L5 t110 a0).length : Int) := of_decide_eq_true (by first | (with_reducible assumption) | assumption); obtain ⟨ad114, e114, hx114_0⟩ := Kd.at_int (by repeat (first | (with_reducible exact HR113_0.out) | (with_reducible refine Kd.C_alloc ?_ _) | (with_reducible refine Kd.C_drewN ?_ _) | (with_reducible refine Kd.C_drew ?_) | exact HR113_0.out)) a1 p114 q114; cases e114; replace p114 := eq_true p114; replace q114 := eq_true q114))
      go_loopg [14] k (fun kq v14 w' => ∃ (x14_1 : Int), v14 = .int .i64 x14_1 ∧ Aside0 (flatpack_Trim.l0 kq a1 t110 (rd (rd_L5 t110 a0) a1) x14_1 1 = some (r1, r2, r3)) ∧ Aside0 (kq ≤ k) ∧ Aside0 (Kd.S (Kd.slice 2 (Kd.int .i64)) 54 w' w.heap.size (fun _ => True) (.slice (some ad113) t110.length co14) t110) ∧ Aside0 (Kd.C (Kd.int .i64) w' (some ad114) (rd_L5 t110 a0).length (rd_L5 t110 a0)) ∧ Aside0 (Below w.heap.size w w'))
      case atStart => exact ⟨(1), (by first | rfl | (simp; done) | (simp [*]; done)), H', ⟨Nat.le_refl _⟩, ⟨by (with_reducible repeat (first | apply Kd.S_alloc | apply Kd.S_drewN | apply Kd.S_drew)); exact HO112.out⟩, ⟨by repeat (first | (with_reducible exact HR113_0.out) | (with_reducible refine Kd.C_alloc ?_ _) | (with_reducible refine Kd.C_drewN ?_ _) | (with_reducible refine Kd.C_drew ?_) | exact HR113_0.out)⟩, ⟨by repeat (first|(with_reducible first|exact HB.out|apply lA|apply lN|apply lD)|exact HB.out)⟩⟩
      case round =>
       clear H'
       try clear c1
       try clear p1
       try clear q1
       try clear hx1
       try clear c2
       try clear p2
       try clear c3
       try clear c6
       try clear c6b0
       try clear c6b1
       try clear c8
       try clear c8b0
       try clear c9
       try clear c9b0
       try clear c10
       try clear c10b0
       try clear c11
       try clear c11b0
       try clear p11
       try clear q11
       try clear hx11
       try clear hx113_0
       try clear hx114_0
       try clear p113
       try clear p114
       try clear q113
       try clear q114
       obtain ⟨x14_1, rfl, HA, HK1, HO_12, HR113_0, HB⟩ := hrel
       cases gk with
       | zero => exact absurd HA.out (by simp [flatpack_Trim.l0])
       | succ k1 =>
        have H := HA.out;clear HA;simp only [flatpack_Trim.l0] at H;by_cases c15 : 0 ≤ x14_1
        ·rw [if_pos c15] at H;have c15b0 : decide (0 ≤ x14_1) = true := decide_eq_true c15;clear c15;by_cases c16 : x14_1 < (t110.length : Int)
         ·rw [if_pos c16] at H;have c16b0 : decide (x14_1 < (t110.length : Int)) = true := decide_eq_true c16;clear c16;by_cases c17 : 0 ≤ a1
          ·rw [if_pos c17] at H;have c17b0 : decide (0 ≤ a1) = true := decide_eq_true c17;clear c17;by_cases c18 : a1 < ((rd_L5 t110 x14_1).length : Int)
           ·rw [if_pos c18] at H;have c18b0 : decide (a1 < ((rd_L5 t110 x14_1).length : Int)) = true := decide_eq_true c18;clear c18;by_cases c19 : (rd (rd_L5 t110 x14_1) a1) = (rd (rd_L5 t110 a0) a1)
            ·rw [if_pos c19] at H;have c19b0 : ((rd (rd_L5 t110 x14_1) a1) == (rd (rd_L5 t110 a0) a1)) = true := beq_iff_eq.mpr c19;have c19b1 : ((rd (rd_L5 t110 x14_1) a1) != (rd (rd_L5 t110 a0) a1)) = false := bne_eq_false_iff_eq.mpr c19;clear c19;have H' := am H;clear H;have p115 : 0 ≤ (x14_1 : Int) := of_decide_eq_true (by first | (with_reducible assumption) | assumption);have q115 : x14_1 < (t110.length : Int) := of_decide_eq_true (by first | (with_reducible assumption) | assumption);obtain ⟨ad115, A115_0, c115_0, e115, hx115_0, hl115_0, hi115_0⟩ := at_L5 (Kd.S_reads' HO_12.out).2.2 x14_1 p115 q115
             obtain rfl : ad113 = ad115 := (by injection e115)
             obtain ⟨ce115, hce115, hMe115, hcc115⟩ := Kd.S_get HO_12.out [] x14_1 p115 (by first | exact q115 | exact of_decide_eq_true (by first | (with_reducible assumption) | assumption) | (have e_ := (Kd.S_reads' HO_12.out).1; omega));obtain ⟨ve115_0, rfl, ge115_0⟩ := hMe115;have hv115_0 := hcc115 0 _ rfl;rw [Nat.add_zero, show ((Kd.slice 2 (Kd.int .i64))).sz = 1 from rfl, Nat.mul_one] at hv115_0;replace hv115_0 := Option.some.inj (hv115_0.symm.trans hx115_0);rw [hv115_0] at ge115_0;have HL115_0 := am (show Kd.R (Kd.int .i64) 2 _ _ _ _ (rd_L5 t110 x14_1) from ge115_0);clear hv115_0 ge115_0;clear hcc115 hce115;have HR115_0 := am hi115_0;have HC115_0 := am hl115_0;clear hi115_0 hl115_0;replace p115 := eq_true p115;replace q115 := eq_true q115;have p116 : 0 ≤ (a1 : Int) := of_decide_eq_true (by first | (with_reducible assumption) | assumption);have q116 : a1 < ((rd_L5 t110 x14_1).length : Int) := of_decide_eq_true (by first | (with_reducible assumption) | assumption);obtain ⟨ad116, e116, hx116_0⟩ := Kd.at_int (by repeat (first | (with_reducible exact HR115_0.out) | (with_reducible refine Kd.C_alloc ?_ _) | (with_reducible refine Kd.C_drewN ?_ _) | (with_reducible refine Kd.C_drew ?_) | exact HR115_0.out)) a1 p116 q116
             cases e116
             replace p116 := eq_true p116;replace q116 := eq_true q116
             go_wp2
             go_loopg [15] k1 (fun kq v15 w' => ∃ (x15_2 : Int), v15 = .int .i64 x15_2 ∧ Aside0 (flatpack_Trim.l1 kq t110 (rd (rd_L5 t110 a0) a1) x14_1 x15_2 = some (r1, r2, r3)) ∧ Aside0 (kq ≤ k1) ∧ Aside0 (Kd.S (Kd.slice 2 (Kd.int .i64)) 54 w' w.heap.size (fun _ => True) (.slice (some ad113) t110.length co14) t110) ∧ Aside0 (Kd.C (Kd.int .i64) w' (some ad114) (rd_L5 t110 a0).length (rd_L5 t110 a0)) ∧ Aside0 (Kd.C (Kd.int .i64) w' (some ad116) (rd_L5 t110 x14_1).length (rd_L5 t110 x14_1)) ∧ Aside0 (Below w.heap.size w w'))
             case atStart => exact ⟨(1), (by first | rfl | (simp; done) | (simp [*]; done)), H', ⟨Nat.le_refl _⟩, ⟨by (with_reducible repeat (first | apply Kd.S_alloc | apply Kd.S_drewN | apply Kd.S_drew)); exact HO_12.out⟩, ⟨by repeat (first | (with_reducible exact HR113_0.out) | (with_reducible refine Kd.C_alloc ?_ _) | (with_reducible refine Kd.C_drewN ?_ _) | (with_reducible refine Kd.C_drew ?_) | exact HR113_0.out)⟩, ⟨by repeat (first | (with_reducible exact HR115_0.out) | (with_reducible refine Kd.C_alloc ?_ _) | (with_reducible refine Kd.C_drewN ?_ _) | (with_reducible refine Kd.C_drew ?_) | exact HR115_0.out)⟩, ⟨by repeat (first|(with_reducible first|exact HB.out|apply lA|apply lN|apply lD)|exact HB.out)⟩⟩
             case round =>
              clear H'
              try clear c1
              try clear p1
              try clear q1
              try clear hx1
              try clear c2
              try clear p2
              try clear c3
              try clear c6
              try clear c6b0
              try clear c6b1
              try clear c8
              try clear c8b0
              try clear c9
              try clear c9b0
              try clear c10
              try clear c10b0
              try clear c11
              try clear c11b0
              try clear p11
              try clear q11
              try clear hx11
              try clear c15
              try clear c15b0
              try clear c16
              try clear c16b0
              try clear c17
              try clear c17b0
              try clear c18
              try clear c18b0
              try clear c19
              try clear c19b0
              try clear c19b1
              try clear hx113_0
              try clear hx114_0
              try clear hx115_0
              try clear hx116_0
              try clear p1
              try clear p11
              try clear p113
              try clear p114
              try clear p115
              try clear p116
              try clear p2
              try clear q1
              try clear q11
              try clear q113
              try clear q114
              try clear q115
              try clear q116
              obtain ⟨x15_2, rfl, HA, HK2, HO_12, HR113_0, HR115_0, HB⟩ := hrel
              cases gk with
              | zero => exact absurd HA.out (by simp [flatpack_Trim.l1])
              | succ k2 =>
               have H := HA.out;clear HA;simp only [flatpack_Trim.l1] at H;by_cases c20 : 0 ≤ x14_1
               ·rw [if_pos c20] at H;have c20b0 : decide (0 ≤ x14_1) = true := decide_eq_true c20;clear c20;by_cases c21 : x14_1 < (t110.length : Int)
                ·rw [if_pos c21] at H;have c21b0 : decide (x14_1 < (t110.length : Int)) = true := decide_eq_true c21;clear c21;by_cases c22 : 0 ≤ x15_2
                 ·rw [if_pos c22] at H;have c22b0 : decide (0 ≤ x15_2) = true := decide_eq_true c22;clear c22;by_cases c23 : x15_2 < ((rd_L5 t110 x14_1).length : Int)
                  ·rw [if_pos c23] at H;have c23b0 : decide (x15_2 < ((rd_L5 t110 x14_1).length : Int)) = true := decide_eq_true c23;clear c23;by_cases c24 : (rd (rd_L5 t110 x14_1) x15_2) = (rd (rd_L5 t110 a0) a1)
                   ·rw [if_pos c24] at H;have c24b0 : ((rd (rd_L5 t110 x14_1) x15_2) == (rd (rd_L5 t110 a0) a1)) = true := beq_iff_eq.mpr c24;have c24b1 : ((rd (rd_L5 t110 x14_1) x15_2) != (rd (rd_L5 t110 a0) a1)) = false := bne_eq_false_iff_eq.mpr c24;clear c24;simp only [Option.some.injEq, Prod.mk.injEq] at H;obtain ⟨rfl, rfl, rfl⟩ := H;have p117 : 0 ≤ (x14_1 : Int) := of_decide_eq_true (by first | (with_reducible assumption) | assumption);have q117 : x14_1 < (t110.length : Int) := of_decide_eq_true (by first | (with_reducible assumption) | assumption);obtain ⟨ad117, A117_0, c117_0, e117, hx117_0, hl117_0, hi117_0⟩ := at_L5 (Kd.S_reads' HO_12.out).2.2 x14_1 p117 q117
                    obtain rfl : ad113 = ad117 := (by injection e117)
                    obtain ⟨ce117, hce117, hMe117, hcc117⟩ := Kd.S_get HO_12.out [] x14_1 p117 (by first | exact q117 | exact of_decide_eq_true (by first | (with_reducible assumption) | assumption) | (have e_ := (Kd.S_reads' HO_12.out).1; omega));obtain ⟨ve117_0, rfl, ge117_0⟩ := hMe117;have hv117_0 := hcc117 0 _ rfl;rw [Nat.add_zero, show ((Kd.slice 2 (Kd.int .i64))).sz = 1 from rfl, Nat.mul_one] at hv117_0;replace hv117_0 := Option.some.inj (hv117_0.symm.trans hx117_0);rw [hv117_0] at ge117_0;have HL117_0 := am (show Kd.R (Kd.int .i64) 2 _ _ _ _ (rd_L5 t110 x14_1) from ge117_0);clear hv117_0 ge117_0;clear hcc117 hce117;have HR117_0 := am hi117_0;have HC117_0 := am hl117_0;clear hi117_0 hl117_0;replace p117 := eq_true p117;replace q117 := eq_true q117;have p118 : 0 ≤ (x15_2 : Int) := of_decide_eq_true (by first | (with_reducible assumption) | assumption);have q118 : x15_2 < ((rd_L5 t110 x14_1).length : Int) := of_decide_eq_true (by first | (with_reducible assumption) | assumption);obtain ⟨ad118, e118, hx118_0⟩ := Kd.at_int (by repeat (first | (with_reducible exact HR117_0.out) | (with_reducible refine Kd.C_alloc ?_ _) | (with_reducible refine Kd.C_drewN ?_ _) | (with_reducible refine Kd.C_drew ?_) | exact HR117_0.out)) x15_2 p118 q118
                    cases e118
                    replace p118 := eq_true p118;replace q118 := eq_true q118
                    go_wp2
                    go_ret3
                    exact ⟨by first | rfl | (simp [errW_none, errW_some] <;> rfl) | (simp [*, errW_none, errW_some] <;> rfl), by repeat (first|(with_reducible first|exact HB.out|apply lA|apply lN|apply lD)|exact HB.out)⟩
                   ·rw [if_neg c24] at H;have c24b0 : ((rd (rd_L5 t110 x14_1) x15_2) == (rd (rd_L5 t110 a0) a1)) = false := beq_eq_false_iff_ne.mpr c24;have c24b1 : ((rd (rd_L5 t110 x14_1) x15_2) != (rd (rd_L5 t110 a0) a1)) = true := bne_iff_ne.mpr c24;have H' := am H;clear H;have p117 : 0 ≤ (x14_1 : Int) := of_decide_eq_true (by first | (with_reducible assumption) | assumption);have q117 : x14_1 < (t110.length : Int) := of_decide_eq_true (by first | (with_reducible assumption) | assumption);obtain ⟨ad117, A117_0, c117_0, e117, hx117_0, hl117_0, hi117_0⟩ := at_L5 (Kd.S_reads' HO_12.out).2.2 x14_1 p117 q117
                    obtain rfl : ad113 = ad117 := (by injection e117)
                    obtain ⟨ce117, hce117, hMe117, hcc117⟩ := Kd.S_get HO_12.out [] x14_1 p117 (by first | exact q117 | exact of_decide_eq_true (by first | (with_reducible assumption) | assumption) | (have e_ := (Kd.S_reads' HO_12.out).1; omega));obtain ⟨ve117_0, rfl, ge117_0⟩ := hMe117;have hv117_0 := hcc117 0 _ rfl;rw [Nat.add_zero, show ((Kd.slice 2 (Kd.int .i64))).sz = 1 from rfl, Nat.mul_one] at hv117_0;replace hv117_0 := Option.some.inj (hv117_0.symm.trans hx117_0);rw [hv117_0] at ge117_0;have HL117_0 := am (show Kd.R (Kd.int .i64) 2 _ _ _ _ (rd_L5 t110 x14_1) from ge117_0);clear hv117_0 ge117_0;clear hcc117 hce117;have HR117_0 := am hi117_0;have HC117_0 := am hl117_0;clear hi117_0 hl117_0;replace p117 := eq_true p117;replace q117 := eq_true q117;have p118 : 0 ≤ (x15_2 : Int) := of_decide_eq_true (by first | (with_reducible assumption) | assumption);have q118 : x15_2 < ((rd_L5 t110 x14_1).length : Int) := of_decide_eq_true (by first | (with_reducible assumption) | assumption);obtain ⟨ad118, e118, hx118_0⟩ := Kd.at_int (by repeat (first | (with_reducible exact HR117_0.out) | (with_reducible refine Kd.C_alloc ?_ _) | (with_reducible refine Kd.C_drewN ?_ _) | (with_reducible refine Kd.C_drew ?_) | exact HR117_0.out)) x15_2 p118 q118
                    cases e118
                    replace p118 := eq_true p118;replace q118 := eq_true q118
                    go_wp2
                    go_roundg k2
                    case measure => have := HK1.out; have := HK2.out; omega
                    case rel => exact ⟨(wrap64 (x15_2 + 1)), (by first | rfl | (simp; done) | (simp [*]; done)), H', ⟨by have := HK1.out; have := HK2.out; omega⟩, ⟨by (with_reducible repeat (first | apply Kd.S_alloc | apply Kd.S_drewN | apply Kd.S_drew)); exact HO_12.out⟩, ⟨by repeat (first | (with_reducible exact HR113_0.out) | (with_reducible refine Kd.C_alloc ?_ _) | (with_reducible refine Kd.C_drewN ?_ _) | (with_reducible refine Kd.C_drew ?_) | exact HR113_0.out)⟩, ⟨by repeat (first | (with_reducible exact HR115_0.out) | (with_reducible refine Kd.C_alloc ?_ _) | (with_reducible refine Kd.C_drewN ?_ _) | (with_reducible refine Kd.C_drew ?_) | exact HR115_0.out)⟩, ⟨by repeat (first|(with_reducible first|exact HB.out|apply lA|apply lN|apply lD)|exact HB.out)⟩⟩
                  (rw [if_neg c23] at H;exact absurd H (by simp))
                 (rw [if_neg c22] at H;exact absurd H (by simp))
                (rw [if_neg c21] at H;exact absurd H (by simp))
               (rw [if_neg c20] at H;exact absurd H (by simp))
            ·rw [if_neg c19] at H;have c19b0 : ((rd (rd_L5 t110 x14_1) a1) == (rd (rd_L5 t110 a0) a1)) = false := beq_eq_false_iff_ne.mpr c19;have c19b1 : ((rd (rd_L5 t110 x14_1) a1) != (rd (rd_L5 t110 a0) a1)) = true := bne_iff_ne.mpr c19;have H' := am H;clear H;have p115 : 0 ≤ (x14_1 : Int) := of_decide_eq_true (by first | (with_reducible assumption) | assumption);have q115 : x14_1 < (t110.length : Int) := of_decide_eq_true (by first | (with_reducible assumption) | assumption);obtain ⟨ad115, A115_0, c115_0, e115, hx115_0, hl115_0, hi115_0⟩ := at_L5 (Kd.S_reads' HO_12.out).2.2 x14_1 p115 q115
             obtain rfl : ad113 = ad115 := (by injection e115)
             obtain ⟨ce115, hce115, hMe115, hcc115⟩ := Kd.S_get HO_12.out [] x14_1 p115 (by first | exact q115 | exact of_decide_eq_true (by first | (with_reducible assumption) | assumption) | (have e_ := (Kd.S_reads' HO_12.out).1; omega));obtain ⟨ve115_0, rfl, ge115_0⟩ := hMe115;have hv115_0 := hcc115 0 _ rfl;rw [Nat.add_zero, show ((Kd.slice 2 (Kd.int .i64))).sz = 1 from rfl, Nat.mul_one] at hv115_0;replace hv115_0 := Option.some.inj (hv115_0.symm.trans hx115_0);rw [hv115_0] at ge115_0;have HL115_0 := am (show Kd.R (Kd.int .i64) 2 _ _ _ _ (rd_L5 t110 x14_1) from ge115_0);clear hv115_0 ge115_0;clear hcc115 hce115;have HR115_0 := am hi115_0;have HC115_0 := am hl115_0;clear hi115_0 hl115_0;replace p115 := eq_true p115;replace q115 := eq_true q115;have p116 : 0 ≤ (a1 : Int) := of_decide_eq_true (by first | (with_reducible assumption) | assumption);have q116 : a1 < ((rd_L5 t110 x14_1).length : Int) := of_decide_eq_true (by first | (with_reducible assumption) | assumption);obtain ⟨ad116, e116, hx116_0⟩ := Kd.at_int (by repeat (first | (with_reducible exact HR115_0.out) | (with_reducible refine Kd.C_alloc ?_ _) | (with_reducible refine Kd.C_drewN ?_ _) | (with_reducible refine Kd.C_drew ?_) | exact HR115_0.out)) a1 p116 q116
             cases e116
             replace p116 := eq_true p116;replace q116 := eq_true q116
             go_wp2
             go_roundg k1
             case measure => have := HK1.out; omega
             case rel => exact ⟨(wrap64 (x14_1 + 1)), (by first | rfl | (simp; done) | (simp [*]; done)), H', ⟨by have := HK1.out; omega⟩, ⟨by (with_reducible repeat (first | apply Kd.S_alloc | apply Kd.S_drewN | apply Kd.S_drew)); exact HO_12.out⟩, ⟨by repeat (first | (with_reducible exact HR113_0.out) | (with_reducible refine Kd.C_alloc ?_ _) | (with_reducible refine Kd.C_drewN ?_ _) | (with_reducible refine Kd.C_drew ?_) | exact HR113_0.out)⟩, ⟨by repeat (first|(with_reducible first|exact HB.out|apply lA|apply lN|apply lD)|exact HB.out)⟩⟩
           (rw [if_neg c18] at H;exact absurd H (by simp))
          (rw [if_neg c17] at H;exact absurd H (by simp))
         (rw [if_neg c16] at H;exact absurd H (by simp))
        (rw [if_neg c15] at H;exact absurd H (by simp))
     (rw [if_neg c11] at H;exact absurd H (by simp))
    (rw [if_neg c10] at H;exact absurd H (by simp))
   (rw [if_neg c9] at H;exact absurd H (by simp))
  (rw [if_neg c8] at H;exact absurd H (by simp))
 ·rw [if_neg c6] at H;have c6b0 : (t109 == 0) = false := beq_eq_false_iff_ne.mpr c6;have c6b1 : (t109 != 0) = true := bne_iff_ne.mpr c6;simp only [Option.some.injEq, Prod.mk.injEq] at H;obtain ⟨rfl, rfl, rfl⟩ := H
  go_enter Try.func19, Try.ntmps19
  go_wp2_with (first | ((with_reducible refine gate_callee (f := 30) rfl ?_); refine goesL_ (some 20) rfl rfl Try.func30 (by kernel_rfl) rfl #[.int .i64 a0, .int .i64 a1, .slice A2 l2.length c2, .int .i64 a3] rfl (by (try simp only [List.map_toArray, List.map_cons, List.map_nil]); first | done | rfl | (simp only [List.length_drop, List.length_take]; rfl)) ?_; (with_reducible refine (flatpack_Check.calls a0 a1 _ _ l2 a3 t109 _ ?side1 ?side2 A5.out).mono ?_); (case side1 => repeat (first | exact HR2.out | (with_reducible refine Kd.C_alloc ?_ _) | (with_reducible refine Kd.C_drewN ?_ _) | (with_reducible refine Kd.C_drew ?_))); (case side2 => exact HC2.out); rintro e w25 ⟨rfl, hb⟩; refine ⟨_, rfl, ?_⟩; replace HB := bsa HB hb; (try clear hb); (try clear hb2); (try clear hk); (try clear hi)))
  go_ret3
  exact ⟨by first | rfl | (simp [errW_none, errW_some] <;> rfl) | (simp [*, errW_none, errW_some] <;> rfl), by repeat (first|(with_reducible first|exact HB.out|apply lA|apply lN|apply lD)|exact HB.out)⟩
end
end Go.Proofs.Ytdnjagfbhppmbaa.PA
