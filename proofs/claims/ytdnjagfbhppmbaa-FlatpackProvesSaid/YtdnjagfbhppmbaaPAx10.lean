-- Written by a program of this session out of the translation, over functions proved by hand.
import Derived.Test.YtdnjagfbhppmbaaPAx0
import Derived.Test.YtdnjagfbhppmbaaPAx4
import Derived.Test.YtdnjagfbhppmbaaPAx5
namespace Go.Proofs.Ytdnjagfbhppmbaa.PA
open Go.RowKit Go.Proofs.YtdnjagfbhppmbaaW.PrintWords Go.Proofs.YtdnjagfbhppmbaaW.PrintLast Go.Proofs.YtdnjagfbhppmbaaW.PrintMore
attribute [local go_sem] max2_int min2_int max_two min_two max_three min_three max_four min_four   -- for this text's walks alone
set_option linter.unusedVariables false
set_option linter.unusedSimpArgs false

/-! ### gangsawref25_Proves: function 26 -/
mutual
def gangsawref25_Proves.j0 : Nat → Int → Int → List (S36) → Int → List (List Int) → Bool → Option (Bool)
  | 0, _, _, _, _, _, _ => none
  | k + 1, x0, x1, x2, x3, x4, x29 => if x29 = true then (some false) else (gangsawref25_Proves.l0 k x0 x1 x2 x3 x4 0)
def gangsawref25_Proves.l0 : Nat → Int → Int → List (S36) → Int → List (List Int) → Int → Option (Bool)
  | 0, _, _, _, _, _, _ => none
  | k + 1, x0, x1, x2, x3, x4, x11 => if x11 ≤ x0 then (if 0 ≤ x11 then (if x11 < (x4.length : Int) then (if ((rd_L5 x4 x11).length : Int) = (wrap64 (x1 + 1)) then (gangsawref25_Proves.l1 k x0 x1 x2 x3 x4 x11 0) else (some false)) else (none)) else (none)) else (gangsawref25_Proves.l2 k x0 x1 x2 x3 x4 1)
def gangsawref25_Proves.l1 : Nat → Int → Int → List (S36) → Int → List (List Int) → Int → Int → Option (Bool)
  | 0, _, _, _, _, _, _, _ => none
  | k + 1, x0, x1, x2, x3, x4, x11, x12 => if x12 ≤ x1 then (if 0 ≤ x11 then (if x11 < (x4.length : Int) then (if 0 ≤ x12 then (if x12 < ((rd_L5 x4 x11).length : Int) then (if (rd (rd_L5 x4 x11) x12) < 0 then (some false) else (if (rd (rd_L5 x4 x11) x12) > 1000000000000000 then (some false) else (gangsawref25_Proves.l1 k x0 x1 x2 x3 x4 x11 (wrap64 (x12 + 1))))) else (none)) else (none)) else (none)) else (none)) else (gangsawref25_Proves.l0 k x0 x1 x2 x3 x4 (wrap64 (x11 + 1)))
def gangsawref25_Proves.l2 : Nat → Int → Int → List (S36) → Int → List (List Int) → Int → Option (Bool)
  | 0, _, _, _, _, _, _ => none
  | k + 1, x0, x1, x2, x3, x4, x13 => if x13 ≤ x0 then (gangsawref25_Proves.l3 k x0 x1 x2 x3 x4 x13 1) else (some true)
def gangsawref25_Proves.l3 : Nat → Int → Int → List (S36) → Int → List (List Int) → Int → Int → Option (Bool)
  | 0, _, _, _, _, _, _, _ => none
  | k + 1, x0, x1, x2, x3, x4, x13, x14 => if x14 ≤ x1 then (if 0 ≤ x13 then (if x13 < (x4.length : Int) then (if 0 ≤ x14 then (if x14 < ((rd_L5 x4 x13).length : Int) then ((gangsawref25_item.f k x2 x13 x14).bind fun t349 => (if (rd (rd_L5 x4 x13) x14) < t349 then (some false) else (gangsawref25_Proves.l4 k x0 x1 x2 x3 x4 x13 x14 1))) else (none)) else (none)) else (none)) else (none)) else (gangsawref25_Proves.l2 k x0 x1 x2 x3 x4 (wrap64 (x13 + 1)))
def gangsawref25_Proves.l4 : Nat → Int → Int → List (S36) → Int → List (List Int) → Int → Int → Int → Option (Bool)
  | 0, _, _, _, _, _, _, _, _ => none
  | k + 1, x0, x1, x2, x3, x4, x13, x14, x15 => if (wrap64 (x15 + x3)) < x13 then (if 0 ≤ x13 then (if x13 < (x4.length : Int) then (if 0 ≤ x14 then (if x14 < ((rd_L5 x4 x13).length : Int) then (if 0 ≤ x15 then (if x15 < (x4.length : Int) then (if x14 < ((rd_L5 x4 x15).length : Int) then (if 0 ≤ (wrap64 ((wrap64 (x13 - x15)) - x3)) then (if (wrap64 ((wrap64 (x13 - x15)) - x3)) < (x4.length : Int) then (if x14 < ((rd_L5 x4 (wrap64 ((wrap64 (x13 - x15)) - x3))).length : Int) then (if (rd (rd_L5 x4 x13) x14) < (wrap64 ((rd (rd_L5 x4 x15) x14) + (rd (rd_L5 x4 (wrap64 ((wrap64 (x13 - x15)) - x3))) x14))) then (some false) else (gangsawref25_Proves.l4 k x0 x1 x2 x3 x4 x13 x14 (wrap64 (x15 + 1)))) else (none)) else (none)) else (none)) else (none)) else (none)) else (none)) else (none)) else (none)) else (none)) else (none)) else (gangsawref25_Proves.l5 k x0 x1 x2 x3 x4 x13 x14 1)
def gangsawref25_Proves.l5 : Nat → Int → Int → List (S36) → Int → List (List Int) → Int → Int → Int → Option (Bool)
  | 0, _, _, _, _, _, _, _, _ => none
  | k + 1, x0, x1, x2, x3, x4, x13, x14, x16 => if (wrap64 (x16 + x3)) < x14 then (if 0 ≤ x13 then (if x13 < (x4.length : Int) then (if 0 ≤ x14 then (if x14 < ((rd_L5 x4 x13).length : Int) then (if 0 ≤ x16 then (if x16 < ((rd_L5 x4 x13).length : Int) then (if 0 ≤ (wrap64 ((wrap64 (x14 - x16)) - x3)) then (if (wrap64 ((wrap64 (x14 - x16)) - x3)) < ((rd_L5 x4 x13).length : Int) then (if (rd (rd_L5 x4 x13) x14) < (wrap64 ((rd (rd_L5 x4 x13) x16) + (rd (rd_L5 x4 x13) (wrap64 ((wrap64 (x14 - x16)) - x3))))) then (some false) else (gangsawref25_Proves.l5 k x0 x1 x2 x3 x4 x13 x14 (wrap64 (x16 + 1)))) else (none)) else (none)) else (none)) else (none)) else (none)) else (none)) else (none)) else (none)) else (gangsawref25_Proves.l3 k x0 x1 x2 x3 x4 x13 (wrap64 (x14 + 1)))
end
def gangsawref25_Proves.f (k : Nat) (a0 : Int) (a1 : Int) (l2 : List (S36)) (a3 : Int) (l4 : List (List Int)) : Option (Bool) := (gangsawref25_Check.f k a0 a1 l2 a3).bind fun t341 => (if t341 = 0 then (gangsawref25_Proves.j0 k a0 a1 l2 a3 l4 ((l4.length : Int) != (wrap64 (a0 + 1)))) else (gangsawref25_Proves.j0 k a0 a1 l2 a3 l4 true))
theorem gangsawref25_Proves.mono_l : ∀ k, (∀ y0 y1 y2 y3 y4 y5, LeO (gangsawref25_Proves.j0 k y0 y1 y2 y3 y4 y5) (gangsawref25_Proves.j0 (k + 1) y0 y1 y2 y3 y4 y5)) ∧ (∀ y0 y1 y2 y3 y4 y5, LeO (gangsawref25_Proves.l0 k y0 y1 y2 y3 y4 y5) (gangsawref25_Proves.l0 (k + 1) y0 y1 y2 y3 y4 y5)) ∧ (∀ y0 y1 y2 y3 y4 y5 y6, LeO (gangsawref25_Proves.l1 k y0 y1 y2 y3 y4 y5 y6) (gangsawref25_Proves.l1 (k + 1) y0 y1 y2 y3 y4 y5 y6)) ∧ (∀ y0 y1 y2 y3 y4 y5, LeO (gangsawref25_Proves.l2 k y0 y1 y2 y3 y4 y5) (gangsawref25_Proves.l2 (k + 1) y0 y1 y2 y3 y4 y5)) ∧ (∀ y0 y1 y2 y3 y4 y5 y6, LeO (gangsawref25_Proves.l3 k y0 y1 y2 y3 y4 y5 y6) (gangsawref25_Proves.l3 (k + 1) y0 y1 y2 y3 y4 y5 y6)) ∧ (∀ y0 y1 y2 y3 y4 y5 y6 y7, LeO (gangsawref25_Proves.l4 k y0 y1 y2 y3 y4 y5 y6 y7) (gangsawref25_Proves.l4 (k + 1) y0 y1 y2 y3 y4 y5 y6 y7)) ∧ (∀ y0 y1 y2 y3 y4 y5 y6 y7, LeO (gangsawref25_Proves.l5 k y0 y1 y2 y3 y4 y5 y6 y7) (gangsawref25_Proves.l5 (k + 1) y0 y1 y2 y3 y4 y5 y6 y7))
  | 0 => ⟨fun _ _ _ _ _ _ r h => by simp [gangsawref25_Proves.j0] at h, fun _ _ _ _ _ _ r h => by simp [gangsawref25_Proves.l0] at h, fun _ _ _ _ _ _ _ r h => by simp [gangsawref25_Proves.l1] at h, fun _ _ _ _ _ _ r h => by simp [gangsawref25_Proves.l2] at h, fun _ _ _ _ _ _ _ r h => by simp [gangsawref25_Proves.l3] at h, fun _ _ _ _ _ _ _ _ r h => by simp [gangsawref25_Proves.l4] at h, fun _ _ _ _ _ _ _ _ r h => by simp [gangsawref25_Proves.l5] at h⟩
  | k + 1 => by
    obtain ⟨ih0, ih1, ih2, ih3, ih4, ih5, ih6⟩ := gangsawref25_Proves.mono_l k
    refine ⟨?_, ?_, ?_, ?_, ?_, ?_, ?_⟩
    · intro y0 y1 y2 y3 y4 y5
      unfold gangsawref25_Proves.j0
      repeat' first
      | (with_reducible exact ih0 _ _ _ _ _ _)
      | (with_reducible exact ih1 _ _ _ _ _ _)
      | (with_reducible exact ih2 _ _ _ _ _ _ _)
      | (with_reducible exact ih3 _ _ _ _ _ _)
      | (with_reducible exact ih4 _ _ _ _ _ _ _)
      | (with_reducible exact ih5 _ _ _ _ _ _ _ _)
      | (with_reducible exact ih6 _ _ _ _ _ _ _ _)
      | (with_reducible exact gangsawref25_Check.mono _ _ _ _ _)
      | (with_reducible exact gangsawref25_item.mono _ _ _ _)
      | (with_reducible exact LeO.refl _)
      | (with_reducible exact LeO.none _)
      | (with_reducible refine LeO.ite ?_ ?_)
      | (with_reducible refine LeO.bind ?_ (fun _ => ?_))
      | exact ih0 _ _ _ _ _ _
      | exact ih1 _ _ _ _ _ _
      | exact ih2 _ _ _ _ _ _ _
      | exact ih3 _ _ _ _ _ _
      | exact ih4 _ _ _ _ _ _ _
      | exact ih5 _ _ _ _ _ _ _ _
      | exact ih6 _ _ _ _ _ _ _ _
      | exact gangsawref25_Check.mono _ _ _ _ _
      | exact gangsawref25_item.mono _ _ _ _
      | exact LeO.none _
      | refine LeO.ite ?_ ?_
      | refine LeO.bind ?_ (fun _ => ?_)
    · intro y0 y1 y2 y3 y4 y5
      unfold gangsawref25_Proves.l0
      repeat' first
      | (with_reducible exact ih0 _ _ _ _ _ _)
      | (with_reducible exact ih1 _ _ _ _ _ _)
      | (with_reducible exact ih2 _ _ _ _ _ _ _)
      | (with_reducible exact ih3 _ _ _ _ _ _)
      | (with_reducible exact ih4 _ _ _ _ _ _ _)
      | (with_reducible exact ih5 _ _ _ _ _ _ _ _)
      | (with_reducible exact ih6 _ _ _ _ _ _ _ _)
      | (with_reducible exact gangsawref25_Check.mono _ _ _ _ _)
      | (with_reducible exact gangsawref25_item.mono _ _ _ _)
      | (with_reducible exact LeO.refl _)
      | (with_reducible exact LeO.none _)
      | (with_reducible refine LeO.ite ?_ ?_)
      | (with_reducible refine LeO.bind ?_ (fun _ => ?_))
      | exact ih0 _ _ _ _ _ _
      | exact ih1 _ _ _ _ _ _
      | exact ih2 _ _ _ _ _ _ _
      | exact ih3 _ _ _ _ _ _
      | exact ih4 _ _ _ _ _ _ _
      | exact ih5 _ _ _ _ _ _ _ _
      | exact ih6 _ _ _ _ _ _ _ _
      | exact gangsawref25_Check.mono _ _ _ _ _
      | exact gangsawref25_item.mono _ _ _ _
      | exact LeO.none _
      | refine LeO.ite ?_ ?_
      | refine LeO.bind ?_ (fun _ => ?_)
    · intro y0 y1 y2 y3 y4 y5 y6
      unfold gangsawref25_Proves.l1
      repeat' first
      | (with_reducible exact ih0 _ _ _ _ _ _)
      | (with_reducible exact ih1 _ _ _ _ _ _)
      | (with_reducible exact ih2 _ _ _ _ _ _ _)
      | (with_reducible exact ih3 _ _ _ _ _ _)
      | (with_reducible exact ih4 _ _ _ _ _ _ _)
      | (with_reducible exact ih5 _ _ _ _ _ _ _ _)
      | (with_reducible exact ih6 _ _ _ _ _ _ _ _)
      | (with_reducible exact gangsawref25_Check.mono _ _ _ _ _)
      | (with_reducible exact gangsawref25_item.mono _ _ _ _)
      | (with_reducible exact LeO.refl _)
      | (with_reducible exact LeO.none _)
      | (with_reducible refine LeO.ite ?_ ?_)
      | (with_reducible refine LeO.bind ?_ (fun _ => ?_))
      | exact ih0 _ _ _ _ _ _
      | exact ih1 _ _ _ _ _ _
      | exact ih2 _ _ _ _ _ _ _
      | exact ih3 _ _ _ _ _ _
      | exact ih4 _ _ _ _ _ _ _
      | exact ih5 _ _ _ _ _ _ _ _
      | exact ih6 _ _ _ _ _ _ _ _
      | exact gangsawref25_Check.mono _ _ _ _ _
      | exact gangsawref25_item.mono _ _ _ _
      | exact LeO.none _
      | refine LeO.ite ?_ ?_
      | refine LeO.bind ?_ (fun _ => ?_)
    · intro y0 y1 y2 y3 y4 y5
      unfold gangsawref25_Proves.l2
      repeat' first
      | (with_reducible exact ih0 _ _ _ _ _ _)
      | (with_reducible exact ih1 _ _ _ _ _ _)
      | (with_reducible exact ih2 _ _ _ _ _ _ _)
      | (with_reducible exact ih3 _ _ _ _ _ _)
      | (with_reducible exact ih4 _ _ _ _ _ _ _)
      | (with_reducible exact ih5 _ _ _ _ _ _ _ _)
      | (with_reducible exact ih6 _ _ _ _ _ _ _ _)
      | (with_reducible exact gangsawref25_Check.mono _ _ _ _ _)
      | (with_reducible exact gangsawref25_item.mono _ _ _ _)
      | (with_reducible exact LeO.refl _)
      | (with_reducible exact LeO.none _)
      | (with_reducible refine LeO.ite ?_ ?_)
      | (with_reducible refine LeO.bind ?_ (fun _ => ?_))
      | exact ih0 _ _ _ _ _ _
      | exact ih1 _ _ _ _ _ _
      | exact ih2 _ _ _ _ _ _ _
      | exact ih3 _ _ _ _ _ _
      | exact ih4 _ _ _ _ _ _ _
      | exact ih5 _ _ _ _ _ _ _ _
      | exact ih6 _ _ _ _ _ _ _ _
      | exact gangsawref25_Check.mono _ _ _ _ _
      | exact gangsawref25_item.mono _ _ _ _
      | exact LeO.none _
      | refine LeO.ite ?_ ?_
      | refine LeO.bind ?_ (fun _ => ?_)
    · intro y0 y1 y2 y3 y4 y5 y6
      unfold gangsawref25_Proves.l3
      repeat' first
      | (with_reducible exact ih0 _ _ _ _ _ _)
      | (with_reducible exact ih1 _ _ _ _ _ _)
      | (with_reducible exact ih2 _ _ _ _ _ _ _)
      | (with_reducible exact ih3 _ _ _ _ _ _)
      | (with_reducible exact ih4 _ _ _ _ _ _ _)
      | (with_reducible exact ih5 _ _ _ _ _ _ _ _)
      | (with_reducible exact ih6 _ _ _ _ _ _ _ _)
      | (with_reducible exact gangsawref25_Check.mono _ _ _ _ _)
      | (with_reducible exact gangsawref25_item.mono _ _ _ _)
      | (with_reducible exact LeO.refl _)
      | (with_reducible exact LeO.none _)
      | (with_reducible refine LeO.ite ?_ ?_)
      | (with_reducible refine LeO.bind ?_ (fun _ => ?_))
      | exact ih0 _ _ _ _ _ _
      | exact ih1 _ _ _ _ _ _
      | exact ih2 _ _ _ _ _ _ _
      | exact ih3 _ _ _ _ _ _
      | exact ih4 _ _ _ _ _ _ _
      | exact ih5 _ _ _ _ _ _ _ _
      | exact ih6 _ _ _ _ _ _ _ _
      | exact gangsawref25_Check.mono _ _ _ _ _
      | exact gangsawref25_item.mono _ _ _ _
      | exact LeO.none _
      | refine LeO.ite ?_ ?_
      | refine LeO.bind ?_ (fun _ => ?_)
    · intro y0 y1 y2 y3 y4 y5 y6 y7
      unfold gangsawref25_Proves.l4
      repeat' first
      | (with_reducible exact ih0 _ _ _ _ _ _)
      | (with_reducible exact ih1 _ _ _ _ _ _)
      | (with_reducible exact ih2 _ _ _ _ _ _ _)
      | (with_reducible exact ih3 _ _ _ _ _ _)
      | (with_reducible exact ih4 _ _ _ _ _ _ _)
      | (with_reducible exact ih5 _ _ _ _ _ _ _ _)
      | (with_reducible exact ih6 _ _ _ _ _ _ _ _)
      | (with_reducible exact gangsawref25_Check.mono _ _ _ _ _)
      | (with_reducible exact gangsawref25_item.mono _ _ _ _)
      | (with_reducible exact LeO.refl _)
      | (with_reducible exact LeO.none _)
      | (with_reducible refine LeO.ite ?_ ?_)
      | (with_reducible refine LeO.bind ?_ (fun _ => ?_))
      | exact ih0 _ _ _ _ _ _
      | exact ih1 _ _ _ _ _ _
      | exact ih2 _ _ _ _ _ _ _
      | exact ih3 _ _ _ _ _ _
      | exact ih4 _ _ _ _ _ _ _
      | exact ih5 _ _ _ _ _ _ _ _
      | exact ih6 _ _ _ _ _ _ _ _
      | exact gangsawref25_Check.mono _ _ _ _ _
      | exact gangsawref25_item.mono _ _ _ _
      | exact LeO.none _
      | refine LeO.ite ?_ ?_
      | refine LeO.bind ?_ (fun _ => ?_)
    · intro y0 y1 y2 y3 y4 y5 y6 y7
      unfold gangsawref25_Proves.l5
      repeat' first
      | (with_reducible exact ih0 _ _ _ _ _ _)
      | (with_reducible exact ih1 _ _ _ _ _ _)
      | (with_reducible exact ih2 _ _ _ _ _ _ _)
      | (with_reducible exact ih3 _ _ _ _ _ _)
      | (with_reducible exact ih4 _ _ _ _ _ _ _)
      | (with_reducible exact ih5 _ _ _ _ _ _ _ _)
      | (with_reducible exact ih6 _ _ _ _ _ _ _ _)
      | (with_reducible exact gangsawref25_Check.mono _ _ _ _ _)
      | (with_reducible exact gangsawref25_item.mono _ _ _ _)
      | (with_reducible exact LeO.refl _)
      | (with_reducible exact LeO.none _)
      | (with_reducible refine LeO.ite ?_ ?_)
      | (with_reducible refine LeO.bind ?_ (fun _ => ?_))
      | exact ih0 _ _ _ _ _ _
      | exact ih1 _ _ _ _ _ _
      | exact ih2 _ _ _ _ _ _ _
      | exact ih3 _ _ _ _ _ _
      | exact ih4 _ _ _ _ _ _ _
      | exact ih5 _ _ _ _ _ _ _ _
      | exact ih6 _ _ _ _ _ _ _ _
      | exact gangsawref25_Check.mono _ _ _ _ _
      | exact gangsawref25_item.mono _ _ _ _
      | exact LeO.none _
      | refine LeO.ite ?_ ?_
      | refine LeO.bind ?_ (fun _ => ?_)
theorem gangsawref25_Proves.mono : ∀ a0 a1 a2 a3 a4 k, LeO (gangsawref25_Proves.f k a0 a1 a2 a3 a4) (gangsawref25_Proves.f (k + 1) a0 a1 a2 a3 a4) := by
  intro a0 a1 a2 a3 a4 k
  obtain ⟨ih0, ih1, ih2, ih3, ih4, ih5, ih6⟩ := gangsawref25_Proves.mono_l k
  unfold gangsawref25_Proves.f
  repeat' first
      | (with_reducible exact ih0 _ _ _ _ _ _)
      | (with_reducible exact ih1 _ _ _ _ _ _)
      | (with_reducible exact ih2 _ _ _ _ _ _ _)
      | (with_reducible exact ih3 _ _ _ _ _ _)
      | (with_reducible exact ih4 _ _ _ _ _ _ _)
      | (with_reducible exact ih5 _ _ _ _ _ _ _ _)
      | (with_reducible exact ih6 _ _ _ _ _ _ _ _)
      | (with_reducible exact gangsawref25_Check.mono _ _ _ _ _)
      | (with_reducible exact gangsawref25_item.mono _ _ _ _)
      | (with_reducible exact LeO.refl _)
      | (with_reducible exact LeO.none _)
      | (with_reducible refine LeO.ite ?_ ?_)
      | (with_reducible refine LeO.bind ?_ (fun _ => ?_))
      | exact ih0 _ _ _ _ _ _
      | exact ih1 _ _ _ _ _ _
      | exact ih2 _ _ _ _ _ _ _
      | exact ih3 _ _ _ _ _ _
      | exact ih4 _ _ _ _ _ _ _
      | exact ih5 _ _ _ _ _ _ _ _
      | exact ih6 _ _ _ _ _ _ _ _
      | exact gangsawref25_Check.mono _ _ _ _ _
      | exact gangsawref25_item.mono _ _ _ _
      | exact LeO.none _
      | refine LeO.ite ?_ ?_
      | refine LeO.bind ?_ (fun _ => ?_)
def gangsawref25_Proves.T19 : Bool × List (List Nat × List Nat) := (true, [([], []), ([], []), ([0, 1], [0, 1]), ([2], [2]), ([], []), ([3, 4], [3, 4]), ([5], [5]), ([], []), ([], []), ([], []), ([7, 8, 9], [7, 8, 9]), ([6, 10], [6, 10])])
def gangsawref25_Proves.B19 : List Nat := [0, 0, 3, 7, 0, 31, 63, 0, 0, 0, 896, 2047]
theorem gangsawref25_Proves.tab19 : rtab .any (opsOf Try.f26 19) = gangsawref25_Proves.T19 := by kernel_rfl
theorem gangsawref25_Proves.bits19 : waitsOk gangsawref25_Proves.T19.2 gangsawref25_Proves.B19 = true := by kernel_rfl
def gangsawref25_Proves.T24 : Bool × List (List Nat × List Nat) := (true, [([], []), ([], []), ([0, 1], [0, 1]), ([2], [2]), ([], []), ([3, 4], [3, 4]), ([5], [5]), ([], []), ([], []), ([7, 8], [7, 8]), ([9], [9]), ([], []), ([10, 11], [10, 11]), ([12], [12]), ([], []), ([], []), ([], []), ([15, 16], [15, 16]), ([], []), ([17, 18], [17, 18]), ([14, 19], [14, 19]), ([20], [20]), ([], []), ([21, 22], [21, 22]), ([23], [23]), ([13, 24], [13, 24]), ([6, 25], [6, 25])])
def gangsawref25_Proves.B24 : List Nat := [0, 0, 3, 7, 0, 31, 63, 0, 0, 384, 896, 0, 3968, 8064, 0, 0, 0, 98304, 0, 491520, 1032192, 2080768, 0, 8372224, 16760832, 33554304, 67108863]
theorem gangsawref25_Proves.tab24 : rtab .any (opsOf Try.f26 24) = gangsawref25_Proves.T24 := by kernel_rfl
theorem gangsawref25_Proves.bits24 : waitsOk gangsawref25_Proves.T24.2 gangsawref25_Proves.B24 = true := by kernel_rfl
def gangsawref25_Proves.T29 : Bool × List (List Nat × List Nat) := (true, [([], []), ([], []), ([0, 1], [0, 1]), ([2], [2]), ([], []), ([3, 4], [3, 4]), ([5], [5]), ([], []), ([], []), ([7, 8], [7, 8]), ([9], [9]), ([], []), ([10, 11], [10, 11]), ([12], [12]), ([], []), ([], []), ([14, 15], [14, 15]), ([16], [16]), ([], []), ([], []), ([18, 19], [18, 19]), ([], []), ([20, 21], [20, 21]), ([17, 22], [17, 22]), ([23], [23]), ([13, 24], [13, 24]), ([6, 25], [6, 25])])
def gangsawref25_Proves.B29 : List Nat := [0, 0, 3, 7, 0, 31, 63, 0, 0, 384, 896, 0, 3968, 8064, 0, 0, 49152, 114688, 0, 0, 786432, 0, 3932160, 8372224, 16760832, 33554304, 67108863]
theorem gangsawref25_Proves.tab29 : rtab .any (opsOf Try.f26 29) = gangsawref25_Proves.T29 := by kernel_rfl
theorem gangsawref25_Proves.bits29 : waitsOk gangsawref25_Proves.T29.2 gangsawref25_Proves.B29 = true := by kernel_rfl
set_option maxHeartbeats 8000000 in
set_option maxRecDepth 100000 in
theorem gangsawref25_Proves.calls (k : Nat) (a0 : Int) (a1 : Int) (A2 : Option Addr) (c2 : Nat) (l2 : List (S36)) (a3 : Int) (A4 : Option Addr) (c4 : Nat) (l4 : List (List Int)) (r : Bool) (w : World) (hr2 : Kd.C k36 w A2 l2.length l2) (hc2 : l2.length ≤ c2) (hr4 : Kd.C (Kd.slice 2 (Kd.int .i64)) w A4 l4.length l4) (hc4 : l4.length ≤ c4) (h : gangsawref25_Proves.f k a0 a1 l2 a3 l4 = some r) :
    Calls Try.prog 26 #[.int .i64 a0, .int .i64 a1, .slice A2 l2.length c2, .int .i64 a3, .slice A4 l4.length c4] w fun e w' => e = .returned (.bool r) ∧ Below w.heap.size w w' := by
  have HR2 := Aside0.mk hr2
  have HC2 := Aside0.mk hc2
  clear hr2 hc2
  have HR4 := Aside0.mk hr4
  have HC4 := Aside0.mk hc4
  clear hr4 hc4
  have HB := Aside0.mk (Below.refl w.heap.size w)
  have H : ((gangsawref25_Check.f k a0 a1 l2 a3).bind fun t341 => (if t341 = 0 then (gangsawref25_Proves.j0 k a0 a1 l2 a3 l4 ((l4.length : Int) != (wrap64 (a0 + 1)))) else (gangsawref25_Proves.j0 k a0 a1 l2 a3 l4 true))) = some r := h
  clear h
  have HC6 := Aside0.mk H
  clear H
  go_enter Try.func26, Try.ntmps26
  go_upto_region 1 with (fail)
  go_cut [29] (fun v29 wc => ∃ (kq : Nat) (x29_5 : Bool), v29 = .bool x29_5 ∧ Aside0 (gangsawref25_Proves.j0 kq a0 a1 l2 a3 l4 x29_5 = some r) ∧ Aside0 (kq ≤ k) ∧ Aside0 (Below w.heap.size w wc))
  case first =>
    have H := HC6.out
    clear HC6
    replace H := Option.bind_eq_some_iff.mp H
    obtain ⟨t341, A70, H⟩ := H
    replace H : (if t341 = 0 then (gangsawref25_Proves.j0 k a0 a1 l2 a3 l4 ((l4.length : Int) != (wrap64 (a0 + 1)))) else (gangsawref25_Proves.j0 k a0 a1 l2 a3 l4 true)) = some r := H
    have A7 := Aside0.mk A70
    clear A70
    by_cases c8 : t341 = 0
    · rw [if_pos c8] at H
      have c8b0 : (t341 == 0) = true := beq_iff_eq.mpr c8
      have c8b1 : (t341 != 0) = false := bne_eq_false_iff_eq.mpr c8
      clear c8
      (first | rw [c8b0] | (simp only [i64_w, i32_w]; rw [c8b0]) | skip)
      have H' := Aside0.mk H
      clear H
      go_wp2_with (first | ((with_reducible refine gate_callee (f := 13) rfl ?_); refine goesL_ (some 21) rfl rfl Try.func13 (by kernel_rfl) rfl #[.int .i64 a0, .int .i64 a1, .slice A2 l2.length c2, .int .i64 a3] rfl (by (try simp only [List.map_toArray, List.map_cons, List.map_nil]); first | done | rfl | (simp only [List.length_drop, List.length_take]; rfl)) ?_; (with_reducible refine (gangsawref25_Check.calls k a0 a1 _ _ l2 a3 t341 _ ?side1 ?side2 A7.out).mono ?_); (case side1 => repeat (first | exact (Kd.C_below HR2.out HB.out) | (with_reducible refine Kd.C_alloc ?_ _) | (with_reducible refine Kd.C_drewN ?_ _) | (with_reducible refine Kd.C_drew ?_))); (case side2 => exact HC2.out); rintro e w' ⟨rfl, ⟨nd, rfl⟩⟩; refine ⟨_, rfl, ?_⟩))
      go_meet
      case rel => exact ⟨_, (((l4.length : Int) != (wrap64 (a0 + 1)))), (by first | rfl | (simp; done) | (simp [*]; done)), H', ⟨by first | omega | exact Nat.le_refl _⟩, ⟨by repeat (first | (with_reducible first | exact HB.out | apply below_alloc | apply pw_below_drewN | apply below_drew1) | exact HB.out)⟩⟩
    · rw [if_neg c8] at H
      have c8b0 : (t341 == 0) = false := beq_eq_false_iff_ne.mpr c8
      have c8b1 : (t341 != 0) = true := bne_iff_ne.mpr c8
      (first | rw [c8b0] | (simp only [i64_w, i32_w]; rw [c8b0]) | skip)
      have H' := Aside0.mk H
      clear H
      go_wp2_with (first | ((with_reducible refine gate_callee (f := 13) rfl ?_); refine goesL_ (some 21) rfl rfl Try.func13 (by kernel_rfl) rfl #[.int .i64 a0, .int .i64 a1, .slice A2 l2.length c2, .int .i64 a3] rfl (by (try simp only [List.map_toArray, List.map_cons, List.map_nil]); first | done | rfl | (simp only [List.length_drop, List.length_take]; rfl)) ?_; (with_reducible refine (gangsawref25_Check.calls k a0 a1 _ _ l2 a3 t341 _ ?side1 ?side2 A7.out).mono ?_); (case side1 => repeat (first | exact (Kd.C_below HR2.out HB.out) | (with_reducible refine Kd.C_alloc ?_ _) | (with_reducible refine Kd.C_drewN ?_ _) | (with_reducible refine Kd.C_drew ?_))); (case side2 => exact HC2.out); rintro e w' ⟨rfl, ⟨nd, rfl⟩⟩; refine ⟨_, rfl, ?_⟩))
      go_meet
      case rel => exact ⟨_, (true), (by first | rfl | (simp; done) | (simp [*]; done)), H', ⟨by first | omega | exact Nat.le_refl _⟩, ⟨by repeat (first | (with_reducible first | exact HB.out | apply below_alloc | apply pw_below_drewN | apply below_drew1) | exact HB.out)⟩⟩
  case rest =>
    clear HC6
    try clear c1
    try clear c2
    try clear p2
    try clear c4
    try clear p6
    try clear c8
    try clear c8b0
    try clear c8b1
    obtain ⟨kq, x29_5, rfl, HA, HJ5, HB⟩ := hcut
    cases kq with
    | zero => exact absurd HA.out (by simp [gangsawref25_Proves.j0])
    | succ kj5 =>
      have H := HA.out
      clear HA
      simp only [gangsawref25_Proves.j0] at H
      by_cases c9 : x29_5 = true
      · subst c9
        have H1 : (some false) = some r := by rw [if_pos rfl] at H; exact H
        clear H
        have H := H1
        clear H1
        obtain rfl := Option.some.inj H
        go_wp2
        go_ret
        exact ⟨by first | rfl | (simp [errW_none, errW_some] <;> rfl) | (simp [*, errW_none, errW_some] <;> rfl), by repeat (first | (with_reducible first | exact HB.out | apply below_alloc | apply pw_below_drewN | apply below_drew1) | exact HB.out)⟩
      · replace c9 := Bool.eq_false_iff.mpr c9
        subst c9
        have H1 : (gangsawref25_Proves.l0 kj5 a0 a1 l2 a3 l4 0) = some r := by rw [if_neg (show ¬ (false = true) by decide)] at H; exact H
        clear H
        have H := H1
        clear H1
        have H' := Aside0.mk H
        clear H
        go_wp2
        go_loopg [11] kj5 (fun kq v11 w' => ∃ (x11_2 : Int), v11 = .int .i64 x11_2 ∧ Aside0 (gangsawref25_Proves.l0 kq a0 a1 l2 a3 l4 x11_2 = some r) ∧ Aside0 (kq ≤ kj5) ∧ Aside0 (Below w.heap.size w w'))
        case atStart => exact ⟨(0), (by first | rfl | (simp; done) | (simp [*]; done)), H', ⟨Nat.le_refl _⟩, ⟨by repeat (first | (with_reducible first | exact HB.out | apply below_alloc | apply pw_below_drewN | apply below_drew1) | exact HB.out)⟩⟩
        case round =>
          clear H'
          try clear c1
          try clear c2
          try clear p2
          try clear c4
          try clear p6
          try clear c8
          try clear c8b0
          try clear c8b1
          try clear c9
          try clear p2
          try clear p6
          obtain ⟨x11_2, rfl, HA, HK2, HB⟩ := hrel
          cases gk with
          | zero => exact absurd HA.out (by simp [gangsawref25_Proves.l0])
          | succ k2 =>
            have H := HA.out
            clear HA
            simp only [gangsawref25_Proves.l0] at H
            by_cases c10 : x11_2 ≤ a0
            · rw [if_pos c10] at H
              have c10b0 : decide (x11_2 ≤ a0) = true := decide_eq_true c10
              clear c10
              by_cases c11 : 0 ≤ x11_2
              · rw [if_pos c11] at H
                have c11b0 : decide (0 ≤ x11_2) = true := decide_eq_true c11
                clear c11
                by_cases c12 : x11_2 < (l4.length : Int)
                · rw [if_pos c12] at H
                  have c12b0 : decide (x11_2 < (l4.length : Int)) = true := decide_eq_true c12
                  clear c12
                  by_cases c13 : ((rd_L5 l4 x11_2).length : Int) = (wrap64 (a1 + 1))
                  · rw [if_pos c13] at H
                    have c13b0 : (((rd_L5 l4 x11_2).length : Int) == (wrap64 (a1 + 1))) = true := beq_iff_eq.mpr c13
                    have c13b1 : (((rd_L5 l4 x11_2).length : Int) != (wrap64 (a1 + 1))) = false := bne_eq_false_iff_eq.mpr c13
                    clear c13
                    have H' := Aside0.mk H
                    clear H
                    have p342 : 0 ≤ (x11_2 : Int) := of_decide_eq_true (by first | (with_reducible assumption) | assumption)
                    have q342 : x11_2 < (l4.length : Int) := of_decide_eq_true (by first | (with_reducible assumption) | assumption)
                    obtain ⟨ad342, A342_0, c342_0, e342, hx342_0, hl342_0, hi342_0⟩ := at_L5 HR4.out x11_2 p342 q342
                    cases e342
                    replace hx342_0 := (HB.out.cell (World.block_lt_of_cell? w _ hx342_0)).trans hx342_0
                    have HR342_0 := Aside0.mk hi342_0
                    have HC342_0 := Aside0.mk hl342_0
                    clear hi342_0 hl342_0
                    replace p342 := eq_true p342
                    replace q342 := eq_true q342
                    go_wp2
                    go_loopg [12] k2 (fun kq v12 w' => ∃ (x12_3 : Int), v12 = .int .i64 x12_3 ∧ Aside0 (gangsawref25_Proves.l1 kq a0 a1 l2 a3 l4 x11_2 x12_3 = some r) ∧ Aside0 (kq ≤ k2) ∧ Aside0 (Below w.heap.size w w'))
                    case atStart => exact ⟨(0), (by first | rfl | (simp; done) | (simp [*]; done)), H', ⟨Nat.le_refl _⟩, ⟨by repeat (first | (with_reducible first | exact HB.out | apply below_alloc | apply pw_below_drewN | apply below_drew1) | exact HB.out)⟩⟩
                    case round =>
                      clear H'
                      try clear c1
                      try clear c2
                      try clear p2
                      try clear c3
                      try clear p3
                      try clear q3
                      try clear hx3
                      try clear c4
                      try clear p6
                      try clear c8
                      try clear c8b0
                      try clear c8b1
                      try clear c9
                      try clear c10
                      try clear c10b0
                      try clear c11
                      try clear c11b0
                      try clear c12
                      try clear c12b0
                      try clear c13
                      try clear c13b0
                      try clear c13b1
                      try clear hx342_0
                      try clear p2
                      try clear p342
                      try clear p6
                      try clear q342
                      obtain ⟨x12_3, rfl, HA, HK3, HB⟩ := hrel
                      cases gk with
                      | zero => exact absurd HA.out (by simp [gangsawref25_Proves.l1])
                      | succ k3 =>
                        have H := HA.out
                        clear HA
                        simp only [gangsawref25_Proves.l1] at H
                        by_cases c14 : x12_3 ≤ a1
                        · rw [if_pos c14] at H
                          have c14b0 : decide (x12_3 ≤ a1) = true := decide_eq_true c14
                          clear c14
                          by_cases c15 : 0 ≤ x11_2
                          · rw [if_pos c15] at H
                            have c15b0 : decide (0 ≤ x11_2) = true := decide_eq_true c15
                            clear c15
                            by_cases c16 : x11_2 < (l4.length : Int)
                            · rw [if_pos c16] at H
                              have c16b0 : decide (x11_2 < (l4.length : Int)) = true := decide_eq_true c16
                              clear c16
                              by_cases c17 : 0 ≤ x12_3
                              · rw [if_pos c17] at H
                                have c17b0 : decide (0 ≤ x12_3) = true := decide_eq_true c17
                                clear c17
                                by_cases c18 : x12_3 < ((rd_L5 l4 x11_2).length : Int)
                                · rw [if_pos c18] at H
                                  have c18b0 : decide (x12_3 < ((rd_L5 l4 x11_2).length : Int)) = true := decide_eq_true c18
                                  clear c18
                                  by_cases c19 : (rd (rd_L5 l4 x11_2) x12_3) < 0
                                  · rw [if_pos c19] at H
                                    have c19b0 : decide ((rd (rd_L5 l4 x11_2) x12_3) < 0) = true := decide_eq_true c19
                                    clear c19
                                    obtain rfl := Option.some.inj H
                                    have p343 : 0 ≤ (x11_2 : Int) := of_decide_eq_true (by first | (with_reducible assumption) | assumption)
                                    have q343 : x11_2 < (l4.length : Int) := of_decide_eq_true (by first | (with_reducible assumption) | assumption)
                                    obtain ⟨ad343, A343_0, c343_0, e343, hx343_0, hl343_0, hi343_0⟩ := at_L5 HR4.out x11_2 p343 q343
                                    obtain rfl : ad342 = ad343 := (by injection e343)
                                    replace hx343_0 := (HB.out.cell (World.block_lt_of_cell? w _ hx343_0)).trans hx343_0
                                    have HR343_0 := Aside0.mk hi343_0
                                    have HC343_0 := Aside0.mk hl343_0
                                    clear hi343_0 hl343_0
                                    replace p343 := eq_true p343
                                    replace q343 := eq_true q343
                                    have p344 : 0 ≤ (x12_3 : Int) := of_decide_eq_true (by first | (with_reducible assumption) | assumption)
                                    have q344 : x12_3 < ((rd_L5 l4 x11_2).length : Int) := of_decide_eq_true (by first | (with_reducible assumption) | assumption)
                                    obtain ⟨ad344, e344, hx344_0⟩ := Kd.at_int HR343_0.out x12_3 p344 q344
                                    cases e344
                                    replace hx344_0 := (HB.out.cell (World.block_lt_of_cell? w _ hx344_0)).trans hx344_0
                                    replace p344 := eq_true p344
                                    replace q344 := eq_true q344
                                    go_wp2
                                    go_ret
                                    exact ⟨by first | rfl | (simp [errW_none, errW_some] <;> rfl) | (simp [*, errW_none, errW_some] <;> rfl), by repeat (first | (with_reducible first | exact HB.out | apply below_alloc | apply pw_below_drewN | apply below_drew1) | exact HB.out)⟩
                                  · rw [if_neg c19] at H
                                    have c19b0 : decide ((rd (rd_L5 l4 x11_2) x12_3) < 0) = false := decide_eq_false c19
                                    clear c19
                                    by_cases c20 : (rd (rd_L5 l4 x11_2) x12_3) > 1000000000000000
                                    · rw [if_pos c20] at H
                                      have c20b0 : decide (1000000000000000 < (rd (rd_L5 l4 x11_2) x12_3)) = true := decide_eq_true c20
                                      clear c20
                                      obtain rfl := Option.some.inj H
                                      have p343 : 0 ≤ (x11_2 : Int) := of_decide_eq_true (by first | (with_reducible assumption) | assumption)
                                      have q343 : x11_2 < (l4.length : Int) := of_decide_eq_true (by first | (with_reducible assumption) | assumption)
                                      obtain ⟨ad343, A343_0, c343_0, e343, hx343_0, hl343_0, hi343_0⟩ := at_L5 HR4.out x11_2 p343 q343
                                      obtain rfl : ad342 = ad343 := (by injection e343)
                                      replace hx343_0 := (HB.out.cell (World.block_lt_of_cell? w _ hx343_0)).trans hx343_0
                                      have HR343_0 := Aside0.mk hi343_0
                                      have HC343_0 := Aside0.mk hl343_0
                                      clear hi343_0 hl343_0
                                      replace p343 := eq_true p343
                                      replace q343 := eq_true q343
                                      have p344 : 0 ≤ (x12_3 : Int) := of_decide_eq_true (by first | (with_reducible assumption) | assumption)
                                      have q344 : x12_3 < ((rd_L5 l4 x11_2).length : Int) := of_decide_eq_true (by first | (with_reducible assumption) | assumption)
                                      obtain ⟨ad344, e344, hx344_0⟩ := Kd.at_int HR343_0.out x12_3 p344 q344
                                      cases e344
                                      replace hx344_0 := (HB.out.cell (World.block_lt_of_cell? w _ hx344_0)).trans hx344_0
                                      replace p344 := eq_true p344
                                      replace q344 := eq_true q344
                                      have p345 : 0 ≤ (x11_2 : Int) := of_decide_eq_true (by first | (with_reducible assumption) | assumption)
                                      have q345 : x11_2 < (l4.length : Int) := of_decide_eq_true (by first | (with_reducible assumption) | assumption)
                                      obtain ⟨ad345, A345_0, c345_0, e345, hx345_0, hl345_0, hi345_0⟩ := at_L5 HR4.out x11_2 p345 q345
                                      obtain rfl : ad342 = ad345 := (by injection e345)
                                      replace hx345_0 := (HB.out.cell (World.block_lt_of_cell? w _ hx345_0)).trans hx345_0
                                      have HR345_0 := Aside0.mk hi345_0
                                      have HC345_0 := Aside0.mk hl345_0
                                      clear hi345_0 hl345_0
                                      replace p345 := eq_true p345
                                      replace q345 := eq_true q345
                                      have ea_ := Option.some.inj (hx343_0.symm.trans hx345_0)
                                      injection ea_ with ea_ en_ ec_
                                      subst ea_
                                      subst ec_
                                      clear en_
                                      have p346 : 0 ≤ (x12_3 : Int) := of_decide_eq_true (by first | (with_reducible assumption) | assumption)
                                      have q346 : x12_3 < ((rd_L5 l4 x11_2).length : Int) := of_decide_eq_true (by first | (with_reducible assumption) | assumption)
                                      obtain ⟨ad346, e346, hx346_0⟩ := Kd.at_int HR345_0.out x12_3 p346 q346
                                      cases e346
                                      replace hx346_0 := (HB.out.cell (World.block_lt_of_cell? w _ hx346_0)).trans hx346_0
                                      replace p346 := eq_true p346
                                      replace q346 := eq_true q346
                                      go_wp2
                                      go_ret
                                      exact ⟨by first | rfl | (simp [errW_none, errW_some] <;> rfl) | (simp [*, errW_none, errW_some] <;> rfl), by repeat (first | (with_reducible first | exact HB.out | apply below_alloc | apply pw_below_drewN | apply below_drew1) | exact HB.out)⟩
                                    · rw [if_neg c20] at H
                                      have c20b0 : decide (1000000000000000 < (rd (rd_L5 l4 x11_2) x12_3)) = false := decide_eq_false c20
                                      clear c20
                                      have H' := Aside0.mk H
                                      clear H
                                      have p343 : 0 ≤ (x11_2 : Int) := of_decide_eq_true (by first | (with_reducible assumption) | assumption)
                                      have q343 : x11_2 < (l4.length : Int) := of_decide_eq_true (by first | (with_reducible assumption) | assumption)
                                      obtain ⟨ad343, A343_0, c343_0, e343, hx343_0, hl343_0, hi343_0⟩ := at_L5 HR4.out x11_2 p343 q343
                                      obtain rfl : ad342 = ad343 := (by injection e343)
                                      replace hx343_0 := (HB.out.cell (World.block_lt_of_cell? w _ hx343_0)).trans hx343_0
                                      have HR343_0 := Aside0.mk hi343_0
                                      have HC343_0 := Aside0.mk hl343_0
                                      clear hi343_0 hl343_0
                                      replace p343 := eq_true p343
                                      replace q343 := eq_true q343
                                      have p344 : 0 ≤ (x12_3 : Int) := of_decide_eq_true (by first | (with_reducible assumption) | assumption)
                                      have q344 : x12_3 < ((rd_L5 l4 x11_2).length : Int) := of_decide_eq_true (by first | (with_reducible assumption) | assumption)
                                      obtain ⟨ad344, e344, hx344_0⟩ := Kd.at_int HR343_0.out x12_3 p344 q344
                                      cases e344
                                      replace hx344_0 := (HB.out.cell (World.block_lt_of_cell? w _ hx344_0)).trans hx344_0
                                      replace p344 := eq_true p344
                                      replace q344 := eq_true q344
                                      have p345 : 0 ≤ (x11_2 : Int) := of_decide_eq_true (by first | (with_reducible assumption) | assumption)
                                      have q345 : x11_2 < (l4.length : Int) := of_decide_eq_true (by first | (with_reducible assumption) | assumption)
                                      obtain ⟨ad345, A345_0, c345_0, e345, hx345_0, hl345_0, hi345_0⟩ := at_L5 HR4.out x11_2 p345 q345
                                      obtain rfl : ad342 = ad345 := (by injection e345)
                                      replace hx345_0 := (HB.out.cell (World.block_lt_of_cell? w _ hx345_0)).trans hx345_0
                                      have HR345_0 := Aside0.mk hi345_0
                                      have HC345_0 := Aside0.mk hl345_0
                                      clear hi345_0 hl345_0
                                      replace p345 := eq_true p345
                                      replace q345 := eq_true q345
                                      have ea_ := Option.some.inj (hx343_0.symm.trans hx345_0)
                                      injection ea_ with ea_ en_ ec_
                                      subst ea_
                                      subst ec_
                                      clear en_
                                      have p346 : 0 ≤ (x12_3 : Int) := of_decide_eq_true (by first | (with_reducible assumption) | assumption)
                                      have q346 : x12_3 < ((rd_L5 l4 x11_2).length : Int) := of_decide_eq_true (by first | (with_reducible assumption) | assumption)
                                      obtain ⟨ad346, e346, hx346_0⟩ := Kd.at_int HR345_0.out x12_3 p346 q346
                                      cases e346
                                      replace hx346_0 := (HB.out.cell (World.block_lt_of_cell? w _ hx346_0)).trans hx346_0
                                      replace p346 := eq_true p346
                                      replace q346 := eq_true q346
                                      go_wp2
                                      go_roundg k3
                                      case measure => have := HJ5.out; have := HK2.out; have := HK3.out; omega
                                      case rel => exact ⟨(wrap64 (x12_3 + 1)), (by first | rfl | (simp; done) | (simp [*]; done)), H', ⟨by have := HJ5.out; have := HK2.out; have := HK3.out; omega⟩, ⟨by repeat (first | (with_reducible first | exact HB.out | apply below_alloc | apply pw_below_drewN | apply below_drew1) | exact HB.out)⟩⟩
                                · rw [if_neg c18] at H
                                  exact absurd H (by simp)
                              · rw [if_neg c17] at H
                                exact absurd H (by simp)
                            · rw [if_neg c16] at H
                              exact absurd H (by simp)
                          · rw [if_neg c15] at H
                            exact absurd H (by simp)
                        · rw [if_neg c14] at H
                          have c14b0 : decide (x12_3 ≤ a1) = false := decide_eq_false c14
                          clear c14
                          have H' := Aside0.mk H
                          clear H
                          go_wp2
                          go_roundg k3
                          case measure => have := HJ5.out; have := HK2.out; have := HK3.out; omega
                          case rel => exact ⟨(wrap64 (x11_2 + 1)), (by first | rfl | (simp; done) | (simp [*]; done)), H', ⟨by have := HJ5.out; have := HK2.out; have := HK3.out; omega⟩, ⟨by repeat (first | (with_reducible first | exact HB.out | apply below_alloc | apply pw_below_drewN | apply below_drew1) | exact HB.out)⟩⟩
                  · rw [if_neg c13] at H
                    have c13b0 : (((rd_L5 l4 x11_2).length : Int) == (wrap64 (a1 + 1))) = false := beq_eq_false_iff_ne.mpr c13
                    have c13b1 : (((rd_L5 l4 x11_2).length : Int) != (wrap64 (a1 + 1))) = true := bne_iff_ne.mpr c13
                    obtain rfl := Option.some.inj H
                    have p342 : 0 ≤ (x11_2 : Int) := of_decide_eq_true (by first | (with_reducible assumption) | assumption)
                    have q342 : x11_2 < (l4.length : Int) := of_decide_eq_true (by first | (with_reducible assumption) | assumption)
                    obtain ⟨ad342, A342_0, c342_0, e342, hx342_0, hl342_0, hi342_0⟩ := at_L5 HR4.out x11_2 p342 q342
                    cases e342
                    replace hx342_0 := (HB.out.cell (World.block_lt_of_cell? w _ hx342_0)).trans hx342_0
                    have HR342_0 := Aside0.mk hi342_0
                    have HC342_0 := Aside0.mk hl342_0
                    clear hi342_0 hl342_0
                    replace p342 := eq_true p342
                    replace q342 := eq_true q342
                    go_wp2
                    go_ret
                    exact ⟨by first | rfl | (simp [errW_none, errW_some] <;> rfl) | (simp [*, errW_none, errW_some] <;> rfl), by repeat (first | (with_reducible first | exact HB.out | apply below_alloc | apply pw_below_drewN | apply below_drew1) | exact HB.out)⟩
                · rw [if_neg c12] at H
                  exact absurd H (by simp)
              · rw [if_neg c11] at H
                exact absurd H (by simp)
            · rw [if_neg c10] at H
              have c10b0 : decide (x11_2 ≤ a0) = false := decide_eq_false c10
              clear c10
              have H' := Aside0.mk H
              clear H
              go_wp2
              go_loopg [13] k2 (fun kq v13 w' => ∃ (x13_3 : Int), v13 = .int .i64 x13_3 ∧ Aside0 (gangsawref25_Proves.l2 kq a0 a1 l2 a3 l4 x13_3 = some r) ∧ Aside0 (kq ≤ k2) ∧ Aside0 (Below w.heap.size w w'))
              case atStart => exact ⟨(1), (by first | rfl | (simp; done) | (simp [*]; done)), H', ⟨Nat.le_refl _⟩, ⟨by repeat (first | (with_reducible first | exact HB.out | apply below_alloc | apply pw_below_drewN | apply below_drew1) | exact HB.out)⟩⟩
              case round =>
                clear H'
                try clear c1
                try clear c2
                try clear p2
                try clear c3
                try clear p3
                try clear q3
                try clear hx3
                try clear c4
                try clear p6
                try clear c8
                try clear c8b0
                try clear c8b1
                try clear c9
                try clear c10
                try clear c10b0
                try clear c11
                try clear c11b0
                try clear c12
                try clear c12b0
                try clear c13
                try clear c13b0
                try clear c13b1
                try clear c14
                try clear c14b0
                try clear c15
                try clear c15b0
                try clear c16
                try clear c16b0
                try clear c17
                try clear c17b0
                try clear c18
                try clear c18b0
                try clear c19
                try clear c19b0
                try clear c20
                try clear c20b0
                try clear hx342_0
                try clear hx343_0
                try clear hx344_0
                try clear hx345_0
                try clear hx346_0
                try clear p2
                try clear p3
                try clear p342
                try clear p343
                try clear p344
                try clear p345
                try clear p346
                try clear p6
                try clear q3
                try clear q342
                try clear q343
                try clear q344
                try clear q345
                try clear q346
                obtain ⟨x13_3, rfl, HA, HK3, HB⟩ := hrel
                cases gk with
                | zero => exact absurd HA.out (by simp [gangsawref25_Proves.l2])
                | succ k3 =>
                  have H := HA.out
                  clear HA
                  simp only [gangsawref25_Proves.l2] at H
                  by_cases c21 : x13_3 ≤ a0
                  · rw [if_pos c21] at H
                    have c21b0 : decide (x13_3 ≤ a0) = true := decide_eq_true c21
                    clear c21
                    have H' := Aside0.mk H
                    clear H
                    go_wp2
                    go_loopg [14] k3 (fun kq v14 w' => ∃ (x14_4 : Int), v14 = .int .i64 x14_4 ∧ Aside0 (gangsawref25_Proves.l3 kq a0 a1 l2 a3 l4 x13_3 x14_4 = some r) ∧ Aside0 (kq ≤ k3) ∧ Aside0 (Below w.heap.size w w'))
                    case atStart => exact ⟨(1), (by first | rfl | (simp; done) | (simp [*]; done)), H', ⟨Nat.le_refl _⟩, ⟨by repeat (first | (with_reducible first | exact HB.out | apply below_alloc | apply pw_below_drewN | apply below_drew1) | exact HB.out)⟩⟩
                    case round =>
                      clear H'
                      try clear c1
                      try clear c2
                      try clear p2
                      try clear c3
                      try clear p3
                      try clear q3
                      try clear hx3
                      try clear c4
                      try clear p6
                      try clear c8
                      try clear c8b0
                      try clear c8b1
                      try clear c9
                      try clear c10
                      try clear c10b0
                      try clear c11
                      try clear c11b0
                      try clear c12
                      try clear c12b0
                      try clear c13
                      try clear c13b0
                      try clear c13b1
                      try clear c14
                      try clear c14b0
                      try clear c15
                      try clear c15b0
                      try clear c16
                      try clear c16b0
                      try clear c17
                      try clear c17b0
                      try clear c18
                      try clear c18b0
                      try clear c19
                      try clear c19b0
                      try clear c20
                      try clear c20b0
                      try clear c21
                      try clear c21b0
                      try clear hx342_0
                      try clear hx343_0
                      try clear hx344_0
                      try clear hx345_0
                      try clear hx346_0
                      try clear p2
                      try clear p3
                      try clear p342
                      try clear p343
                      try clear p344
                      try clear p345
                      try clear p346
                      try clear p6
                      try clear q3
                      try clear q342
                      try clear q343
                      try clear q344
                      try clear q345
                      try clear q346
                      obtain ⟨x14_4, rfl, HA, HK4, HB⟩ := hrel
                      cases gk with
                      | zero => exact absurd HA.out (by simp [gangsawref25_Proves.l3])
                      | succ k4 =>
                        have H := HA.out
                        clear HA
                        simp only [gangsawref25_Proves.l3] at H
                        by_cases c22 : x14_4 ≤ a1
                        · rw [if_pos c22] at H
                          have c22b0 : decide (x14_4 ≤ a1) = true := decide_eq_true c22
                          clear c22
                          by_cases c23 : 0 ≤ x13_3
                          · rw [if_pos c23] at H
                            have c23b0 : decide (0 ≤ x13_3) = true := decide_eq_true c23
                            clear c23
                            by_cases c24 : x13_3 < (l4.length : Int)
                            · rw [if_pos c24] at H
                              have c24b0 : decide (x13_3 < (l4.length : Int)) = true := decide_eq_true c24
                              clear c24
                              by_cases c25 : 0 ≤ x14_4
                              · rw [if_pos c25] at H
                                have c25b0 : decide (0 ≤ x14_4) = true := decide_eq_true c25
                                clear c25
                                by_cases c26 : x14_4 < ((rd_L5 l4 x13_3).length : Int)
                                · rw [if_pos c26] at H
                                  have c26b0 : decide (x14_4 < ((rd_L5 l4 x13_3).length : Int)) = true := decide_eq_true c26
                                  clear c26
                                  replace H := Option.bind_eq_some_iff.mp H
                                  obtain ⟨t349, A270, H⟩ := H
                                  replace H : (if (rd (rd_L5 l4 x13_3) x14_4) < t349 then (some false) else (gangsawref25_Proves.l4 k4 a0 a1 l2 a3 l4 x13_3 x14_4 1)) = some r := H
                                  have A27 := Aside0.mk A270
                                  clear A270
                                  by_cases c28 : (rd (rd_L5 l4 x13_3) x14_4) < t349
                                  · rw [if_pos c28] at H
                                    have c28b0 : decide ((rd (rd_L5 l4 x13_3) x14_4) < t349) = true := decide_eq_true c28
                                    clear c28
                                    obtain rfl := Option.some.inj H
                                    try go_wp2
                                    have n0_ := Aside0.mk (below_drew1 HB.out)
                                    clear HB
                                    have HB := n0_
                                    clear n0_
                                    have p347 : 0 ≤ (x13_3 : Int) := of_decide_eq_true (by first | (with_reducible assumption) | assumption)
                                    have q347 : x13_3 < (l4.length : Int) := of_decide_eq_true (by first | (with_reducible assumption) | assumption)
                                    obtain ⟨ad347, A347_0, c347_0, e347, hx347_0, hl347_0, hi347_0⟩ := at_L5 HR4.out x13_3 p347 q347
                                    have hw347_0 := hx347_0
                                    cases e347
                                    replace hx347_0 := (HB.out.cell (World.block_lt_of_cell? w _ hx347_0)).trans hx347_0
                                    have HR347_0 := Aside0.mk hi347_0
                                    have HC347_0 := Aside0.mk hl347_0
                                    clear hi347_0 hl347_0
                                    replace p347 := eq_true p347
                                    replace q347 := eq_true q347
                                    have p348 : 0 ≤ (x14_4 : Int) := of_decide_eq_true (by first | (with_reducible assumption) | assumption)
                                    have q348 : x14_4 < ((rd_L5 l4 x13_3).length : Int) := of_decide_eq_true (by first | (with_reducible assumption) | assumption)
                                    obtain ⟨ad348, e348, hx348_0⟩ := Kd.at_int HR347_0.out x14_4 p348 q348
                                    have hw348_0 := hx348_0
                                    cases e348
                                    replace hx348_0 := (HB.out.cell (World.block_lt_of_cell? w _ hx348_0)).trans hx348_0
                                    replace p348 := eq_true p348
                                    replace q348 := eq_true q348
                                    refine start_ (n := 12) (S := fun w' => w'.cell? (ad347.add (x13_3).toNat) = some (.slice (some ad348) (rd_L5 l4 x13_3).length c347_0) ∧ w'.cell? (ad348.add (x14_4).toNat) = some (.int .i64 (rd (rd_L5 l4 x13_3) x14_4))) (ds := []) #[false, false, false, false, false, false, false, false, false, false, false, false] (by kernel_rfl) rfl rfl ⟨((HB.out.cell (World.block_lt_of_cell? w _ hw347_0)).trans hw347_0), ((HB.out.cell (World.block_lt_of_cell? w _ hw348_0)).trans hw348_0)⟩ (fun hHeld => ?_); refine with_tabW gangsawref25_Proves.tab19 gangsawref25_Proves.bits19 (fun HT_ HW_ => ?_)
                                    generalize wr.drew = w29 at HB HR347_0 hx347_0 hx348_0 hHeld ⊢
                                    refine pure_ (i := 0) (N := some 76) (v := ?_) (a' := ?_) #[true, false, false, false, false, false, false, false, false, false, false, false] rfl rfl (any_of HT_.out (by kernel_rfl)) (fun _ _ _ h => h) (Or.inl ⟨by rfl, ?_⟩) ?_ ?_
                                    rotate_left
                                    · intro w'
                                      go_simp
                                      with_reducible rfl
                                    rotate_left
                                    · simp only [Act.put, List.setIfInBounds_toArray, List.set_cons_zero, List.set_cons_succ, i64_w, i32_w]
                                      rfl
                                    refine pure_ (i := 1) (N := some 77) (v := ?_) (a' := ?_) #[true, true, false, false, false, false, false, false, false, false, false, false] rfl rfl (any_of HT_.out (by kernel_rfl)) (fun _ _ _ h => h) (Or.inl ⟨by rfl, ?_⟩) ?_ ?_
                                    rotate_left
                                    · intro w'
                                      go_simp
                                      with_reducible rfl
                                    rotate_left
                                    · simp only [Act.put, List.setIfInBounds_toArray, List.set_cons_zero, List.set_cons_succ, i64_w, i32_w]
                                      rfl
                                    refine pure_ (i := 2) (N := some 78) (v := ?_) (a' := ?_) #[true, true, true, false, false, false, false, false, false, false, false, false] rfl rfl (any_of HT_.out (by kernel_rfl)) (fun _ _ _ h => h) (Or.inl ⟨by rfl, ?_⟩) ?_ ?_
                                    rotate_left
                                    · intro w'
                                      go_simp
                                      with_reducible rfl
                                    rotate_left
                                    · simp only [Act.put, List.setIfInBounds_toArray, List.set_cons_zero, List.set_cons_succ, i64_w, i32_w]
                                      rfl
                                    refine pure_ (i := 4) (N := some 80) (v := ?_) (a' := ?_) #[true, true, true, false, true, false, false, false, false, false, false, false] rfl rfl (any_of HT_.out (by kernel_rfl)) (fun _ _ _ h => h) (Or.inl ⟨by rfl, ?_⟩) ?_ ?_
                                    rotate_left
                                    · intro w'
                                      go_simp
                                      with_reducible rfl
                                    rotate_left
                                    · simp only [Act.put, List.setIfInBounds_toArray, List.set_cons_zero, List.set_cons_succ, i64_w, i32_w]
                                      rfl
                                    refine pure_ (i := 7) (N := some 83) (v := ?_) (a' := ?_) #[true, true, true, false, true, false, false, true, false, false, false, false] rfl rfl (any_of HT_.out (by kernel_rfl)) (fun _ _ _ h => h) (Or.inl ⟨by rfl, ?_⟩) ?_ ?_
                                    rotate_left
                                    · intro w'
                                      go_simp
                                      with_reducible rfl
                                    rotate_left
                                    · simp only [Act.put, List.setIfInBounds_toArray, List.set_cons_zero, List.set_cons_succ, i64_w, i32_w]
                                      rfl
                                    refine pure_ (i := 8) (N := some 84) (v := ?_) (a' := ?_) #[true, true, true, false, true, false, false, true, true, false, false, false] rfl rfl (any_of HT_.out (by kernel_rfl)) (fun _ _ _ h => h) (Or.inl ⟨by rfl, ?_⟩) ?_ ?_
                                    rotate_left
                                    · intro w'
                                      go_simp
                                      with_reducible rfl
                                    rotate_left
                                    · simp only [Act.put, List.setIfInBounds_toArray, List.set_cons_zero, List.set_cons_succ, i64_w, i32_w]
                                      rfl
                                    refine pure_ (i := 9) (N := some 85) (v := ?_) (a' := ?_) #[true, true, true, false, true, false, false, true, true, true, false, false] rfl rfl (any_of HT_.out (by kernel_rfl)) (fun _ _ _ h => h) (Or.inl ⟨by rfl, ?_⟩) ?_ ?_
                                    rotate_left
                                    · intro w'
                                      go_simp
                                      with_reducible rfl
                                    rotate_left
                                    · simp only [Act.put, List.setIfInBounds_toArray, List.set_cons_zero, List.set_cons_succ, i64_w, i32_w]
                                      rfl
                                    refine take_ (i := 3) (N := some 79) (v := ?_) (a' := ?_) #[true, true, true, true, true, false, false, true, true, true, false, false] rfl rfl (take_ofW HT_.out HW_.out (by kernel_rfl)) (fun _ _ _ h => h) (Or.inl ⟨by rfl, ?_⟩) hHeld ?_ ?_
                                    rotate_left
                                    · rintro w' ⟨s0, s1⟩
                                      go_simp
                                      with_reducible rfl
                                    rotate_left
                                    · simp only [Act.put, List.setIfInBounds_toArray, List.set_cons_zero, List.set_cons_succ, i64_w, i32_w]
                                      rfl
                                    refine pure_ (i := 5) (N := some 81) (v := ?_) (a' := ?_) #[true, true, true, true, true, true, false, true, true, true, false, false] rfl rfl (any_of HT_.out (by kernel_rfl)) (fun _ _ _ h => h) (Or.inl ⟨by rfl, ?_⟩) ?_ ?_
                                    rotate_left
                                    · intro w'
                                      go_simp
                                      with_reducible rfl
                                    rotate_left
                                    · simp only [Act.put, List.setIfInBounds_toArray, List.set_cons_zero, List.set_cons_succ, i64_w, i32_w]
                                      rfl
                                    refine take_ (i := 6) (N := some 82) (v := ?_) (a' := ?_) #[true, true, true, true, true, true, true, true, true, true, false, false] rfl rfl (take_ofW HT_.out HW_.out (by kernel_rfl)) (fun _ _ _ h => h) (Or.inl ⟨by rfl, ?_⟩) hHeld ?_ ?_
                                    rotate_left
                                    · rintro w' ⟨s0, s1⟩
                                      go_simp
                                      with_reducible rfl
                                    rotate_left
                                    · simp only [Act.put, List.setIfInBounds_toArray, List.set_cons_zero, List.set_cons_succ, i64_w, i32_w]
                                      rfl
                                    refine one_ (i := 10) (N := some 86) #[true, true, true, true, true, true, true, true, true, true, true, false] rfl rfl (one_of HT_.out (by kernel_rfl)) (by decide) (fun K hK => ?_)
                                    refine goes_ Try.func37 (by kernel_rfl) rfl #[.slice A2 l2.length c2, .int .i64 x13_3, .int .i64 x14_4] (by rfl) rfl rfl (by (try simp only [List.map_toArray, List.map_cons, List.map_nil]); first | done | rfl | (simp only [List.length_drop, List.length_take]; rfl)) ?_
                                    with_reducible refine (gangsawref25_item.calls k4 _ _ l2 x13_3 x14_4 t349 _ ?side1 ?side2 A27.out).mono ?_
                                    (case side1 => repeat (first | exact (Kd.C_below HR2.out HB.out) | (with_reducible refine Kd.C_alloc ?_ _) | (with_reducible refine Kd.C_drewN ?_ _) | (with_reducible refine Kd.C_drew ?_)))
                                    (case side2 => exact HC2.out)
                                    rintro e w30 ⟨rfl, hb⟩
                                    refine ⟨_, rfl, ?_⟩
                                    have n0_ := Aside0.mk (below_step (by repeat (first | (with_reducible first | exact HB.out | apply below_alloc | apply pw_below_drewN | apply below_drew1) | exact HB.out)) hb)
                                    clear HB
                                    have HB := n0_
                                    clear n0_
                                    (try clear hb)
                                    (try clear hb2)
                                    (try clear hk)
                                    (try clear hi)
                                    refine hK.out _ _ ⟨((HB.out.cell (World.block_lt_of_cell? w _ hw347_0)).trans hw347_0), ((HB.out.cell (World.block_lt_of_cell? w _ hw348_0)).trans hw348_0)⟩ (fun hHeld => ?_)
                                    clear hK K
                                    refine norm_ (a' := ?_) ?_ ?_
                                    rotate_left
                                    · show Act.put _ (some 86) _ = _
                                      simp only [Act.put, List.setIfInBounds_toArray, List.set_cons_zero, List.set_cons_succ, i64_w, i32_w]
                                      rfl
                                    refine pure_ (i := 11) (N := some 87) (v := ?_) (a' := ?_) #[true, true, true, true, true, true, true, true, true, true, true, true] rfl rfl (any_of HT_.out (by kernel_rfl)) (fun _ _ _ h => h) (Or.inl ⟨by rfl, ?_⟩) ?_ ?_
                                    rotate_left
                                    · intro w'
                                      go_simp
                                      with_reducible rfl
                                    rotate_left
                                    · simp only [Act.put, List.setIfInBounds_toArray, List.set_cons_zero, List.set_cons_succ, i64_w, i32_w]
                                      rfl
                                    refine done_ (done_of HT_.out (by kernel_rfl)) ?_
                                    try go_wp2
                                    go_ret
                                    exact ⟨by first | rfl | (simp [errW_none, errW_some] <;> rfl) | (simp [*, errW_none, errW_some] <;> rfl), by repeat (first | (with_reducible first | exact HB.out | apply below_alloc | apply pw_below_drewN | apply below_drew1) | exact HB.out)⟩
                                  · rw [if_neg c28] at H
                                    have c28b0 : decide ((rd (rd_L5 l4 x13_3) x14_4) < t349) = false := decide_eq_false c28
                                    clear c28
                                    have H' := Aside0.mk H
                                    clear H
                                    try go_wp2
                                    have n0_ := Aside0.mk (below_drew1 HB.out)
                                    clear HB
                                    have HB := n0_
                                    clear n0_
                                    have p347 : 0 ≤ (x13_3 : Int) := of_decide_eq_true (by first | (with_reducible assumption) | assumption)
                                    have q347 : x13_3 < (l4.length : Int) := of_decide_eq_true (by first | (with_reducible assumption) | assumption)
                                    obtain ⟨ad347, A347_0, c347_0, e347, hx347_0, hl347_0, hi347_0⟩ := at_L5 HR4.out x13_3 p347 q347
                                    have hw347_0 := hx347_0
                                    cases e347
                                    replace hx347_0 := (HB.out.cell (World.block_lt_of_cell? w _ hx347_0)).trans hx347_0
                                    have HR347_0 := Aside0.mk hi347_0
                                    have HC347_0 := Aside0.mk hl347_0
                                    clear hi347_0 hl347_0
                                    replace p347 := eq_true p347
                                    replace q347 := eq_true q347
                                    have p348 : 0 ≤ (x14_4 : Int) := of_decide_eq_true (by first | (with_reducible assumption) | assumption)
                                    have q348 : x14_4 < ((rd_L5 l4 x13_3).length : Int) := of_decide_eq_true (by first | (with_reducible assumption) | assumption)
                                    obtain ⟨ad348, e348, hx348_0⟩ := Kd.at_int HR347_0.out x14_4 p348 q348
                                    have hw348_0 := hx348_0
                                    cases e348
                                    replace hx348_0 := (HB.out.cell (World.block_lt_of_cell? w _ hx348_0)).trans hx348_0
                                    replace p348 := eq_true p348
                                    replace q348 := eq_true q348
                                    refine start_ (n := 12) (S := fun w' => w'.cell? (ad347.add (x13_3).toNat) = some (.slice (some ad348) (rd_L5 l4 x13_3).length c347_0) ∧ w'.cell? (ad348.add (x14_4).toNat) = some (.int .i64 (rd (rd_L5 l4 x13_3) x14_4))) (ds := []) #[false, false, false, false, false, false, false, false, false, false, false, false] (by kernel_rfl) rfl rfl ⟨((HB.out.cell (World.block_lt_of_cell? w _ hw347_0)).trans hw347_0), ((HB.out.cell (World.block_lt_of_cell? w _ hw348_0)).trans hw348_0)⟩ (fun hHeld => ?_); refine with_tabW gangsawref25_Proves.tab19 gangsawref25_Proves.bits19 (fun HT_ HW_ => ?_)
                                    generalize wr.drew = w31 at HB HR347_0 hx347_0 hx348_0 hHeld ⊢
                                    refine pure_ (i := 0) (N := some 76) (v := ?_) (a' := ?_) #[true, false, false, false, false, false, false, false, false, false, false, false] rfl rfl (any_of HT_.out (by kernel_rfl)) (fun _ _ _ h => h) (Or.inl ⟨by rfl, ?_⟩) ?_ ?_
                                    rotate_left
                                    · intro w'
                                      go_simp
                                      with_reducible rfl
                                    rotate_left
                                    · simp only [Act.put, List.setIfInBounds_toArray, List.set_cons_zero, List.set_cons_succ, i64_w, i32_w]
                                      rfl
                                    refine pure_ (i := 1) (N := some 77) (v := ?_) (a' := ?_) #[true, true, false, false, false, false, false, false, false, false, false, false] rfl rfl (any_of HT_.out (by kernel_rfl)) (fun _ _ _ h => h) (Or.inl ⟨by rfl, ?_⟩) ?_ ?_
                                    rotate_left
                                    · intro w'
                                      go_simp
                                      with_reducible rfl
                                    rotate_left
                                    · simp only [Act.put, List.setIfInBounds_toArray, List.set_cons_zero, List.set_cons_succ, i64_w, i32_w]
                                      rfl
                                    refine pure_ (i := 2) (N := some 78) (v := ?_) (a' := ?_) #[true, true, true, false, false, false, false, false, false, false, false, false] rfl rfl (any_of HT_.out (by kernel_rfl)) (fun _ _ _ h => h) (Or.inl ⟨by rfl, ?_⟩) ?_ ?_
                                    rotate_left
                                    · intro w'
                                      go_simp
                                      with_reducible rfl
                                    rotate_left
                                    · simp only [Act.put, List.setIfInBounds_toArray, List.set_cons_zero, List.set_cons_succ, i64_w, i32_w]
                                      rfl
                                    refine pure_ (i := 4) (N := some 80) (v := ?_) (a' := ?_) #[true, true, true, false, true, false, false, false, false, false, false, false] rfl rfl (any_of HT_.out (by kernel_rfl)) (fun _ _ _ h => h) (Or.inl ⟨by rfl, ?_⟩) ?_ ?_
                                    rotate_left
                                    · intro w'
                                      go_simp
                                      with_reducible rfl
                                    rotate_left
                                    · simp only [Act.put, List.setIfInBounds_toArray, List.set_cons_zero, List.set_cons_succ, i64_w, i32_w]
                                      rfl
                                    refine pure_ (i := 7) (N := some 83) (v := ?_) (a' := ?_) #[true, true, true, false, true, false, false, true, false, false, false, false] rfl rfl (any_of HT_.out (by kernel_rfl)) (fun _ _ _ h => h) (Or.inl ⟨by rfl, ?_⟩) ?_ ?_
                                    rotate_left
                                    · intro w'
                                      go_simp
                                      with_reducible rfl
                                    rotate_left
                                    · simp only [Act.put, List.setIfInBounds_toArray, List.set_cons_zero, List.set_cons_succ, i64_w, i32_w]
                                      rfl
                                    refine pure_ (i := 8) (N := some 84) (v := ?_) (a' := ?_) #[true, true, true, false, true, false, false, true, true, false, false, false] rfl rfl (any_of HT_.out (by kernel_rfl)) (fun _ _ _ h => h) (Or.inl ⟨by rfl, ?_⟩) ?_ ?_
                                    rotate_left
                                    · intro w'
                                      go_simp
                                      with_reducible rfl
                                    rotate_left
                                    · simp only [Act.put, List.setIfInBounds_toArray, List.set_cons_zero, List.set_cons_succ, i64_w, i32_w]
                                      rfl
                                    refine pure_ (i := 9) (N := some 85) (v := ?_) (a' := ?_) #[true, true, true, false, true, false, false, true, true, true, false, false] rfl rfl (any_of HT_.out (by kernel_rfl)) (fun _ _ _ h => h) (Or.inl ⟨by rfl, ?_⟩) ?_ ?_
                                    rotate_left
                                    · intro w'
                                      go_simp
                                      with_reducible rfl
                                    rotate_left
                                    · simp only [Act.put, List.setIfInBounds_toArray, List.set_cons_zero, List.set_cons_succ, i64_w, i32_w]
                                      rfl
                                    refine take_ (i := 3) (N := some 79) (v := ?_) (a' := ?_) #[true, true, true, true, true, false, false, true, true, true, false, false] rfl rfl (take_ofW HT_.out HW_.out (by kernel_rfl)) (fun _ _ _ h => h) (Or.inl ⟨by rfl, ?_⟩) hHeld ?_ ?_
                                    rotate_left
                                    · rintro w' ⟨s0, s1⟩
                                      go_simp
                                      with_reducible rfl
                                    rotate_left
                                    · simp only [Act.put, List.setIfInBounds_toArray, List.set_cons_zero, List.set_cons_succ, i64_w, i32_w]
                                      rfl
                                    refine pure_ (i := 5) (N := some 81) (v := ?_) (a' := ?_) #[true, true, true, true, true, true, false, true, true, true, false, false] rfl rfl (any_of HT_.out (by kernel_rfl)) (fun _ _ _ h => h) (Or.inl ⟨by rfl, ?_⟩) ?_ ?_
                                    rotate_left
                                    · intro w'
                                      go_simp
                                      with_reducible rfl
                                    rotate_left
                                    · simp only [Act.put, List.setIfInBounds_toArray, List.set_cons_zero, List.set_cons_succ, i64_w, i32_w]
                                      rfl
                                    refine take_ (i := 6) (N := some 82) (v := ?_) (a' := ?_) #[true, true, true, true, true, true, true, true, true, true, false, false] rfl rfl (take_ofW HT_.out HW_.out (by kernel_rfl)) (fun _ _ _ h => h) (Or.inl ⟨by rfl, ?_⟩) hHeld ?_ ?_
                                    rotate_left
                                    · rintro w' ⟨s0, s1⟩
                                      go_simp
                                      with_reducible rfl
                                    rotate_left
                                    · simp only [Act.put, List.setIfInBounds_toArray, List.set_cons_zero, List.set_cons_succ, i64_w, i32_w]
                                      rfl
                                    refine one_ (i := 10) (N := some 86) #[true, true, true, true, true, true, true, true, true, true, true, false] rfl rfl (one_of HT_.out (by kernel_rfl)) (by decide) (fun K hK => ?_)
                                    refine goes_ Try.func37 (by kernel_rfl) rfl #[.slice A2 l2.length c2, .int .i64 x13_3, .int .i64 x14_4] (by rfl) rfl rfl (by (try simp only [List.map_toArray, List.map_cons, List.map_nil]); first | done | rfl | (simp only [List.length_drop, List.length_take]; rfl)) ?_
                                    with_reducible refine (gangsawref25_item.calls k4 _ _ l2 x13_3 x14_4 t349 _ ?side1 ?side2 A27.out).mono ?_
                                    (case side1 => repeat (first | exact (Kd.C_below HR2.out HB.out) | (with_reducible refine Kd.C_alloc ?_ _) | (with_reducible refine Kd.C_drewN ?_ _) | (with_reducible refine Kd.C_drew ?_)))
                                    (case side2 => exact HC2.out)
                                    rintro e w32 ⟨rfl, hb⟩
                                    refine ⟨_, rfl, ?_⟩
                                    have n0_ := Aside0.mk (below_step (by repeat (first | (with_reducible first | exact HB.out | apply below_alloc | apply pw_below_drewN | apply below_drew1) | exact HB.out)) hb)
                                    clear HB
                                    have HB := n0_
                                    clear n0_
                                    (try clear hb)
                                    (try clear hb2)
                                    (try clear hk)
                                    (try clear hi)
                                    refine hK.out _ _ ⟨((HB.out.cell (World.block_lt_of_cell? w _ hw347_0)).trans hw347_0), ((HB.out.cell (World.block_lt_of_cell? w _ hw348_0)).trans hw348_0)⟩ (fun hHeld => ?_)
                                    clear hK K
                                    refine norm_ (a' := ?_) ?_ ?_
                                    rotate_left
                                    · show Act.put _ (some 86) _ = _
                                      simp only [Act.put, List.setIfInBounds_toArray, List.set_cons_zero, List.set_cons_succ, i64_w, i32_w]
                                      rfl
                                    refine pure_ (i := 11) (N := some 87) (v := ?_) (a' := ?_) #[true, true, true, true, true, true, true, true, true, true, true, true] rfl rfl (any_of HT_.out (by kernel_rfl)) (fun _ _ _ h => h) (Or.inl ⟨by rfl, ?_⟩) ?_ ?_
                                    rotate_left
                                    · intro w'
                                      go_simp
                                      with_reducible rfl
                                    rotate_left
                                    · simp only [Act.put, List.setIfInBounds_toArray, List.set_cons_zero, List.set_cons_succ, i64_w, i32_w]
                                      rfl
                                    refine done_ (done_of HT_.out (by kernel_rfl)) ?_
                                    try go_wp2
                                    go_loopg [15] k4 (fun kq v15 w' => ∃ (x15_5 : Int), v15 = .int .i64 x15_5 ∧ Aside0 (gangsawref25_Proves.l4 kq a0 a1 l2 a3 l4 x13_3 x14_4 x15_5 = some r) ∧ Aside0 (kq ≤ k4) ∧ Aside0 (Below w.heap.size w w'))
                                    case atStart => exact ⟨(1), (by first | rfl | (simp; done) | (simp [*]; done)), H', ⟨Nat.le_refl _⟩, ⟨by repeat (first | (with_reducible first | exact HB.out | apply below_alloc | apply pw_below_drewN | apply below_drew1) | exact HB.out)⟩⟩
                                    case round =>
                                      clear H'
                                      try clear c1
                                      try clear c2
                                      try clear p2
                                      try clear c3
                                      try clear p3
                                      try clear q3
                                      try clear hx3
                                      try clear c4
                                      try clear p6
                                      try clear c8
                                      try clear c8b0
                                      try clear c8b1
                                      try clear c9
                                      try clear c10
                                      try clear c10b0
                                      try clear c11
                                      try clear c11b0
                                      try clear c12
                                      try clear c12b0
                                      try clear c13
                                      try clear c13b0
                                      try clear c13b1
                                      try clear c14
                                      try clear c14b0
                                      try clear c15
                                      try clear c15b0
                                      try clear c16
                                      try clear c16b0
                                      try clear c17
                                      try clear c17b0
                                      try clear c18
                                      try clear c18b0
                                      try clear c19
                                      try clear c19b0
                                      try clear c20
                                      try clear c20b0
                                      try clear c21
                                      try clear c21b0
                                      try clear c22
                                      try clear c22b0
                                      try clear c23
                                      try clear c23b0
                                      try clear c24
                                      try clear c24b0
                                      try clear c25
                                      try clear c25b0
                                      try clear c26
                                      try clear c26b0
                                      try clear c28
                                      try clear c28b0
                                      try clear hx342_0
                                      try clear hx343_0
                                      try clear hx344_0
                                      try clear hx345_0
                                      try clear hx346_0
                                      try clear hx347_0
                                      try clear hx348_0
                                      try clear p2
                                      try clear p3
                                      try clear p342
                                      try clear p343
                                      try clear p344
                                      try clear p345
                                      try clear p346
                                      try clear p347
                                      try clear p348
                                      try clear p6
                                      try clear q3
                                      try clear q342
                                      try clear q343
                                      try clear q344
                                      try clear q345
                                      try clear q346
                                      try clear q347
                                      try clear q348
                                      obtain ⟨x15_5, rfl, HA, HK5, HB⟩ := hrel
                                      cases gk with
                                      | zero => exact absurd HA.out (by simp [gangsawref25_Proves.l4])
                                      | succ k5 =>
                                        have H := HA.out
                                        clear HA
                                        simp only [gangsawref25_Proves.l4] at H
                                        by_cases c33 : (wrap64 (x15_5 + a3)) < x13_3
                                        · rw [if_pos c33] at H
                                          have c33b0 : decide ((wrap64 (x15_5 + a3)) < x13_3) = true := decide_eq_true c33
                                          clear c33
                                          by_cases c34 : 0 ≤ x13_3
                                          · rw [if_pos c34] at H
                                            have c34b0 : decide (0 ≤ x13_3) = true := decide_eq_true c34
                                            clear c34
                                            by_cases c35 : x13_3 < (l4.length : Int)
                                            · rw [if_pos c35] at H
                                              have c35b0 : decide (x13_3 < (l4.length : Int)) = true := decide_eq_true c35
                                              clear c35
                                              by_cases c36 : 0 ≤ x14_4
                                              · rw [if_pos c36] at H
                                                have c36b0 : decide (0 ≤ x14_4) = true := decide_eq_true c36
                                                clear c36
                                                by_cases c37 : x14_4 < ((rd_L5 l4 x13_3).length : Int)
                                                · rw [if_pos c37] at H
                                                  have c37b0 : decide (x14_4 < ((rd_L5 l4 x13_3).length : Int)) = true := decide_eq_true c37
                                                  clear c37
                                                  by_cases c38 : 0 ≤ x15_5
                                                  · rw [if_pos c38] at H
                                                    have c38b0 : decide (0 ≤ x15_5) = true := decide_eq_true c38
                                                    clear c38
                                                    by_cases c39 : x15_5 < (l4.length : Int)
                                                    · rw [if_pos c39] at H
                                                      have c39b0 : decide (x15_5 < (l4.length : Int)) = true := decide_eq_true c39
                                                      clear c39
                                                      by_cases c40 : x14_4 < ((rd_L5 l4 x15_5).length : Int)
                                                      · rw [if_pos c40] at H
                                                        have c40b0 : decide (x14_4 < ((rd_L5 l4 x15_5).length : Int)) = true := decide_eq_true c40
                                                        clear c40
                                                        obtain ⟨ji41, hji41⟩ : ∃ j_ : Int, (wrap64 ((wrap64 (x13_3 - x15_5)) - a3)) = j_ := ⟨_, rfl⟩
                                                        replace H : (if 0 ≤ (ji41) then (if (ji41) < (l4.length : Int) then (if x14_4 < ((rd_L5 l4 (ji41)).length : Int) then (if (rd (rd_L5 l4 x13_3) x14_4) < (wrap64 ((rd (rd_L5 l4 x15_5) x14_4) + (rd (rd_L5 l4 (ji41)) x14_4))) then (some false) else (gangsawref25_Proves.l4 k5 a0 a1 l2 a3 l4 x13_3 x14_4 (wrap64 (x15_5 + 1)))) else (none)) else (none)) else (none)) = some r := by first | (rw [hji41] at H; exact H) | (simp only [hji41] at H ⊢; exact H)
                                                        have hji41w : (IntKind.i64.wrap ((wrap64 (x13_3 - x15_5)) - a3)) = ji41 := (i64_w _).trans hji41
                                                        by_cases c42 : 0 ≤ (ji41)
                                                        · rw [if_pos c42] at H
                                                          have c42b0 : decide (0 ≤ (ji41)) = true := decide_eq_true c42
                                                          clear c42
                                                          by_cases c43 : (ji41) < (l4.length : Int)
                                                          · rw [if_pos c43] at H
                                                            have c43b0 : decide ((ji41) < (l4.length : Int)) = true := decide_eq_true c43
                                                            clear c43
                                                            by_cases c44 : x14_4 < ((rd_L5 l4 (ji41)).length : Int)
                                                            · rw [if_pos c44] at H
                                                              have c44b0 : decide (x14_4 < ((rd_L5 l4 (ji41)).length : Int)) = true := decide_eq_true c44
                                                              clear c44
                                                              by_cases c45 : (rd (rd_L5 l4 x13_3) x14_4) < (wrap64 ((rd (rd_L5 l4 x15_5) x14_4) + (rd (rd_L5 l4 (ji41)) x14_4)))
                                                              · rw [if_pos c45] at H
                                                                have c45b0 : decide ((rd (rd_L5 l4 x13_3) x14_4) < (wrap64 ((rd (rd_L5 l4 x15_5) x14_4) + (rd (rd_L5 l4 (ji41)) x14_4)))) = true := decide_eq_true c45
                                                                clear c45
                                                                obtain rfl := Option.some.inj H
                                                                try go_wp2
                                                                have n0_ := Aside0.mk (below_drew1 HB.out)
                                                                clear HB
                                                                have HB := n0_
                                                                clear n0_
                                                                have p350 : 0 ≤ (x13_3 : Int) := of_decide_eq_true (by first | (with_reducible assumption) | assumption)
                                                                have q350 : x13_3 < (l4.length : Int) := of_decide_eq_true (by first | (with_reducible assumption) | assumption)
                                                                obtain ⟨ad350, A350_0, c350_0, e350, hx350_0, hl350_0, hi350_0⟩ := at_L5 HR4.out x13_3 p350 q350
                                                                have hw350_0 := hx350_0
                                                                obtain rfl : ad347 = ad350 := (by injection e350)
                                                                replace hx350_0 := (HB.out.cell (World.block_lt_of_cell? w _ hx350_0)).trans hx350_0
                                                                have HR350_0 := Aside0.mk hi350_0
                                                                have HC350_0 := Aside0.mk hl350_0
                                                                clear hi350_0 hl350_0
                                                                replace p350 := eq_true p350
                                                                replace q350 := eq_true q350
                                                                have p351 : 0 ≤ (x14_4 : Int) := of_decide_eq_true (by first | (with_reducible assumption) | assumption)
                                                                have q351 : x14_4 < ((rd_L5 l4 x13_3).length : Int) := of_decide_eq_true (by first | (with_reducible assumption) | assumption)
                                                                obtain ⟨ad351, e351, hx351_0⟩ := Kd.at_int HR350_0.out x14_4 p351 q351
                                                                have hw351_0 := hx351_0
                                                                cases e351
                                                                replace hx351_0 := (HB.out.cell (World.block_lt_of_cell? w _ hx351_0)).trans hx351_0
                                                                replace p351 := eq_true p351
                                                                replace q351 := eq_true q351
                                                                have p352 : 0 ≤ (x15_5 : Int) := of_decide_eq_true (by first | (with_reducible assumption) | assumption)
                                                                have q352 : x15_5 < (l4.length : Int) := of_decide_eq_true (by first | (with_reducible assumption) | assumption)
                                                                obtain ⟨ad352, A352_0, c352_0, e352, hx352_0, hl352_0, hi352_0⟩ := at_L5 HR4.out x15_5 p352 q352
                                                                have hw352_0 := hx352_0
                                                                obtain rfl : ad347 = ad352 := (by injection e352)
                                                                replace hx352_0 := (HB.out.cell (World.block_lt_of_cell? w _ hx352_0)).trans hx352_0
                                                                have HR352_0 := Aside0.mk hi352_0
                                                                have HC352_0 := Aside0.mk hl352_0
                                                                clear hi352_0 hl352_0
                                                                replace p352 := eq_true p352
                                                                replace q352 := eq_true q352
                                                                have p353 : 0 ≤ (x14_4 : Int) := of_decide_eq_true (by first | (with_reducible assumption) | assumption)
                                                                have q353 : x14_4 < ((rd_L5 l4 x15_5).length : Int) := of_decide_eq_true (by first | (with_reducible assumption) | assumption)
                                                                obtain ⟨ad353, e353, hx353_0⟩ := Kd.at_int HR352_0.out x14_4 p353 q353
                                                                have hw353_0 := hx353_0
                                                                cases e353
                                                                replace hx353_0 := (HB.out.cell (World.block_lt_of_cell? w _ hx353_0)).trans hx353_0
                                                                replace p353 := eq_true p353
                                                                replace q353 := eq_true q353
                                                                have p354 : 0 ≤ ((ji41) : Int) := of_decide_eq_true (by first | (with_reducible assumption) | assumption)
                                                                have q354 : (ji41) < (l4.length : Int) := of_decide_eq_true (by first | (with_reducible assumption) | assumption)
                                                                obtain ⟨ad354, A354_0, c354_0, e354, hx354_0, hl354_0, hi354_0⟩ := at_L5 HR4.out (ji41) p354 q354
                                                                have hw354_0 := hx354_0
                                                                obtain rfl : ad347 = ad354 := (by injection e354)
                                                                replace hx354_0 := (HB.out.cell (World.block_lt_of_cell? w _ hx354_0)).trans hx354_0
                                                                have HR354_0 := Aside0.mk hi354_0
                                                                have HC354_0 := Aside0.mk hl354_0
                                                                clear hi354_0 hl354_0
                                                                replace p354 := eq_true p354
                                                                replace q354 := eq_true q354
                                                                have p355 : 0 ≤ (x14_4 : Int) := of_decide_eq_true (by first | (with_reducible assumption) | assumption)
                                                                have q355 : x14_4 < ((rd_L5 l4 (ji41)).length : Int) := of_decide_eq_true (by first | (with_reducible assumption) | assumption)
                                                                obtain ⟨ad355, e355, hx355_0⟩ := Kd.at_int HR354_0.out x14_4 p355 q355
                                                                have hw355_0 := hx355_0
                                                                cases e355
                                                                replace hx355_0 := (HB.out.cell (World.block_lt_of_cell? w _ hx355_0)).trans hx355_0
                                                                replace p355 := eq_true p355
                                                                replace q355 := eq_true q355
                                                                refine start_ (n := 27) (S := fun w' => w'.cell? (ad347.add (x13_3).toNat) = some (.slice (some ad351) (rd_L5 l4 x13_3).length c350_0) ∧ w'.cell? (ad351.add (x14_4).toNat) = some (.int .i64 (rd (rd_L5 l4 x13_3) x14_4)) ∧ w'.cell? (ad347.add (x15_5).toNat) = some (.slice (some ad353) (rd_L5 l4 x15_5).length c352_0) ∧ w'.cell? (ad353.add (x14_4).toNat) = some (.int .i64 (rd (rd_L5 l4 x15_5) x14_4)) ∧ w'.cell? (ad347.add ((ji41)).toNat) = some (.slice (some ad355) (rd_L5 l4 (ji41)).length c354_0) ∧ w'.cell? (ad355.add (x14_4).toNat) = some (.int .i64 (rd (rd_L5 l4 (ji41)) x14_4))) (ds := []) #[false, false, false, false, false, false, false, false, false, false, false, false, false, false, false, false, false, false, false, false, false, false, false, false, false, false, false] (by kernel_rfl) rfl rfl ⟨((HB.out.cell (World.block_lt_of_cell? w _ hw350_0)).trans hw350_0), ((HB.out.cell (World.block_lt_of_cell? w _ hw351_0)).trans hw351_0), ((HB.out.cell (World.block_lt_of_cell? w _ hw352_0)).trans hw352_0), ((HB.out.cell (World.block_lt_of_cell? w _ hw353_0)).trans hw353_0), ((HB.out.cell (World.block_lt_of_cell? w _ hw354_0)).trans hw354_0), ((HB.out.cell (World.block_lt_of_cell? w _ hw355_0)).trans hw355_0)⟩ (fun hHeld => ?_); refine with_tabW gangsawref25_Proves.tab24 gangsawref25_Proves.bits24 (fun HT_ HW_ => ?_)
                                                                generalize wr.drew = w46 at HB HR350_0 HR352_0 HR354_0 hx350_0 hx351_0 hx352_0 hx353_0 hx354_0 hx355_0 hHeld ⊢
                                                                refine pure_ (i := 0) (N := some 95) (v := ?_) (a' := ?_) #[true, false, false, false, false, false, false, false, false, false, false, false, false, false, false, false, false, false, false, false, false, false, false, false, false, false, false] rfl rfl (any_of HT_.out (by kernel_rfl)) (fun _ _ _ h => h) (Or.inl ⟨by rfl, ?_⟩) ?_ ?_
                                                                rotate_left
                                                                · intro w'
                                                                  go_simp
                                                                  with_reducible rfl
                                                                rotate_left
                                                                · simp only [Act.put, List.setIfInBounds_toArray, List.set_cons_zero, List.set_cons_succ, i64_w, i32_w]
                                                                  rfl
                                                                refine pure_ (i := 1) (N := some 96) (v := ?_) (a' := ?_) #[true, true, false, false, false, false, false, false, false, false, false, false, false, false, false, false, false, false, false, false, false, false, false, false, false, false, false] rfl rfl (any_of HT_.out (by kernel_rfl)) (fun _ _ _ h => h) (Or.inl ⟨by rfl, ?_⟩) ?_ ?_
                                                                rotate_left
                                                                · intro w'
                                                                  go_simp
                                                                  with_reducible rfl
                                                                rotate_left
                                                                · simp only [Act.put, List.setIfInBounds_toArray, List.set_cons_zero, List.set_cons_succ, i64_w, i32_w]
                                                                  rfl
                                                                refine pure_ (i := 2) (N := some 97) (v := ?_) (a' := ?_) #[true, true, true, false, false, false, false, false, false, false, false, false, false, false, false, false, false, false, false, false, false, false, false, false, false, false, false] rfl rfl (any_of HT_.out (by kernel_rfl)) (fun _ _ _ h => h) (Or.inl ⟨by rfl, ?_⟩) ?_ ?_
                                                                rotate_left
                                                                · intro w'
                                                                  go_simp
                                                                  with_reducible rfl
                                                                rotate_left
                                                                · simp only [Act.put, List.setIfInBounds_toArray, List.set_cons_zero, List.set_cons_succ, i64_w, i32_w]
                                                                  rfl
                                                                refine pure_ (i := 4) (N := some 99) (v := ?_) (a' := ?_) #[true, true, true, false, true, false, false, false, false, false, false, false, false, false, false, false, false, false, false, false, false, false, false, false, false, false, false] rfl rfl (any_of HT_.out (by kernel_rfl)) (fun _ _ _ h => h) (Or.inl ⟨by rfl, ?_⟩) ?_ ?_
                                                                rotate_left
                                                                · intro w'
                                                                  go_simp
                                                                  with_reducible rfl
                                                                rotate_left
                                                                · simp only [Act.put, List.setIfInBounds_toArray, List.set_cons_zero, List.set_cons_succ, i64_w, i32_w]
                                                                  rfl
                                                                refine pure_ (i := 7) (N := some 102) (v := ?_) (a' := ?_) #[true, true, true, false, true, false, false, true, false, false, false, false, false, false, false, false, false, false, false, false, false, false, false, false, false, false, false] rfl rfl (any_of HT_.out (by kernel_rfl)) (fun _ _ _ h => h) (Or.inl ⟨by rfl, ?_⟩) ?_ ?_
                                                                rotate_left
                                                                · intro w'
                                                                  go_simp
                                                                  with_reducible rfl
                                                                rotate_left
                                                                · simp only [Act.put, List.setIfInBounds_toArray, List.set_cons_zero, List.set_cons_succ, i64_w, i32_w]
                                                                  rfl
                                                                refine pure_ (i := 8) (N := some 103) (v := ?_) (a' := ?_) #[true, true, true, false, true, false, false, true, true, false, false, false, false, false, false, false, false, false, false, false, false, false, false, false, false, false, false] rfl rfl (any_of HT_.out (by kernel_rfl)) (fun _ _ _ h => h) (Or.inl ⟨by rfl, ?_⟩) ?_ ?_
                                                                rotate_left
                                                                · intro w'
                                                                  go_simp
                                                                  with_reducible rfl
                                                                rotate_left
                                                                · simp only [Act.put, List.setIfInBounds_toArray, List.set_cons_zero, List.set_cons_succ, i64_w, i32_w]
                                                                  rfl
                                                                refine pure_ (i := 9) (N := some 104) (v := ?_) (a' := ?_) #[true, true, true, false, true, false, false, true, true, true, false, false, false, false, false, false, false, false, false, false, false, false, false, false, false, false, false] rfl rfl (any_of HT_.out (by kernel_rfl)) (fun _ _ _ h => h) (Or.inl ⟨by rfl, ?_⟩) ?_ ?_
                                                                rotate_left
                                                                · intro w'
                                                                  go_simp
                                                                  with_reducible rfl
                                                                rotate_left
                                                                · simp only [Act.put, List.setIfInBounds_toArray, List.set_cons_zero, List.set_cons_succ, i64_w, i32_w]
                                                                  rfl
                                                                refine pure_ (i := 11) (N := some 106) (v := ?_) (a' := ?_) #[true, true, true, false, true, false, false, true, true, true, false, true, false, false, false, false, false, false, false, false, false, false, false, false, false, false, false] rfl rfl (any_of HT_.out (by kernel_rfl)) (fun _ _ _ h => h) (Or.inl ⟨by rfl, ?_⟩) ?_ ?_
                                                                rotate_left
                                                                · intro w'
                                                                  go_simp
                                                                  with_reducible rfl
                                                                rotate_left
                                                                · simp only [Act.put, List.setIfInBounds_toArray, List.set_cons_zero, List.set_cons_succ, i64_w, i32_w]
                                                                  rfl
                                                                refine pure_ (i := 14) (N := some 109) (v := ?_) (a' := ?_) #[true, true, true, false, true, false, false, true, true, true, false, true, false, false, true, false, false, false, false, false, false, false, false, false, false, false, false] rfl rfl (any_of HT_.out (by kernel_rfl)) (fun _ _ _ h => h) (Or.inl ⟨by rfl, ?_⟩) ?_ ?_
                                                                rotate_left
                                                                · intro w'
                                                                  go_simp
                                                                  with_reducible rfl
                                                                rotate_left
                                                                · simp only [Act.put, List.setIfInBounds_toArray, List.set_cons_zero, List.set_cons_succ, i64_w, i32_w]
                                                                  rfl
                                                                refine pure_ (i := 15) (N := some 110) (v := ?_) (a' := ?_) #[true, true, true, false, true, false, false, true, true, true, false, true, false, false, true, true, false, false, false, false, false, false, false, false, false, false, false] rfl rfl (any_of HT_.out (by kernel_rfl)) (fun _ _ _ h => h) (Or.inl ⟨by rfl, ?_⟩) ?_ ?_
                                                                rotate_left
                                                                · intro w'
                                                                  go_simp
                                                                  with_reducible rfl
                                                                rotate_left
                                                                · simp only [Act.put, List.setIfInBounds_toArray, List.set_cons_zero, List.set_cons_succ, i64_w, i32_w]
                                                                  rfl
                                                                refine pure_ (i := 16) (N := some 111) (v := ?_) (a' := ?_) #[true, true, true, false, true, false, false, true, true, true, false, true, false, false, true, true, true, false, false, false, false, false, false, false, false, false, false] rfl rfl (any_of HT_.out (by kernel_rfl)) (fun _ _ _ h => h) (Or.inl ⟨by rfl, ?_⟩) ?_ ?_
                                                                rotate_left
                                                                · intro w'
                                                                  go_simp
                                                                  with_reducible rfl
                                                                rotate_left
                                                                · simp only [Act.put, List.setIfInBounds_toArray, List.set_cons_zero, List.set_cons_succ, i64_w, i32_w]
                                                                  rfl
                                                                refine pure_ (i := 17) (N := some 112) (v := ?_) (a' := ?_) #[true, true, true, false, true, false, false, true, true, true, false, true, false, false, true, true, true, true, false, false, false, false, false, false, false, false, false] rfl rfl (any_of HT_.out (by kernel_rfl)) (fun _ _ _ h => h) (Or.inl ⟨by rfl, ?_⟩) ?_ ?_
                                                                rotate_left
                                                                · intro w'
                                                                  go_simp
                                                                  with_reducible rfl
                                                                rotate_left
                                                                · simp only [Act.put, List.setIfInBounds_toArray, List.set_cons_zero, List.set_cons_succ, i64_w, i32_w]
                                                                  rfl
                                                                refine pure_ (i := 18) (N := some 113) (v := ?_) (a' := ?_) #[true, true, true, false, true, false, false, true, true, true, false, true, false, false, true, true, true, true, true, false, false, false, false, false, false, false, false] rfl rfl (any_of HT_.out (by kernel_rfl)) (fun _ _ _ h => h) (Or.inl ⟨by rfl, ?_⟩) ?_ ?_
                                                                rotate_left
                                                                · intro w'
                                                                  go_simp
                                                                  with_reducible rfl
                                                                rotate_left
                                                                · simp only [Act.put, List.setIfInBounds_toArray, List.set_cons_zero, List.set_cons_succ, i64_w, i32_w]
                                                                  rfl
                                                                refine pure_ (i := 19) (N := some 114) (v := ?_) (a' := ?_) #[true, true, true, false, true, false, false, true, true, true, false, true, false, false, true, true, true, true, true, true, false, false, false, false, false, false, false] rfl rfl (any_of HT_.out (by kernel_rfl)) (fun _ _ _ h => h) (Or.inl ⟨by rfl, ?_⟩) ?_ ?_
                                                                rotate_left
                                                                · intro w'
                                                                  go_simp
                                                                  with_reducible rfl
                                                                rotate_left
                                                                · simp only [Act.put, List.setIfInBounds_toArray, List.set_cons_zero, List.set_cons_succ, i64_w, i32_w]
                                                                  rfl
                                                                refine pure_ (i := 20) (N := some 115) (v := ?_) (a' := ?_) #[true, true, true, false, true, false, false, true, true, true, false, true, false, false, true, true, true, true, true, true, true, false, false, false, false, false, false] rfl rfl (any_of HT_.out (by kernel_rfl)) (fun _ _ _ h => h) (Or.inl ⟨by rfl, ?_⟩) ?_ ?_
                                                                rotate_left
                                                                · intro w'
                                                                  go_simp
                                                                  with_reducible rfl
                                                                rotate_left
                                                                · simp only [Act.put, List.setIfInBounds_toArray, List.set_cons_zero, List.set_cons_succ, i64_w, i32_w]
                                                                  rfl
                                                                refine pure_ (i := 22) (N := some 117) (v := ?_) (a' := ?_) #[true, true, true, false, true, false, false, true, true, true, false, true, false, false, true, true, true, true, true, true, true, false, true, false, false, false, false] rfl rfl (any_of HT_.out (by kernel_rfl)) (fun _ _ _ h => h) (Or.inl ⟨by rfl, ?_⟩) ?_ ?_
                                                                rotate_left
                                                                · intro w'
                                                                  go_simp
                                                                  with_reducible rfl
                                                                rotate_left
                                                                · simp only [Act.put, List.setIfInBounds_toArray, List.set_cons_zero, List.set_cons_succ, i64_w, i32_w]
                                                                  rfl
                                                                refine take_ (i := 3) (N := some 98) (v := ?_) (a' := ?_) #[true, true, true, true, true, false, false, true, true, true, false, true, false, false, true, true, true, true, true, true, true, false, true, false, false, false, false] rfl rfl (take_ofW HT_.out HW_.out (by kernel_rfl)) (fun _ _ _ h => h) (Or.inl ⟨by rfl, ?_⟩) hHeld ?_ ?_
                                                                rotate_left
                                                                · rintro w' ⟨s0, s1, s2, s3, s4, s5⟩
                                                                  go_simp
                                                                  with_reducible rfl
                                                                rotate_left
                                                                · simp only [Act.put, List.setIfInBounds_toArray, List.set_cons_zero, List.set_cons_succ, i64_w, i32_w]
                                                                  rfl
                                                                refine pure_ (i := 5) (N := some 100) (v := ?_) (a' := ?_) #[true, true, true, true, true, true, false, true, true, true, false, true, false, false, true, true, true, true, true, true, true, false, true, false, false, false, false] rfl rfl (any_of HT_.out (by kernel_rfl)) (fun _ _ _ h => h) (Or.inl ⟨by rfl, ?_⟩) ?_ ?_
                                                                rotate_left
                                                                · intro w'
                                                                  go_simp
                                                                  with_reducible rfl
                                                                rotate_left
                                                                · simp only [Act.put, List.setIfInBounds_toArray, List.set_cons_zero, List.set_cons_succ, i64_w, i32_w]
                                                                  rfl
                                                                refine take_ (i := 6) (N := some 101) (v := ?_) (a' := ?_) #[true, true, true, true, true, true, true, true, true, true, false, true, false, false, true, true, true, true, true, true, true, false, true, false, false, false, false] rfl rfl (take_ofW HT_.out HW_.out (by kernel_rfl)) (fun _ _ _ h => h) (Or.inl ⟨by rfl, ?_⟩) hHeld ?_ ?_
                                                                rotate_left
                                                                · rintro w' ⟨s0, s1, s2, s3, s4, s5⟩
                                                                  go_simp
                                                                  with_reducible rfl
                                                                rotate_left
                                                                · simp only [Act.put, List.setIfInBounds_toArray, List.set_cons_zero, List.set_cons_succ, i64_w, i32_w]
                                                                  rfl
                                                                refine take_ (i := 10) (N := some 105) (v := ?_) (a' := ?_) #[true, true, true, true, true, true, true, true, true, true, true, true, false, false, true, true, true, true, true, true, true, false, true, false, false, false, false] rfl rfl (take_ofW HT_.out HW_.out (by kernel_rfl)) (fun _ _ _ h => h) (Or.inl ⟨by rfl, ?_⟩) hHeld ?_ ?_
                                                                rotate_left
                                                                · rintro w' ⟨s0, s1, s2, s3, s4, s5⟩
                                                                  go_simp
                                                                  with_reducible rfl
                                                                rotate_left
                                                                · simp only [Act.put, List.setIfInBounds_toArray, List.set_cons_zero, List.set_cons_succ, i64_w, i32_w]
                                                                  rfl
                                                                refine pure_ (i := 12) (N := some 107) (v := ?_) (a' := ?_) #[true, true, true, true, true, true, true, true, true, true, true, true, true, false, true, true, true, true, true, true, true, false, true, false, false, false, false] rfl rfl (any_of HT_.out (by kernel_rfl)) (fun _ _ _ h => h) (Or.inl ⟨by rfl, ?_⟩) ?_ ?_
                                                                rotate_left
                                                                · intro w'
                                                                  go_simp
                                                                  with_reducible rfl
                                                                rotate_left
                                                                · simp only [Act.put, List.setIfInBounds_toArray, List.set_cons_zero, List.set_cons_succ, i64_w, i32_w]
                                                                  rfl
                                                                refine take_ (i := 13) (N := some 108) (v := ?_) (a' := ?_) #[true, true, true, true, true, true, true, true, true, true, true, true, true, true, true, true, true, true, true, true, true, false, true, false, false, false, false] rfl rfl (take_ofW HT_.out HW_.out (by kernel_rfl)) (fun _ _ _ h => h) (Or.inl ⟨by rfl, ?_⟩) hHeld ?_ ?_
                                                                rotate_left
                                                                · rintro w' ⟨s0, s1, s2, s3, s4, s5⟩
                                                                  go_simp
                                                                  with_reducible rfl
                                                                rotate_left
                                                                · simp only [Act.put, List.setIfInBounds_toArray, List.set_cons_zero, List.set_cons_succ, i64_w, i32_w]
                                                                  rfl
                                                                refine take_ (i := 21) (N := some 116) (v := ?_) (a' := ?_) #[true, true, true, true, true, true, true, true, true, true, true, true, true, true, true, true, true, true, true, true, true, true, true, false, false, false, false] rfl rfl (take_ofW HT_.out HW_.out (by kernel_rfl)) (fun _ _ _ h => h) (Or.inl ⟨by rfl, ?_⟩) hHeld ?_ ?_
                                                                rotate_left
                                                                · rintro w' ⟨s0, s1, s2, s3, s4, s5⟩
                                                                  go_simp
                                                                  with_reducible rfl
                                                                rotate_left
                                                                · simp only [Act.put, List.setIfInBounds_toArray, List.set_cons_zero, List.set_cons_succ, i64_w, i32_w]
                                                                  rfl
                                                                refine pure_ (i := 23) (N := some 118) (v := ?_) (a' := ?_) #[true, true, true, true, true, true, true, true, true, true, true, true, true, true, true, true, true, true, true, true, true, true, true, true, false, false, false] rfl rfl (any_of HT_.out (by kernel_rfl)) (fun _ _ _ h => h) (Or.inl ⟨by rfl, ?_⟩) ?_ ?_
                                                                rotate_left
                                                                · intro w'
                                                                  go_simp
                                                                  with_reducible rfl
                                                                rotate_left
                                                                · simp only [Act.put, List.setIfInBounds_toArray, List.set_cons_zero, List.set_cons_succ, i64_w, i32_w]
                                                                  rfl
                                                                refine take_ (i := 24) (N := some 119) (v := ?_) (a' := ?_) #[true, true, true, true, true, true, true, true, true, true, true, true, true, true, true, true, true, true, true, true, true, true, true, true, true, false, false] rfl rfl (take_ofW HT_.out HW_.out (by kernel_rfl)) (fun _ _ _ h => h) (Or.inl ⟨by rfl, ?_⟩) hHeld ?_ ?_
                                                                rotate_left
                                                                · rintro w' ⟨s0, s1, s2, s3, s4, s5⟩
                                                                  go_simp
                                                                  with_reducible rfl
                                                                rotate_left
                                                                · simp only [Act.put, List.setIfInBounds_toArray, List.set_cons_zero, List.set_cons_succ, i64_w, i32_w]
                                                                  rfl
                                                                refine pure_ (i := 25) (N := some 120) (v := ?_) (a' := ?_) #[true, true, true, true, true, true, true, true, true, true, true, true, true, true, true, true, true, true, true, true, true, true, true, true, true, true, false] rfl rfl (any_of HT_.out (by kernel_rfl)) (fun _ _ _ h => h) (Or.inl ⟨by rfl, ?_⟩) ?_ ?_
                                                                rotate_left
                                                                · intro w'
                                                                  go_simp
                                                                  with_reducible rfl
                                                                rotate_left
                                                                · simp only [Act.put, List.setIfInBounds_toArray, List.set_cons_zero, List.set_cons_succ, i64_w, i32_w]
                                                                  rfl
                                                                refine pure_ (i := 26) (N := some 121) (v := ?_) (a' := ?_) #[true, true, true, true, true, true, true, true, true, true, true, true, true, true, true, true, true, true, true, true, true, true, true, true, true, true, true] rfl rfl (any_of HT_.out (by kernel_rfl)) (fun _ _ _ h => h) (Or.inl ⟨by rfl, ?_⟩) ?_ ?_
                                                                rotate_left
                                                                · intro w'
                                                                  go_simp
                                                                  with_reducible rfl
                                                                rotate_left
                                                                · simp only [Act.put, List.setIfInBounds_toArray, List.set_cons_zero, List.set_cons_succ, i64_w, i32_w]
                                                                  rfl
                                                                refine done_ (done_of HT_.out (by kernel_rfl)) ?_
                                                                try go_wp2
                                                                go_ret
                                                                exact ⟨by first | rfl | (simp [errW_none, errW_some] <;> rfl) | (simp only [← hji41]; first | rfl | (simp [errW_none, errW_some] <;> rfl)) | (simp [*, errW_none, errW_some] <;> rfl), by repeat (first | (with_reducible first | exact HB.out | apply below_alloc | apply pw_below_drewN | apply below_drew1) | exact HB.out)⟩
                                                              · rw [if_neg c45] at H
                                                                have c45b0 : decide ((rd (rd_L5 l4 x13_3) x14_4) < (wrap64 ((rd (rd_L5 l4 x15_5) x14_4) + (rd (rd_L5 l4 (ji41)) x14_4)))) = false := decide_eq_false c45
                                                                clear c45
                                                                have H' := Aside0.mk H
                                                                clear H
                                                                try go_wp2
                                                                have n0_ := Aside0.mk (below_drew1 HB.out)
                                                                clear HB
                                                                have HB := n0_
                                                                clear n0_
                                                                have p350 : 0 ≤ (x13_3 : Int) := of_decide_eq_true (by first | (with_reducible assumption) | assumption)
                                                                have q350 : x13_3 < (l4.length : Int) := of_decide_eq_true (by first | (with_reducible assumption) | assumption)
                                                                obtain ⟨ad350, A350_0, c350_0, e350, hx350_0, hl350_0, hi350_0⟩ := at_L5 HR4.out x13_3 p350 q350
                                                                have hw350_0 := hx350_0
                                                                obtain rfl : ad347 = ad350 := (by injection e350)
                                                                replace hx350_0 := (HB.out.cell (World.block_lt_of_cell? w _ hx350_0)).trans hx350_0
                                                                have HR350_0 := Aside0.mk hi350_0
                                                                have HC350_0 := Aside0.mk hl350_0
                                                                clear hi350_0 hl350_0
                                                                replace p350 := eq_true p350
                                                                replace q350 := eq_true q350
                                                                have p351 : 0 ≤ (x14_4 : Int) := of_decide_eq_true (by first | (with_reducible assumption) | assumption)
                                                                have q351 : x14_4 < ((rd_L5 l4 x13_3).length : Int) := of_decide_eq_true (by first | (with_reducible assumption) | assumption)
                                                                obtain ⟨ad351, e351, hx351_0⟩ := Kd.at_int HR350_0.out x14_4 p351 q351
                                                                have hw351_0 := hx351_0
                                                                cases e351
                                                                replace hx351_0 := (HB.out.cell (World.block_lt_of_cell? w _ hx351_0)).trans hx351_0
                                                                replace p351 := eq_true p351
                                                                replace q351 := eq_true q351
                                                                have p352 : 0 ≤ (x15_5 : Int) := of_decide_eq_true (by first | (with_reducible assumption) | assumption)
                                                                have q352 : x15_5 < (l4.length : Int) := of_decide_eq_true (by first | (with_reducible assumption) | assumption)
                                                                obtain ⟨ad352, A352_0, c352_0, e352, hx352_0, hl352_0, hi352_0⟩ := at_L5 HR4.out x15_5 p352 q352
                                                                have hw352_0 := hx352_0
                                                                obtain rfl : ad347 = ad352 := (by injection e352)
                                                                replace hx352_0 := (HB.out.cell (World.block_lt_of_cell? w _ hx352_0)).trans hx352_0
                                                                have HR352_0 := Aside0.mk hi352_0
                                                                have HC352_0 := Aside0.mk hl352_0
                                                                clear hi352_0 hl352_0
                                                                replace p352 := eq_true p352
                                                                replace q352 := eq_true q352
                                                                have p353 : 0 ≤ (x14_4 : Int) := of_decide_eq_true (by first | (with_reducible assumption) | assumption)
                                                                have q353 : x14_4 < ((rd_L5 l4 x15_5).length : Int) := of_decide_eq_true (by first | (with_reducible assumption) | assumption)
                                                                obtain ⟨ad353, e353, hx353_0⟩ := Kd.at_int HR352_0.out x14_4 p353 q353
                                                                have hw353_0 := hx353_0
                                                                cases e353
                                                                replace hx353_0 := (HB.out.cell (World.block_lt_of_cell? w _ hx353_0)).trans hx353_0
                                                                replace p353 := eq_true p353
                                                                replace q353 := eq_true q353
                                                                have p354 : 0 ≤ ((ji41) : Int) := of_decide_eq_true (by first | (with_reducible assumption) | assumption)
                                                                have q354 : (ji41) < (l4.length : Int) := of_decide_eq_true (by first | (with_reducible assumption) | assumption)
                                                                obtain ⟨ad354, A354_0, c354_0, e354, hx354_0, hl354_0, hi354_0⟩ := at_L5 HR4.out (ji41) p354 q354
                                                                have hw354_0 := hx354_0
                                                                obtain rfl : ad347 = ad354 := (by injection e354)
                                                                replace hx354_0 := (HB.out.cell (World.block_lt_of_cell? w _ hx354_0)).trans hx354_0
                                                                have HR354_0 := Aside0.mk hi354_0
                                                                have HC354_0 := Aside0.mk hl354_0
                                                                clear hi354_0 hl354_0
                                                                replace p354 := eq_true p354
                                                                replace q354 := eq_true q354
                                                                have p355 : 0 ≤ (x14_4 : Int) := of_decide_eq_true (by first | (with_reducible assumption) | assumption)
                                                                have q355 : x14_4 < ((rd_L5 l4 (ji41)).length : Int) := of_decide_eq_true (by first | (with_reducible assumption) | assumption)
                                                                obtain ⟨ad355, e355, hx355_0⟩ := Kd.at_int HR354_0.out x14_4 p355 q355
                                                                have hw355_0 := hx355_0
                                                                cases e355
                                                                replace hx355_0 := (HB.out.cell (World.block_lt_of_cell? w _ hx355_0)).trans hx355_0
                                                                replace p355 := eq_true p355
                                                                replace q355 := eq_true q355
                                                                refine start_ (n := 27) (S := fun w' => w'.cell? (ad347.add (x13_3).toNat) = some (.slice (some ad351) (rd_L5 l4 x13_3).length c350_0) ∧ w'.cell? (ad351.add (x14_4).toNat) = some (.int .i64 (rd (rd_L5 l4 x13_3) x14_4)) ∧ w'.cell? (ad347.add (x15_5).toNat) = some (.slice (some ad353) (rd_L5 l4 x15_5).length c352_0) ∧ w'.cell? (ad353.add (x14_4).toNat) = some (.int .i64 (rd (rd_L5 l4 x15_5) x14_4)) ∧ w'.cell? (ad347.add ((ji41)).toNat) = some (.slice (some ad355) (rd_L5 l4 (ji41)).length c354_0) ∧ w'.cell? (ad355.add (x14_4).toNat) = some (.int .i64 (rd (rd_L5 l4 (ji41)) x14_4))) (ds := []) #[false, false, false, false, false, false, false, false, false, false, false, false, false, false, false, false, false, false, false, false, false, false, false, false, false, false, false] (by kernel_rfl) rfl rfl ⟨((HB.out.cell (World.block_lt_of_cell? w _ hw350_0)).trans hw350_0), ((HB.out.cell (World.block_lt_of_cell? w _ hw351_0)).trans hw351_0), ((HB.out.cell (World.block_lt_of_cell? w _ hw352_0)).trans hw352_0), ((HB.out.cell (World.block_lt_of_cell? w _ hw353_0)).trans hw353_0), ((HB.out.cell (World.block_lt_of_cell? w _ hw354_0)).trans hw354_0), ((HB.out.cell (World.block_lt_of_cell? w _ hw355_0)).trans hw355_0)⟩ (fun hHeld => ?_); refine with_tabW gangsawref25_Proves.tab24 gangsawref25_Proves.bits24 (fun HT_ HW_ => ?_)
                                                                generalize wr.drew = w47 at HB HR350_0 HR352_0 HR354_0 hx350_0 hx351_0 hx352_0 hx353_0 hx354_0 hx355_0 hHeld ⊢
                                                                refine pure_ (i := 0) (N := some 95) (v := ?_) (a' := ?_) #[true, false, false, false, false, false, false, false, false, false, false, false, false, false, false, false, false, false, false, false, false, false, false, false, false, false, false] rfl rfl (any_of HT_.out (by kernel_rfl)) (fun _ _ _ h => h) (Or.inl ⟨by rfl, ?_⟩) ?_ ?_
                                                                rotate_left
                                                                · intro w'
                                                                  go_simp
                                                                  with_reducible rfl
                                                                rotate_left
                                                                · simp only [Act.put, List.setIfInBounds_toArray, List.set_cons_zero, List.set_cons_succ, i64_w, i32_w]
                                                                  rfl
                                                                refine pure_ (i := 1) (N := some 96) (v := ?_) (a' := ?_) #[true, true, false, false, false, false, false, false, false, false, false, false, false, false, false, false, false, false, false, false, false, false, false, false, false, false, false] rfl rfl (any_of HT_.out (by kernel_rfl)) (fun _ _ _ h => h) (Or.inl ⟨by rfl, ?_⟩) ?_ ?_
                                                                rotate_left
                                                                · intro w'
                                                                  go_simp
                                                                  with_reducible rfl
                                                                rotate_left
                                                                · simp only [Act.put, List.setIfInBounds_toArray, List.set_cons_zero, List.set_cons_succ, i64_w, i32_w]
                                                                  rfl
                                                                refine pure_ (i := 2) (N := some 97) (v := ?_) (a' := ?_) #[true, true, true, false, false, false, false, false, false, false, false, false, false, false, false, false, false, false, false, false, false, false, false, false, false, false, false] rfl rfl (any_of HT_.out (by kernel_rfl)) (fun _ _ _ h => h) (Or.inl ⟨by rfl, ?_⟩) ?_ ?_
                                                                rotate_left
                                                                · intro w'
                                                                  go_simp
                                                                  with_reducible rfl
                                                                rotate_left
                                                                · simp only [Act.put, List.setIfInBounds_toArray, List.set_cons_zero, List.set_cons_succ, i64_w, i32_w]
                                                                  rfl
                                                                refine pure_ (i := 4) (N := some 99) (v := ?_) (a' := ?_) #[true, true, true, false, true, false, false, false, false, false, false, false, false, false, false, false, false, false, false, false, false, false, false, false, false, false, false] rfl rfl (any_of HT_.out (by kernel_rfl)) (fun _ _ _ h => h) (Or.inl ⟨by rfl, ?_⟩) ?_ ?_
                                                                rotate_left
                                                                · intro w'
                                                                  go_simp
                                                                  with_reducible rfl
                                                                rotate_left
                                                                · simp only [Act.put, List.setIfInBounds_toArray, List.set_cons_zero, List.set_cons_succ, i64_w, i32_w]
                                                                  rfl
                                                                refine pure_ (i := 7) (N := some 102) (v := ?_) (a' := ?_) #[true, true, true, false, true, false, false, true, false, false, false, false, false, false, false, false, false, false, false, false, false, false, false, false, false, false, false] rfl rfl (any_of HT_.out (by kernel_rfl)) (fun _ _ _ h => h) (Or.inl ⟨by rfl, ?_⟩) ?_ ?_
                                                                rotate_left
                                                                · intro w'
                                                                  go_simp
                                                                  with_reducible rfl
                                                                rotate_left
                                                                · simp only [Act.put, List.setIfInBounds_toArray, List.set_cons_zero, List.set_cons_succ, i64_w, i32_w]
                                                                  rfl
                                                                refine pure_ (i := 8) (N := some 103) (v := ?_) (a' := ?_) #[true, true, true, false, true, false, false, true, true, false, false, false, false, false, false, false, false, false, false, false, false, false, false, false, false, false, false] rfl rfl (any_of HT_.out (by kernel_rfl)) (fun _ _ _ h => h) (Or.inl ⟨by rfl, ?_⟩) ?_ ?_
                                                                rotate_left
                                                                · intro w'
                                                                  go_simp
                                                                  with_reducible rfl
                                                                rotate_left
                                                                · simp only [Act.put, List.setIfInBounds_toArray, List.set_cons_zero, List.set_cons_succ, i64_w, i32_w]
                                                                  rfl
                                                                refine pure_ (i := 9) (N := some 104) (v := ?_) (a' := ?_) #[true, true, true, false, true, false, false, true, true, true, false, false, false, false, false, false, false, false, false, false, false, false, false, false, false, false, false] rfl rfl (any_of HT_.out (by kernel_rfl)) (fun _ _ _ h => h) (Or.inl ⟨by rfl, ?_⟩) ?_ ?_
                                                                rotate_left
                                                                · intro w'
                                                                  go_simp
                                                                  with_reducible rfl
                                                                rotate_left
                                                                · simp only [Act.put, List.setIfInBounds_toArray, List.set_cons_zero, List.set_cons_succ, i64_w, i32_w]
                                                                  rfl
                                                                refine pure_ (i := 11) (N := some 106) (v := ?_) (a' := ?_) #[true, true, true, false, true, false, false, true, true, true, false, true, false, false, false, false, false, false, false, false, false, false, false, false, false, false, false] rfl rfl (any_of HT_.out (by kernel_rfl)) (fun _ _ _ h => h) (Or.inl ⟨by rfl, ?_⟩) ?_ ?_
                                                                rotate_left
                                                                · intro w'
                                                                  go_simp
                                                                  with_reducible rfl
                                                                rotate_left
                                                                · simp only [Act.put, List.setIfInBounds_toArray, List.set_cons_zero, List.set_cons_succ, i64_w, i32_w]
                                                                  rfl
                                                                refine pure_ (i := 14) (N := some 109) (v := ?_) (a' := ?_) #[true, true, true, false, true, false, false, true, true, true, false, true, false, false, true, false, false, false, false, false, false, false, false, false, false, false, false] rfl rfl (any_of HT_.out (by kernel_rfl)) (fun _ _ _ h => h) (Or.inl ⟨by rfl, ?_⟩) ?_ ?_
                                                                rotate_left
                                                                · intro w'
                                                                  go_simp
                                                                  with_reducible rfl
                                                                rotate_left
                                                                · simp only [Act.put, List.setIfInBounds_toArray, List.set_cons_zero, List.set_cons_succ, i64_w, i32_w]
                                                                  rfl
                                                                refine pure_ (i := 15) (N := some 110) (v := ?_) (a' := ?_) #[true, true, true, false, true, false, false, true, true, true, false, true, false, false, true, true, false, false, false, false, false, false, false, false, false, false, false] rfl rfl (any_of HT_.out (by kernel_rfl)) (fun _ _ _ h => h) (Or.inl ⟨by rfl, ?_⟩) ?_ ?_
                                                                rotate_left
                                                                · intro w'
                                                                  go_simp
                                                                  with_reducible rfl
                                                                rotate_left
                                                                · simp only [Act.put, List.setIfInBounds_toArray, List.set_cons_zero, List.set_cons_succ, i64_w, i32_w]
                                                                  rfl
                                                                refine pure_ (i := 16) (N := some 111) (v := ?_) (a' := ?_) #[true, true, true, false, true, false, false, true, true, true, false, true, false, false, true, true, true, false, false, false, false, false, false, false, false, false, false] rfl rfl (any_of HT_.out (by kernel_rfl)) (fun _ _ _ h => h) (Or.inl ⟨by rfl, ?_⟩) ?_ ?_
                                                                rotate_left
                                                                · intro w'
                                                                  go_simp
                                                                  with_reducible rfl
                                                                rotate_left
                                                                · simp only [Act.put, List.setIfInBounds_toArray, List.set_cons_zero, List.set_cons_succ, i64_w, i32_w]
                                                                  rfl
                                                                refine pure_ (i := 17) (N := some 112) (v := ?_) (a' := ?_) #[true, true, true, false, true, false, false, true, true, true, false, true, false, false, true, true, true, true, false, false, false, false, false, false, false, false, false] rfl rfl (any_of HT_.out (by kernel_rfl)) (fun _ _ _ h => h) (Or.inl ⟨by rfl, ?_⟩) ?_ ?_
                                                                rotate_left
                                                                · intro w'
                                                                  go_simp
                                                                  with_reducible rfl
                                                                rotate_left
                                                                · simp only [Act.put, List.setIfInBounds_toArray, List.set_cons_zero, List.set_cons_succ, i64_w, i32_w]
                                                                  rfl
                                                                refine pure_ (i := 18) (N := some 113) (v := ?_) (a' := ?_) #[true, true, true, false, true, false, false, true, true, true, false, true, false, false, true, true, true, true, true, false, false, false, false, false, false, false, false] rfl rfl (any_of HT_.out (by kernel_rfl)) (fun _ _ _ h => h) (Or.inl ⟨by rfl, ?_⟩) ?_ ?_
                                                                rotate_left
                                                                · intro w'
                                                                  go_simp
                                                                  with_reducible rfl
                                                                rotate_left
                                                                · simp only [Act.put, List.setIfInBounds_toArray, List.set_cons_zero, List.set_cons_succ, i64_w, i32_w]
                                                                  rfl
                                                                refine pure_ (i := 19) (N := some 114) (v := ?_) (a' := ?_) #[true, true, true, false, true, false, false, true, true, true, false, true, false, false, true, true, true, true, true, true, false, false, false, false, false, false, false] rfl rfl (any_of HT_.out (by kernel_rfl)) (fun _ _ _ h => h) (Or.inl ⟨by rfl, ?_⟩) ?_ ?_
                                                                rotate_left
                                                                · intro w'
                                                                  go_simp
                                                                  with_reducible rfl
                                                                rotate_left
                                                                · simp only [Act.put, List.setIfInBounds_toArray, List.set_cons_zero, List.set_cons_succ, i64_w, i32_w]
                                                                  rfl
                                                                refine pure_ (i := 20) (N := some 115) (v := ?_) (a' := ?_) #[true, true, true, false, true, false, false, true, true, true, false, true, false, false, true, true, true, true, true, true, true, false, false, false, false, false, false] rfl rfl (any_of HT_.out (by kernel_rfl)) (fun _ _ _ h => h) (Or.inl ⟨by rfl, ?_⟩) ?_ ?_
                                                                rotate_left
                                                                · intro w'
                                                                  go_simp
                                                                  with_reducible rfl
                                                                rotate_left
                                                                · simp only [Act.put, List.setIfInBounds_toArray, List.set_cons_zero, List.set_cons_succ, i64_w, i32_w]
                                                                  rfl
                                                                refine pure_ (i := 22) (N := some 117) (v := ?_) (a' := ?_) #[true, true, true, false, true, false, false, true, true, true, false, true, false, false, true, true, true, true, true, true, true, false, true, false, false, false, false] rfl rfl (any_of HT_.out (by kernel_rfl)) (fun _ _ _ h => h) (Or.inl ⟨by rfl, ?_⟩) ?_ ?_
                                                                rotate_left
                                                                · intro w'
                                                                  go_simp
                                                                  with_reducible rfl
                                                                rotate_left
                                                                · simp only [Act.put, List.setIfInBounds_toArray, List.set_cons_zero, List.set_cons_succ, i64_w, i32_w]
                                                                  rfl
                                                                refine take_ (i := 3) (N := some 98) (v := ?_) (a' := ?_) #[true, true, true, true, true, false, false, true, true, true, false, true, false, false, true, true, true, true, true, true, true, false, true, false, false, false, false] rfl rfl (take_ofW HT_.out HW_.out (by kernel_rfl)) (fun _ _ _ h => h) (Or.inl ⟨by rfl, ?_⟩) hHeld ?_ ?_
                                                                rotate_left
                                                                · rintro w' ⟨s0, s1, s2, s3, s4, s5⟩
                                                                  go_simp
                                                                  with_reducible rfl
                                                                rotate_left
                                                                · simp only [Act.put, List.setIfInBounds_toArray, List.set_cons_zero, List.set_cons_succ, i64_w, i32_w]
                                                                  rfl
                                                                refine pure_ (i := 5) (N := some 100) (v := ?_) (a' := ?_) #[true, true, true, true, true, true, false, true, true, true, false, true, false, false, true, true, true, true, true, true, true, false, true, false, false, false, false] rfl rfl (any_of HT_.out (by kernel_rfl)) (fun _ _ _ h => h) (Or.inl ⟨by rfl, ?_⟩) ?_ ?_
                                                                rotate_left
                                                                · intro w'
                                                                  go_simp
                                                                  with_reducible rfl
                                                                rotate_left
                                                                · simp only [Act.put, List.setIfInBounds_toArray, List.set_cons_zero, List.set_cons_succ, i64_w, i32_w]
                                                                  rfl
                                                                refine take_ (i := 6) (N := some 101) (v := ?_) (a' := ?_) #[true, true, true, true, true, true, true, true, true, true, false, true, false, false, true, true, true, true, true, true, true, false, true, false, false, false, false] rfl rfl (take_ofW HT_.out HW_.out (by kernel_rfl)) (fun _ _ _ h => h) (Or.inl ⟨by rfl, ?_⟩) hHeld ?_ ?_
                                                                rotate_left
                                                                · rintro w' ⟨s0, s1, s2, s3, s4, s5⟩
                                                                  go_simp
                                                                  with_reducible rfl
                                                                rotate_left
                                                                · simp only [Act.put, List.setIfInBounds_toArray, List.set_cons_zero, List.set_cons_succ, i64_w, i32_w]
                                                                  rfl
                                                                refine take_ (i := 10) (N := some 105) (v := ?_) (a' := ?_) #[true, true, true, true, true, true, true, true, true, true, true, true, false, false, true, true, true, true, true, true, true, false, true, false, false, false, false] rfl rfl (take_ofW HT_.out HW_.out (by kernel_rfl)) (fun _ _ _ h => h) (Or.inl ⟨by rfl, ?_⟩) hHeld ?_ ?_
                                                                rotate_left
                                                                · rintro w' ⟨s0, s1, s2, s3, s4, s5⟩
                                                                  go_simp
                                                                  with_reducible rfl
                                                                rotate_left
                                                                · simp only [Act.put, List.setIfInBounds_toArray, List.set_cons_zero, List.set_cons_succ, i64_w, i32_w]
                                                                  rfl
                                                                refine pure_ (i := 12) (N := some 107) (v := ?_) (a' := ?_) #[true, true, true, true, true, true, true, true, true, true, true, true, true, false, true, true, true, true, true, true, true, false, true, false, false, false, false] rfl rfl (any_of HT_.out (by kernel_rfl)) (fun _ _ _ h => h) (Or.inl ⟨by rfl, ?_⟩) ?_ ?_
                                                                rotate_left
                                                                · intro w'
                                                                  go_simp
                                                                  with_reducible rfl
                                                                rotate_left
                                                                · simp only [Act.put, List.setIfInBounds_toArray, List.set_cons_zero, List.set_cons_succ, i64_w, i32_w]
                                                                  rfl
                                                                refine take_ (i := 13) (N := some 108) (v := ?_) (a' := ?_) #[true, true, true, true, true, true, true, true, true, true, true, true, true, true, true, true, true, true, true, true, true, false, true, false, false, false, false] rfl rfl (take_ofW HT_.out HW_.out (by kernel_rfl)) (fun _ _ _ h => h) (Or.inl ⟨by rfl, ?_⟩) hHeld ?_ ?_
                                                                rotate_left
                                                                · rintro w' ⟨s0, s1, s2, s3, s4, s5⟩
                                                                  go_simp
                                                                  with_reducible rfl
                                                                rotate_left
                                                                · simp only [Act.put, List.setIfInBounds_toArray, List.set_cons_zero, List.set_cons_succ, i64_w, i32_w]
                                                                  rfl
                                                                refine take_ (i := 21) (N := some 116) (v := ?_) (a' := ?_) #[true, true, true, true, true, true, true, true, true, true, true, true, true, true, true, true, true, true, true, true, true, true, true, false, false, false, false] rfl rfl (take_ofW HT_.out HW_.out (by kernel_rfl)) (fun _ _ _ h => h) (Or.inl ⟨by rfl, ?_⟩) hHeld ?_ ?_
                                                                rotate_left
                                                                · rintro w' ⟨s0, s1, s2, s3, s4, s5⟩
                                                                  go_simp
                                                                  with_reducible rfl
                                                                rotate_left
                                                                · simp only [Act.put, List.setIfInBounds_toArray, List.set_cons_zero, List.set_cons_succ, i64_w, i32_w]
                                                                  rfl
                                                                refine pure_ (i := 23) (N := some 118) (v := ?_) (a' := ?_) #[true, true, true, true, true, true, true, true, true, true, true, true, true, true, true, true, true, true, true, true, true, true, true, true, false, false, false] rfl rfl (any_of HT_.out (by kernel_rfl)) (fun _ _ _ h => h) (Or.inl ⟨by rfl, ?_⟩) ?_ ?_
                                                                rotate_left
                                                                · intro w'
                                                                  go_simp
                                                                  with_reducible rfl
                                                                rotate_left
                                                                · simp only [Act.put, List.setIfInBounds_toArray, List.set_cons_zero, List.set_cons_succ, i64_w, i32_w]
                                                                  rfl
                                                                refine take_ (i := 24) (N := some 119) (v := ?_) (a' := ?_) #[true, true, true, true, true, true, true, true, true, true, true, true, true, true, true, true, true, true, true, true, true, true, true, true, true, false, false] rfl rfl (take_ofW HT_.out HW_.out (by kernel_rfl)) (fun _ _ _ h => h) (Or.inl ⟨by rfl, ?_⟩) hHeld ?_ ?_
                                                                rotate_left
                                                                · rintro w' ⟨s0, s1, s2, s3, s4, s5⟩
                                                                  go_simp
                                                                  with_reducible rfl
                                                                rotate_left
                                                                · simp only [Act.put, List.setIfInBounds_toArray, List.set_cons_zero, List.set_cons_succ, i64_w, i32_w]
                                                                  rfl
                                                                refine pure_ (i := 25) (N := some 120) (v := ?_) (a' := ?_) #[true, true, true, true, true, true, true, true, true, true, true, true, true, true, true, true, true, true, true, true, true, true, true, true, true, true, false] rfl rfl (any_of HT_.out (by kernel_rfl)) (fun _ _ _ h => h) (Or.inl ⟨by rfl, ?_⟩) ?_ ?_
                                                                rotate_left
                                                                · intro w'
                                                                  go_simp
                                                                  with_reducible rfl
                                                                rotate_left
                                                                · simp only [Act.put, List.setIfInBounds_toArray, List.set_cons_zero, List.set_cons_succ, i64_w, i32_w]
                                                                  rfl
                                                                refine pure_ (i := 26) (N := some 121) (v := ?_) (a' := ?_) #[true, true, true, true, true, true, true, true, true, true, true, true, true, true, true, true, true, true, true, true, true, true, true, true, true, true, true] rfl rfl (any_of HT_.out (by kernel_rfl)) (fun _ _ _ h => h) (Or.inl ⟨by rfl, ?_⟩) ?_ ?_
                                                                rotate_left
                                                                · intro w'
                                                                  go_simp
                                                                  with_reducible rfl
                                                                rotate_left
                                                                · simp only [Act.put, List.setIfInBounds_toArray, List.set_cons_zero, List.set_cons_succ, i64_w, i32_w]
                                                                  rfl
                                                                refine done_ (done_of HT_.out (by kernel_rfl)) ?_
                                                                try go_wp2
                                                                go_roundg k5
                                                                case measure => have := HJ5.out; have := HK2.out; have := HK3.out; have := HK4.out; have := HK5.out; omega
                                                                case rel => exact ⟨(wrap64 (x15_5 + 1)), (by first | rfl | (simp; done) | (simp [*]; done)), H', ⟨by have := HJ5.out; have := HK2.out; have := HK3.out; have := HK4.out; have := HK5.out; omega⟩, ⟨by repeat (first | (with_reducible first | exact HB.out | apply below_alloc | apply pw_below_drewN | apply below_drew1) | exact HB.out)⟩⟩
                                                            · rw [if_neg c44] at H
                                                              exact absurd H (by simp)
                                                          · rw [if_neg c43] at H
                                                            exact absurd H (by simp)
                                                        · rw [if_neg c42] at H
                                                          exact absurd H (by simp)
                                                      · rw [if_neg c40] at H
                                                        exact absurd H (by simp)
                                                    · rw [if_neg c39] at H
                                                      exact absurd H (by simp)
                                                  · rw [if_neg c38] at H
                                                    exact absurd H (by simp)
                                                · rw [if_neg c37] at H
                                                  exact absurd H (by simp)
                                              · rw [if_neg c36] at H
                                                exact absurd H (by simp)
                                            · rw [if_neg c35] at H
                                              exact absurd H (by simp)
                                          · rw [if_neg c34] at H
                                            exact absurd H (by simp)
                                        · rw [if_neg c33] at H
                                          have c33b0 : decide ((wrap64 (x15_5 + a3)) < x13_3) = false := decide_eq_false c33
                                          clear c33
                                          have H' := Aside0.mk H
                                          clear H
                                          go_wp2
                                          go_loopg [16] k5 (fun kq v16 w' => ∃ (x16_6 : Int), v16 = .int .i64 x16_6 ∧ Aside0 (gangsawref25_Proves.l5 kq a0 a1 l2 a3 l4 x13_3 x14_4 x16_6 = some r) ∧ Aside0 (kq ≤ k5) ∧ Aside0 (Below w.heap.size w w'))
                                          case atStart => exact ⟨(1), (by first | rfl | (simp; done) | (simp [*]; done)), H', ⟨Nat.le_refl _⟩, ⟨by repeat (first | (with_reducible first | exact HB.out | apply below_alloc | apply pw_below_drewN | apply below_drew1) | exact HB.out)⟩⟩
                                          case round =>
                                            clear H'
                                            try clear p2
                                            try clear c3
                                            try clear p3
                                            try clear q3
                                            try clear hx3
                                            try clear c4
                                            try clear p6
                                            try clear c33
                                            try clear c33b0
                                            try clear c34
                                            try clear c35
                                            try clear p35
                                            try clear q35
                                            try clear hx35
                                            try clear c36
                                            try clear c37
                                            try clear c38
                                            try clear c39
                                            try clear c40
                                            try clear c42
                                            try clear c43
                                            try clear c44
                                            try clear c45
                                            try clear c45b0
                                            try clear hx350_0
                                            try clear hx351_0
                                            try clear hx352_0
                                            try clear hx353_0
                                            try clear hx354_0
                                            try clear hx355_0
                                            try clear p350
                                            try clear p351
                                            try clear p352
                                            try clear p353
                                            try clear p354
                                            try clear p355
                                            try clear q350
                                            try clear q351
                                            try clear q352
                                            try clear q353
                                            try clear q354
                                            try clear q355
                                            obtain ⟨x16_6, rfl, HA, HK6, HB⟩ := hrel
                                            cases gk with
                                            | zero => exact absurd HA.out (by simp [gangsawref25_Proves.l5])
                                            | succ k6 =>
                                              have H := HA.out
                                              clear HA
                                              simp only [gangsawref25_Proves.l5] at H
                                              by_cases c48 : (wrap64 (x16_6 + a3)) < x14_4
                                              · rw [if_pos c48] at H
                                                have c48b0 : decide ((wrap64 (x16_6 + a3)) < x14_4) = true := decide_eq_true c48
                                                clear c48
                                                by_cases c49 : 0 ≤ x13_3
                                                · rw [if_pos c49] at H
                                                  have c49b0 : decide (0 ≤ x13_3) = true := decide_eq_true c49
                                                  clear c49
                                                  by_cases c50 : x13_3 < (l4.length : Int)
                                                  · rw [if_pos c50] at H
                                                    have c50b0 : decide (x13_3 < (l4.length : Int)) = true := decide_eq_true c50
                                                    clear c50
                                                    by_cases c51 : 0 ≤ x14_4
                                                    · rw [if_pos c51] at H
                                                      have c51b0 : decide (0 ≤ x14_4) = true := decide_eq_true c51
                                                      clear c51
                                                      by_cases c52 : x14_4 < ((rd_L5 l4 x13_3).length : Int)
                                                      · rw [if_pos c52] at H
                                                        have c52b0 : decide (x14_4 < ((rd_L5 l4 x13_3).length : Int)) = true := decide_eq_true c52
                                                        clear c52
                                                        by_cases c53 : 0 ≤ x16_6
                                                        · rw [if_pos c53] at H
                                                          have c53b0 : decide (0 ≤ x16_6) = true := decide_eq_true c53
                                                          clear c53
                                                          by_cases c54 : x16_6 < ((rd_L5 l4 x13_3).length : Int)
                                                          · rw [if_pos c54] at H
                                                            have c54b0 : decide (x16_6 < ((rd_L5 l4 x13_3).length : Int)) = true := decide_eq_true c54
                                                            clear c54
                                                            obtain ⟨ji55, hji55⟩ : ∃ j_ : Int, (wrap64 ((wrap64 (x14_4 - x16_6)) - a3)) = j_ := ⟨_, rfl⟩
                                                            replace H : (if 0 ≤ (ji55) then (if (ji55) < ((rd_L5 l4 x13_3).length : Int) then (if (rd (rd_L5 l4 x13_3) x14_4) < (wrap64 ((rd (rd_L5 l4 x13_3) x16_6) + (rd (rd_L5 l4 x13_3) (ji55)))) then (some false) else (gangsawref25_Proves.l5 k6 a0 a1 l2 a3 l4 x13_3 x14_4 (wrap64 (x16_6 + 1)))) else (none)) else (none)) = some r := by first | (rw [hji55] at H; exact H) | (simp only [hji55] at H ⊢; exact H)
                                                            have hji55w : (IntKind.i64.wrap ((wrap64 (x14_4 - x16_6)) - a3)) = ji55 := (i64_w _).trans hji55
                                                            by_cases c56 : 0 ≤ (ji55)
                                                            · rw [if_pos c56] at H
                                                              have c56b0 : decide (0 ≤ (ji55)) = true := decide_eq_true c56
                                                              clear c56
                                                              by_cases c57 : (ji55) < ((rd_L5 l4 x13_3).length : Int)
                                                              · rw [if_pos c57] at H
                                                                have c57b0 : decide ((ji55) < ((rd_L5 l4 x13_3).length : Int)) = true := decide_eq_true c57
                                                                clear c57
                                                                by_cases c58 : (rd (rd_L5 l4 x13_3) x14_4) < (wrap64 ((rd (rd_L5 l4 x13_3) x16_6) + (rd (rd_L5 l4 x13_3) (ji55))))
                                                                · rw [if_pos c58] at H
                                                                  have c58b0 : decide ((rd (rd_L5 l4 x13_3) x14_4) < (wrap64 ((rd (rd_L5 l4 x13_3) x16_6) + (rd (rd_L5 l4 x13_3) (ji55))))) = true := decide_eq_true c58
                                                                  clear c58
                                                                  obtain rfl := Option.some.inj H
                                                                  try go_wp2
                                                                  have n0_ := Aside0.mk (below_drew1 HB.out)
                                                                  clear HB
                                                                  have HB := n0_
                                                                  clear n0_
                                                                  have p356 : 0 ≤ (x13_3 : Int) := of_decide_eq_true (by first | (with_reducible assumption) | assumption)
                                                                  have q356 : x13_3 < (l4.length : Int) := of_decide_eq_true (by first | (with_reducible assumption) | assumption)
                                                                  obtain ⟨ad356, A356_0, c356_0, e356, hx356_0, hl356_0, hi356_0⟩ := at_L5 HR4.out x13_3 p356 q356
                                                                  have hw356_0 := hx356_0
                                                                  obtain rfl : ad347 = ad356 := (by injection e356)
                                                                  replace hx356_0 := (HB.out.cell (World.block_lt_of_cell? w _ hx356_0)).trans hx356_0
                                                                  have HR356_0 := Aside0.mk hi356_0
                                                                  have HC356_0 := Aside0.mk hl356_0
                                                                  clear hi356_0 hl356_0
                                                                  replace p356 := eq_true p356
                                                                  replace q356 := eq_true q356
                                                                  have p357 : 0 ≤ (x14_4 : Int) := of_decide_eq_true (by first | (with_reducible assumption) | assumption)
                                                                  have q357 : x14_4 < ((rd_L5 l4 x13_3).length : Int) := of_decide_eq_true (by first | (with_reducible assumption) | assumption)
                                                                  obtain ⟨ad357, e357, hx357_0⟩ := Kd.at_int HR356_0.out x14_4 p357 q357
                                                                  have hw357_0 := hx357_0
                                                                  cases e357
                                                                  replace hx357_0 := (HB.out.cell (World.block_lt_of_cell? w _ hx357_0)).trans hx357_0
                                                                  replace p357 := eq_true p357
                                                                  replace q357 := eq_true q357
                                                                  have p358 : 0 ≤ (x13_3 : Int) := of_decide_eq_true (by first | (with_reducible assumption) | assumption)
                                                                  have q358 : x13_3 < (l4.length : Int) := of_decide_eq_true (by first | (with_reducible assumption) | assumption)
                                                                  obtain ⟨ad358, A358_0, c358_0, e358, hx358_0, hl358_0, hi358_0⟩ := at_L5 HR4.out x13_3 p358 q358
                                                                  have hw358_0 := hx358_0
                                                                  obtain rfl : ad347 = ad358 := (by injection e358)
                                                                  replace hx358_0 := (HB.out.cell (World.block_lt_of_cell? w _ hx358_0)).trans hx358_0
                                                                  have HR358_0 := Aside0.mk hi358_0
                                                                  have HC358_0 := Aside0.mk hl358_0
                                                                  clear hi358_0 hl358_0
                                                                  replace p358 := eq_true p358
                                                                  replace q358 := eq_true q358
                                                                  have ea_ := Option.some.inj (hx356_0.symm.trans hx358_0)
                                                                  injection ea_ with ea_ en_ ec_
                                                                  subst ea_
                                                                  subst ec_
                                                                  clear en_
                                                                  have p359 : 0 ≤ (x16_6 : Int) := of_decide_eq_true (by first | (with_reducible assumption) | assumption)
                                                                  have q359 : x16_6 < ((rd_L5 l4 x13_3).length : Int) := of_decide_eq_true (by first | (with_reducible assumption) | assumption)
                                                                  obtain ⟨ad359, e359, hx359_0⟩ := Kd.at_int HR358_0.out x16_6 p359 q359
                                                                  have hw359_0 := hx359_0
                                                                  cases e359
                                                                  replace hx359_0 := (HB.out.cell (World.block_lt_of_cell? w _ hx359_0)).trans hx359_0
                                                                  replace p359 := eq_true p359
                                                                  replace q359 := eq_true q359
                                                                  have p360 : 0 ≤ (x13_3 : Int) := of_decide_eq_true (by first | (with_reducible assumption) | assumption)
                                                                  have q360 : x13_3 < (l4.length : Int) := of_decide_eq_true (by first | (with_reducible assumption) | assumption)
                                                                  obtain ⟨ad360, A360_0, c360_0, e360, hx360_0, hl360_0, hi360_0⟩ := at_L5 HR4.out x13_3 p360 q360
                                                                  have hw360_0 := hx360_0
                                                                  obtain rfl : ad347 = ad360 := (by injection e360)
                                                                  replace hx360_0 := (HB.out.cell (World.block_lt_of_cell? w _ hx360_0)).trans hx360_0
                                                                  have HR360_0 := Aside0.mk hi360_0
                                                                  have HC360_0 := Aside0.mk hl360_0
                                                                  clear hi360_0 hl360_0
                                                                  replace p360 := eq_true p360
                                                                  replace q360 := eq_true q360
                                                                  have ea_ := Option.some.inj (hx356_0.symm.trans hx360_0)
                                                                  injection ea_ with ea_ en_ ec_
                                                                  subst ea_
                                                                  subst ec_
                                                                  clear en_
                                                                  have p361 : 0 ≤ ((ji55) : Int) := of_decide_eq_true (by first | (with_reducible assumption) | assumption)
                                                                  have q361 : (ji55) < ((rd_L5 l4 x13_3).length : Int) := of_decide_eq_true (by first | (with_reducible assumption) | assumption)
                                                                  obtain ⟨ad361, e361, hx361_0⟩ := Kd.at_int HR360_0.out (ji55) p361 q361
                                                                  have hw361_0 := hx361_0
                                                                  cases e361
                                                                  replace hx361_0 := (HB.out.cell (World.block_lt_of_cell? w _ hx361_0)).trans hx361_0
                                                                  replace p361 := eq_true p361
                                                                  replace q361 := eq_true q361
                                                                  refine start_ (n := 27) (S := fun w' => w'.cell? (ad347.add (x13_3).toNat) = some (.slice (some ad357) (rd_L5 l4 x13_3).length c356_0) ∧ w'.cell? (ad357.add (x14_4).toNat) = some (.int .i64 (rd (rd_L5 l4 x13_3) x14_4)) ∧ w'.cell? (ad347.add (x13_3).toNat) = some (.slice (some ad357) (rd_L5 l4 x13_3).length c356_0) ∧ w'.cell? (ad357.add (x16_6).toNat) = some (.int .i64 (rd (rd_L5 l4 x13_3) x16_6)) ∧ w'.cell? (ad347.add (x13_3).toNat) = some (.slice (some ad357) (rd_L5 l4 x13_3).length c356_0) ∧ w'.cell? (ad357.add ((ji55)).toNat) = some (.int .i64 (rd (rd_L5 l4 x13_3) (ji55)))) (ds := []) #[false, false, false, false, false, false, false, false, false, false, false, false, false, false, false, false, false, false, false, false, false, false, false, false, false, false, false] (by kernel_rfl) rfl rfl ⟨((HB.out.cell (World.block_lt_of_cell? w _ hw356_0)).trans hw356_0), ((HB.out.cell (World.block_lt_of_cell? w _ hw357_0)).trans hw357_0), ((HB.out.cell (World.block_lt_of_cell? w _ hw358_0)).trans hw358_0), ((HB.out.cell (World.block_lt_of_cell? w _ hw359_0)).trans hw359_0), ((HB.out.cell (World.block_lt_of_cell? w _ hw360_0)).trans hw360_0), ((HB.out.cell (World.block_lt_of_cell? w _ hw361_0)).trans hw361_0)⟩ (fun hHeld => ?_); refine with_tabW gangsawref25_Proves.tab29 gangsawref25_Proves.bits29 (fun HT_ HW_ => ?_)
                                                                  generalize wr.drew = w59 at HB HR356_0 HR358_0 HR360_0 hx356_0 hx357_0 hx358_0 hx359_0 hx360_0 hx361_0 hHeld ⊢
                                                                  refine pure_ (i := 0) (N := some 129) (v := ?_) (a' := ?_) #[true, false, false, false, false, false, false, false, false, false, false, false, false, false, false, false, false, false, false, false, false, false, false, false, false, false, false] rfl rfl (any_of HT_.out (by kernel_rfl)) (fun _ _ _ h => h) (Or.inl ⟨by rfl, ?_⟩) ?_ ?_
                                                                  rotate_left
                                                                  · intro w'
                                                                    go_simp
                                                                    with_reducible rfl
                                                                  rotate_left
                                                                  · simp only [Act.put, List.setIfInBounds_toArray, List.set_cons_zero, List.set_cons_succ, i64_w, i32_w]
                                                                    rfl
                                                                  refine pure_ (i := 1) (N := some 130) (v := ?_) (a' := ?_) #[true, true, false, false, false, false, false, false, false, false, false, false, false, false, false, false, false, false, false, false, false, false, false, false, false, false, false] rfl rfl (any_of HT_.out (by kernel_rfl)) (fun _ _ _ h => h) (Or.inl ⟨by rfl, ?_⟩) ?_ ?_
                                                                  rotate_left
                                                                  · intro w'
                                                                    go_simp
                                                                    with_reducible rfl
                                                                  rotate_left
                                                                  · simp only [Act.put, List.setIfInBounds_toArray, List.set_cons_zero, List.set_cons_succ, i64_w, i32_w]
                                                                    rfl
                                                                  refine pure_ (i := 2) (N := some 131) (v := ?_) (a' := ?_) #[true, true, true, false, false, false, false, false, false, false, false, false, false, false, false, false, false, false, false, false, false, false, false, false, false, false, false] rfl rfl (any_of HT_.out (by kernel_rfl)) (fun _ _ _ h => h) (Or.inl ⟨by rfl, ?_⟩) ?_ ?_
                                                                  rotate_left
                                                                  · intro w'
                                                                    go_simp
                                                                    with_reducible rfl
                                                                  rotate_left
                                                                  · simp only [Act.put, List.setIfInBounds_toArray, List.set_cons_zero, List.set_cons_succ, i64_w, i32_w]
                                                                    rfl
                                                                  refine pure_ (i := 4) (N := some 133) (v := ?_) (a' := ?_) #[true, true, true, false, true, false, false, false, false, false, false, false, false, false, false, false, false, false, false, false, false, false, false, false, false, false, false] rfl rfl (any_of HT_.out (by kernel_rfl)) (fun _ _ _ h => h) (Or.inl ⟨by rfl, ?_⟩) ?_ ?_
                                                                  rotate_left
                                                                  · intro w'
                                                                    go_simp
                                                                    with_reducible rfl
                                                                  rotate_left
                                                                  · simp only [Act.put, List.setIfInBounds_toArray, List.set_cons_zero, List.set_cons_succ, i64_w, i32_w]
                                                                    rfl
                                                                  refine pure_ (i := 7) (N := some 136) (v := ?_) (a' := ?_) #[true, true, true, false, true, false, false, true, false, false, false, false, false, false, false, false, false, false, false, false, false, false, false, false, false, false, false] rfl rfl (any_of HT_.out (by kernel_rfl)) (fun _ _ _ h => h) (Or.inl ⟨by rfl, ?_⟩) ?_ ?_
                                                                  rotate_left
                                                                  · intro w'
                                                                    go_simp
                                                                    with_reducible rfl
                                                                  rotate_left
                                                                  · simp only [Act.put, List.setIfInBounds_toArray, List.set_cons_zero, List.set_cons_succ, i64_w, i32_w]
                                                                    rfl
                                                                  refine pure_ (i := 8) (N := some 137) (v := ?_) (a' := ?_) #[true, true, true, false, true, false, false, true, true, false, false, false, false, false, false, false, false, false, false, false, false, false, false, false, false, false, false] rfl rfl (any_of HT_.out (by kernel_rfl)) (fun _ _ _ h => h) (Or.inl ⟨by rfl, ?_⟩) ?_ ?_
                                                                  rotate_left
                                                                  · intro w'
                                                                    go_simp
                                                                    with_reducible rfl
                                                                  rotate_left
                                                                  · simp only [Act.put, List.setIfInBounds_toArray, List.set_cons_zero, List.set_cons_succ, i64_w, i32_w]
                                                                    rfl
                                                                  refine pure_ (i := 9) (N := some 138) (v := ?_) (a' := ?_) #[true, true, true, false, true, false, false, true, true, true, false, false, false, false, false, false, false, false, false, false, false, false, false, false, false, false, false] rfl rfl (any_of HT_.out (by kernel_rfl)) (fun _ _ _ h => h) (Or.inl ⟨by rfl, ?_⟩) ?_ ?_
                                                                  rotate_left
                                                                  · intro w'
                                                                    go_simp
                                                                    with_reducible rfl
                                                                  rotate_left
                                                                  · simp only [Act.put, List.setIfInBounds_toArray, List.set_cons_zero, List.set_cons_succ, i64_w, i32_w]
                                                                    rfl
                                                                  refine pure_ (i := 11) (N := some 140) (v := ?_) (a' := ?_) #[true, true, true, false, true, false, false, true, true, true, false, true, false, false, false, false, false, false, false, false, false, false, false, false, false, false, false] rfl rfl (any_of HT_.out (by kernel_rfl)) (fun _ _ _ h => h) (Or.inl ⟨by rfl, ?_⟩) ?_ ?_
                                                                  rotate_left
                                                                  · intro w'
                                                                    go_simp
                                                                    with_reducible rfl
                                                                  rotate_left
                                                                  · simp only [Act.put, List.setIfInBounds_toArray, List.set_cons_zero, List.set_cons_succ, i64_w, i32_w]
                                                                    rfl
                                                                  refine pure_ (i := 14) (N := some 143) (v := ?_) (a' := ?_) #[true, true, true, false, true, false, false, true, true, true, false, true, false, false, true, false, false, false, false, false, false, false, false, false, false, false, false] rfl rfl (any_of HT_.out (by kernel_rfl)) (fun _ _ _ h => h) (Or.inl ⟨by rfl, ?_⟩) ?_ ?_
                                                                  rotate_left
                                                                  · intro w'
                                                                    go_simp
                                                                    with_reducible rfl
                                                                  rotate_left
                                                                  · simp only [Act.put, List.setIfInBounds_toArray, List.set_cons_zero, List.set_cons_succ, i64_w, i32_w]
                                                                    rfl
                                                                  refine pure_ (i := 15) (N := some 144) (v := ?_) (a' := ?_) #[true, true, true, false, true, false, false, true, true, true, false, true, false, false, true, true, false, false, false, false, false, false, false, false, false, false, false] rfl rfl (any_of HT_.out (by kernel_rfl)) (fun _ _ _ h => h) (Or.inl ⟨by rfl, ?_⟩) ?_ ?_
                                                                  rotate_left
                                                                  · intro w'
                                                                    go_simp
                                                                    with_reducible rfl
                                                                  rotate_left
                                                                  · simp only [Act.put, List.setIfInBounds_toArray, List.set_cons_zero, List.set_cons_succ, i64_w, i32_w]
                                                                    rfl
                                                                  refine pure_ (i := 16) (N := some 145) (v := ?_) (a' := ?_) #[true, true, true, false, true, false, false, true, true, true, false, true, false, false, true, true, true, false, false, false, false, false, false, false, false, false, false] rfl rfl (any_of HT_.out (by kernel_rfl)) (fun _ _ _ h => h) (Or.inl ⟨by rfl, ?_⟩) ?_ ?_
                                                                  rotate_left
                                                                  · intro w'
                                                                    go_simp
                                                                    with_reducible rfl
                                                                  rotate_left
                                                                  · simp only [Act.put, List.setIfInBounds_toArray, List.set_cons_zero, List.set_cons_succ, i64_w, i32_w]
                                                                    rfl
                                                                  refine pure_ (i := 18) (N := some 147) (v := ?_) (a' := ?_) #[true, true, true, false, true, false, false, true, true, true, false, true, false, false, true, true, true, false, true, false, false, false, false, false, false, false, false] rfl rfl (any_of HT_.out (by kernel_rfl)) (fun _ _ _ h => h) (Or.inl ⟨by rfl, ?_⟩) ?_ ?_
                                                                  rotate_left
                                                                  · intro w'
                                                                    go_simp
                                                                    with_reducible rfl
                                                                  rotate_left
                                                                  · simp only [Act.put, List.setIfInBounds_toArray, List.set_cons_zero, List.set_cons_succ, i64_w, i32_w]
                                                                    rfl
                                                                  refine pure_ (i := 19) (N := some 148) (v := ?_) (a' := ?_) #[true, true, true, false, true, false, false, true, true, true, false, true, false, false, true, true, true, false, true, true, false, false, false, false, false, false, false] rfl rfl (any_of HT_.out (by kernel_rfl)) (fun _ _ _ h => h) (Or.inl ⟨by rfl, ?_⟩) ?_ ?_
                                                                  rotate_left
                                                                  · intro w'
                                                                    go_simp
                                                                    with_reducible rfl
                                                                  rotate_left
                                                                  · simp only [Act.put, List.setIfInBounds_toArray, List.set_cons_zero, List.set_cons_succ, i64_w, i32_w]
                                                                    rfl
                                                                  refine pure_ (i := 20) (N := some 149) (v := ?_) (a' := ?_) #[true, true, true, false, true, false, false, true, true, true, false, true, false, false, true, true, true, false, true, true, true, false, false, false, false, false, false] rfl rfl (any_of HT_.out (by kernel_rfl)) (fun _ _ _ h => h) (Or.inl ⟨by rfl, ?_⟩) ?_ ?_
                                                                  rotate_left
                                                                  · intro w'
                                                                    go_simp
                                                                    with_reducible rfl
                                                                  rotate_left
                                                                  · simp only [Act.put, List.setIfInBounds_toArray, List.set_cons_zero, List.set_cons_succ, i64_w, i32_w]
                                                                    rfl
                                                                  refine pure_ (i := 21) (N := some 150) (v := ?_) (a' := ?_) #[true, true, true, false, true, false, false, true, true, true, false, true, false, false, true, true, true, false, true, true, true, true, false, false, false, false, false] rfl rfl (any_of HT_.out (by kernel_rfl)) (fun _ _ _ h => h) (Or.inl ⟨by rfl, ?_⟩) ?_ ?_
                                                                  rotate_left
                                                                  · intro w'
                                                                    go_simp
                                                                    with_reducible rfl
                                                                  rotate_left
                                                                  · simp only [Act.put, List.setIfInBounds_toArray, List.set_cons_zero, List.set_cons_succ, i64_w, i32_w]
                                                                    rfl
                                                                  refine pure_ (i := 22) (N := some 151) (v := ?_) (a' := ?_) #[true, true, true, false, true, false, false, true, true, true, false, true, false, false, true, true, true, false, true, true, true, true, true, false, false, false, false] rfl rfl (any_of HT_.out (by kernel_rfl)) (fun _ _ _ h => h) (Or.inl ⟨by rfl, ?_⟩) ?_ ?_
                                                                  rotate_left
                                                                  · intro w'
                                                                    go_simp
                                                                    with_reducible rfl
                                                                  rotate_left
                                                                  · simp only [Act.put, List.setIfInBounds_toArray, List.set_cons_zero, List.set_cons_succ, i64_w, i32_w]
                                                                    rfl
                                                                  refine take_ (i := 3) (N := some 132) (v := ?_) (a' := ?_) #[true, true, true, true, true, false, false, true, true, true, false, true, false, false, true, true, true, false, true, true, true, true, true, false, false, false, false] rfl rfl (take_ofW HT_.out HW_.out (by kernel_rfl)) (fun _ _ _ h => h) (Or.inl ⟨by rfl, ?_⟩) hHeld ?_ ?_
                                                                  rotate_left
                                                                  · rintro w' ⟨s0, s1, s2, s3, s4, s5⟩
                                                                    go_simp
                                                                    with_reducible rfl
                                                                  rotate_left
                                                                  · simp only [Act.put, List.setIfInBounds_toArray, List.set_cons_zero, List.set_cons_succ, i64_w, i32_w]
                                                                    rfl
                                                                  refine pure_ (i := 5) (N := some 134) (v := ?_) (a' := ?_) #[true, true, true, true, true, true, false, true, true, true, false, true, false, false, true, true, true, false, true, true, true, true, true, false, false, false, false] rfl rfl (any_of HT_.out (by kernel_rfl)) (fun _ _ _ h => h) (Or.inl ⟨by rfl, ?_⟩) ?_ ?_
                                                                  rotate_left
                                                                  · intro w'
                                                                    go_simp
                                                                    with_reducible rfl
                                                                  rotate_left
                                                                  · simp only [Act.put, List.setIfInBounds_toArray, List.set_cons_zero, List.set_cons_succ, i64_w, i32_w]
                                                                    rfl
                                                                  refine take_ (i := 6) (N := some 135) (v := ?_) (a' := ?_) #[true, true, true, true, true, true, true, true, true, true, false, true, false, false, true, true, true, false, true, true, true, true, true, false, false, false, false] rfl rfl (take_ofW HT_.out HW_.out (by kernel_rfl)) (fun _ _ _ h => h) (Or.inl ⟨by rfl, ?_⟩) hHeld ?_ ?_
                                                                  rotate_left
                                                                  · rintro w' ⟨s0, s1, s2, s3, s4, s5⟩
                                                                    go_simp
                                                                    with_reducible rfl
                                                                  rotate_left
                                                                  · simp only [Act.put, List.setIfInBounds_toArray, List.set_cons_zero, List.set_cons_succ, i64_w, i32_w]
                                                                    rfl
                                                                  refine take_ (i := 10) (N := some 139) (v := ?_) (a' := ?_) #[true, true, true, true, true, true, true, true, true, true, true, true, false, false, true, true, true, false, true, true, true, true, true, false, false, false, false] rfl rfl (take_ofW HT_.out HW_.out (by kernel_rfl)) (fun _ _ _ h => h) (Or.inl ⟨by rfl, ?_⟩) hHeld ?_ ?_
                                                                  rotate_left
                                                                  · rintro w' ⟨s0, s1, s2, s3, s4, s5⟩
                                                                    go_simp
                                                                    with_reducible rfl
                                                                  rotate_left
                                                                  · simp only [Act.put, List.setIfInBounds_toArray, List.set_cons_zero, List.set_cons_succ, i64_w, i32_w]
                                                                    rfl
                                                                  refine pure_ (i := 12) (N := some 141) (v := ?_) (a' := ?_) #[true, true, true, true, true, true, true, true, true, true, true, true, true, false, true, true, true, false, true, true, true, true, true, false, false, false, false] rfl rfl (any_of HT_.out (by kernel_rfl)) (fun _ _ _ h => h) (Or.inl ⟨by rfl, ?_⟩) ?_ ?_
                                                                  rotate_left
                                                                  · intro w'
                                                                    go_simp
                                                                    with_reducible rfl
                                                                  rotate_left
                                                                  · simp only [Act.put, List.setIfInBounds_toArray, List.set_cons_zero, List.set_cons_succ, i64_w, i32_w]
                                                                    rfl
                                                                  refine take_ (i := 13) (N := some 142) (v := ?_) (a' := ?_) #[true, true, true, true, true, true, true, true, true, true, true, true, true, true, true, true, true, false, true, true, true, true, true, false, false, false, false] rfl rfl (take_ofW HT_.out HW_.out (by kernel_rfl)) (fun _ _ _ h => h) (Or.inl ⟨by rfl, ?_⟩) hHeld ?_ ?_
                                                                  rotate_left
                                                                  · rintro w' ⟨s0, s1, s2, s3, s4, s5⟩
                                                                    go_simp
                                                                    with_reducible rfl
                                                                  rotate_left
                                                                  · simp only [Act.put, List.setIfInBounds_toArray, List.set_cons_zero, List.set_cons_succ, i64_w, i32_w]
                                                                    rfl
                                                                  refine take_ (i := 17) (N := some 146) (v := ?_) (a' := ?_) #[true, true, true, true, true, true, true, true, true, true, true, true, true, true, true, true, true, true, true, true, true, true, true, false, false, false, false] rfl rfl (take_ofW HT_.out HW_.out (by kernel_rfl)) (fun _ _ _ h => h) (Or.inl ⟨by rfl, ?_⟩) hHeld ?_ ?_
                                                                  rotate_left
                                                                  · rintro w' ⟨s0, s1, s2, s3, s4, s5⟩
                                                                    go_simp
                                                                    with_reducible rfl
                                                                  rotate_left
                                                                  · simp only [Act.put, List.setIfInBounds_toArray, List.set_cons_zero, List.set_cons_succ, i64_w, i32_w]
                                                                    rfl
                                                                  refine pure_ (i := 23) (N := some 152) (v := ?_) (a' := ?_) #[true, true, true, true, true, true, true, true, true, true, true, true, true, true, true, true, true, true, true, true, true, true, true, true, false, false, false] rfl rfl (any_of HT_.out (by kernel_rfl)) (fun _ _ _ h => h) (Or.inl ⟨by rfl, ?_⟩) ?_ ?_
                                                                  rotate_left
                                                                  · intro w'
                                                                    go_simp
                                                                    with_reducible rfl
                                                                  rotate_left
                                                                  · simp only [Act.put, List.setIfInBounds_toArray, List.set_cons_zero, List.set_cons_succ, i64_w, i32_w]
                                                                    rfl
                                                                  refine take_ (i := 24) (N := some 153) (v := ?_) (a' := ?_) #[true, true, true, true, true, true, true, true, true, true, true, true, true, true, true, true, true, true, true, true, true, true, true, true, true, false, false] rfl rfl (take_ofW HT_.out HW_.out (by kernel_rfl)) (fun _ _ _ h => h) (Or.inl ⟨by rfl, ?_⟩) hHeld ?_ ?_
                                                                  rotate_left
                                                                  · rintro w' ⟨s0, s1, s2, s3, s4, s5⟩
                                                                    go_simp
                                                                    with_reducible rfl
                                                                  rotate_left
                                                                  · simp only [Act.put, List.setIfInBounds_toArray, List.set_cons_zero, List.set_cons_succ, i64_w, i32_w]
                                                                    rfl
                                                                  refine pure_ (i := 25) (N := some 154) (v := ?_) (a' := ?_) #[true, true, true, true, true, true, true, true, true, true, true, true, true, true, true, true, true, true, true, true, true, true, true, true, true, true, false] rfl rfl (any_of HT_.out (by kernel_rfl)) (fun _ _ _ h => h) (Or.inl ⟨by rfl, ?_⟩) ?_ ?_
                                                                  rotate_left
                                                                  · intro w'
                                                                    go_simp
                                                                    with_reducible rfl
                                                                  rotate_left
                                                                  · simp only [Act.put, List.setIfInBounds_toArray, List.set_cons_zero, List.set_cons_succ, i64_w, i32_w]
                                                                    rfl
                                                                  refine pure_ (i := 26) (N := some 155) (v := ?_) (a' := ?_) #[true, true, true, true, true, true, true, true, true, true, true, true, true, true, true, true, true, true, true, true, true, true, true, true, true, true, true] rfl rfl (any_of HT_.out (by kernel_rfl)) (fun _ _ _ h => h) (Or.inl ⟨by rfl, ?_⟩) ?_ ?_
                                                                  rotate_left
                                                                  · intro w'
                                                                    go_simp
                                                                    with_reducible rfl
                                                                  rotate_left
                                                                  · simp only [Act.put, List.setIfInBounds_toArray, List.set_cons_zero, List.set_cons_succ, i64_w, i32_w]
                                                                    rfl
                                                                  refine done_ (done_of HT_.out (by kernel_rfl)) ?_
                                                                  try go_wp2
                                                                  go_ret
                                                                  exact ⟨by first | rfl | (simp [errW_none, errW_some] <;> rfl) | (simp only [← hji55]; first | rfl | (simp [errW_none, errW_some] <;> rfl)) | (simp [*, errW_none, errW_some] <;> rfl), by repeat (first | (with_reducible first | exact HB.out | apply below_alloc | apply pw_below_drewN | apply below_drew1) | exact HB.out)⟩
                                                                · rw [if_neg c58] at H
                                                                  have c58b0 : decide ((rd (rd_L5 l4 x13_3) x14_4) < (wrap64 ((rd (rd_L5 l4 x13_3) x16_6) + (rd (rd_L5 l4 x13_3) (ji55))))) = false := decide_eq_false c58
                                                                  clear c58
                                                                  have H' := Aside0.mk H
                                                                  clear H
                                                                  try go_wp2
                                                                  have n0_ := Aside0.mk (below_drew1 HB.out)
                                                                  clear HB
                                                                  have HB := n0_
                                                                  clear n0_
                                                                  have p356 : 0 ≤ (x13_3 : Int) := of_decide_eq_true (by first | (with_reducible assumption) | assumption)
                                                                  have q356 : x13_3 < (l4.length : Int) := of_decide_eq_true (by first | (with_reducible assumption) | assumption)
                                                                  obtain ⟨ad356, A356_0, c356_0, e356, hx356_0, hl356_0, hi356_0⟩ := at_L5 HR4.out x13_3 p356 q356
                                                                  have hw356_0 := hx356_0
                                                                  obtain rfl : ad347 = ad356 := (by injection e356)
                                                                  replace hx356_0 := (HB.out.cell (World.block_lt_of_cell? w _ hx356_0)).trans hx356_0
                                                                  have HR356_0 := Aside0.mk hi356_0
                                                                  have HC356_0 := Aside0.mk hl356_0
                                                                  clear hi356_0 hl356_0
                                                                  replace p356 := eq_true p356
                                                                  replace q356 := eq_true q356
                                                                  have p357 : 0 ≤ (x14_4 : Int) := of_decide_eq_true (by first | (with_reducible assumption) | assumption)
                                                                  have q357 : x14_4 < ((rd_L5 l4 x13_3).length : Int) := of_decide_eq_true (by first | (with_reducible assumption) | assumption)
                                                                  obtain ⟨ad357, e357, hx357_0⟩ := Kd.at_int HR356_0.out x14_4 p357 q357
                                                                  have hw357_0 := hx357_0
                                                                  cases e357
                                                                  replace hx357_0 := (HB.out.cell (World.block_lt_of_cell? w _ hx357_0)).trans hx357_0
                                                                  replace p357 := eq_true p357
                                                                  replace q357 := eq_true q357
                                                                  have p358 : 0 ≤ (x13_3 : Int) := of_decide_eq_true (by first | (with_reducible assumption) | assumption)
                                                                  have q358 : x13_3 < (l4.length : Int) := of_decide_eq_true (by first | (with_reducible assumption) | assumption)
                                                                  obtain ⟨ad358, A358_0, c358_0, e358, hx358_0, hl358_0, hi358_0⟩ := at_L5 HR4.out x13_3 p358 q358
                                                                  have hw358_0 := hx358_0
                                                                  obtain rfl : ad347 = ad358 := (by injection e358)
                                                                  replace hx358_0 := (HB.out.cell (World.block_lt_of_cell? w _ hx358_0)).trans hx358_0
                                                                  have HR358_0 := Aside0.mk hi358_0
                                                                  have HC358_0 := Aside0.mk hl358_0
                                                                  clear hi358_0 hl358_0
                                                                  replace p358 := eq_true p358
                                                                  replace q358 := eq_true q358
                                                                  have ea_ := Option.some.inj (hx356_0.symm.trans hx358_0)
                                                                  injection ea_ with ea_ en_ ec_
                                                                  subst ea_
                                                                  subst ec_
                                                                  clear en_
                                                                  have p359 : 0 ≤ (x16_6 : Int) := of_decide_eq_true (by first | (with_reducible assumption) | assumption)
                                                                  have q359 : x16_6 < ((rd_L5 l4 x13_3).length : Int) := of_decide_eq_true (by first | (with_reducible assumption) | assumption)
                                                                  obtain ⟨ad359, e359, hx359_0⟩ := Kd.at_int HR358_0.out x16_6 p359 q359
                                                                  have hw359_0 := hx359_0
                                                                  cases e359
                                                                  replace hx359_0 := (HB.out.cell (World.block_lt_of_cell? w _ hx359_0)).trans hx359_0
                                                                  replace p359 := eq_true p359
                                                                  replace q359 := eq_true q359
                                                                  have p360 : 0 ≤ (x13_3 : Int) := of_decide_eq_true (by first | (with_reducible assumption) | assumption)
                                                                  have q360 : x13_3 < (l4.length : Int) := of_decide_eq_true (by first | (with_reducible assumption) | assumption)
                                                                  obtain ⟨ad360, A360_0, c360_0, e360, hx360_0, hl360_0, hi360_0⟩ := at_L5 HR4.out x13_3 p360 q360
                                                                  have hw360_0 := hx360_0
                                                                  obtain rfl : ad347 = ad360 := (by injection e360)
                                                                  replace hx360_0 := (HB.out.cell (World.block_lt_of_cell? w _ hx360_0)).trans hx360_0
                                                                  have HR360_0 := Aside0.mk hi360_0
                                                                  have HC360_0 := Aside0.mk hl360_0
                                                                  clear hi360_0 hl360_0
                                                                  replace p360 := eq_true p360
                                                                  replace q360 := eq_true q360
                                                                  have ea_ := Option.some.inj (hx356_0.symm.trans hx360_0)
                                                                  injection ea_ with ea_ en_ ec_
                                                                  subst ea_
                                                                  subst ec_
                                                                  clear en_
                                                                  have p361 : 0 ≤ ((ji55) : Int) := of_decide_eq_true (by first | (with_reducible assumption) | assumption)
                                                                  have q361 : (ji55) < ((rd_L5 l4 x13_3).length : Int) := of_decide_eq_true (by first | (with_reducible assumption) | assumption)
                                                                  obtain ⟨ad361, e361, hx361_0⟩ := Kd.at_int HR360_0.out (ji55) p361 q361
                                                                  have hw361_0 := hx361_0
                                                                  cases e361
                                                                  replace hx361_0 := (HB.out.cell (World.block_lt_of_cell? w _ hx361_0)).trans hx361_0
                                                                  replace p361 := eq_true p361
                                                                  replace q361 := eq_true q361
                                                                  refine start_ (n := 27) (S := fun w' => w'.cell? (ad347.add (x13_3).toNat) = some (.slice (some ad357) (rd_L5 l4 x13_3).length c356_0) ∧ w'.cell? (ad357.add (x14_4).toNat) = some (.int .i64 (rd (rd_L5 l4 x13_3) x14_4)) ∧ w'.cell? (ad347.add (x13_3).toNat) = some (.slice (some ad357) (rd_L5 l4 x13_3).length c356_0) ∧ w'.cell? (ad357.add (x16_6).toNat) = some (.int .i64 (rd (rd_L5 l4 x13_3) x16_6)) ∧ w'.cell? (ad347.add (x13_3).toNat) = some (.slice (some ad357) (rd_L5 l4 x13_3).length c356_0) ∧ w'.cell? (ad357.add ((ji55)).toNat) = some (.int .i64 (rd (rd_L5 l4 x13_3) (ji55)))) (ds := []) #[false, false, false, false, false, false, false, false, false, false, false, false, false, false, false, false, false, false, false, false, false, false, false, false, false, false, false] (by kernel_rfl) rfl rfl ⟨((HB.out.cell (World.block_lt_of_cell? w _ hw356_0)).trans hw356_0), ((HB.out.cell (World.block_lt_of_cell? w _ hw357_0)).trans hw357_0), ((HB.out.cell (World.block_lt_of_cell? w _ hw358_0)).trans hw358_0), ((HB.out.cell (World.block_lt_of_cell? w _ hw359_0)).trans hw359_0), ((HB.out.cell (World.block_lt_of_cell? w _ hw360_0)).trans hw360_0), ((HB.out.cell (World.block_lt_of_cell? w _ hw361_0)).trans hw361_0)⟩ (fun hHeld => ?_); refine with_tabW gangsawref25_Proves.tab29 gangsawref25_Proves.bits29 (fun HT_ HW_ => ?_)
                                                                  generalize wr.drew = w60 at HB HR356_0 HR358_0 HR360_0 hx356_0 hx357_0 hx358_0 hx359_0 hx360_0 hx361_0 hHeld ⊢
                                                                  refine pure_ (i := 0) (N := some 129) (v := ?_) (a' := ?_) #[true, false, false, false, false, false, false, false, false, false, false, false, false, false, false, false, false, false, false, false, false, false, false, false, false, false, false] rfl rfl (any_of HT_.out (by kernel_rfl)) (fun _ _ _ h => h) (Or.inl ⟨by rfl, ?_⟩) ?_ ?_
                                                                  rotate_left
                                                                  · intro w'
                                                                    go_simp
                                                                    with_reducible rfl
                                                                  rotate_left
                                                                  · simp only [Act.put, List.setIfInBounds_toArray, List.set_cons_zero, List.set_cons_succ, i64_w, i32_w]
                                                                    rfl
                                                                  refine pure_ (i := 1) (N := some 130) (v := ?_) (a' := ?_) #[true, true, false, false, false, false, false, false, false, false, false, false, false, false, false, false, false, false, false, false, false, false, false, false, false, false, false] rfl rfl (any_of HT_.out (by kernel_rfl)) (fun _ _ _ h => h) (Or.inl ⟨by rfl, ?_⟩) ?_ ?_
                                                                  rotate_left
                                                                  · intro w'
                                                                    go_simp
                                                                    with_reducible rfl
                                                                  rotate_left
                                                                  · simp only [Act.put, List.setIfInBounds_toArray, List.set_cons_zero, List.set_cons_succ, i64_w, i32_w]
                                                                    rfl
                                                                  refine pure_ (i := 2) (N := some 131) (v := ?_) (a' := ?_) #[true, true, true, false, false, false, false, false, false, false, false, false, false, false, false, false, false, false, false, false, false, false, false, false, false, false, false] rfl rfl (any_of HT_.out (by kernel_rfl)) (fun _ _ _ h => h) (Or.inl ⟨by rfl, ?_⟩) ?_ ?_
                                                                  rotate_left
                                                                  · intro w'
                                                                    go_simp
                                                                    with_reducible rfl
                                                                  rotate_left
                                                                  · simp only [Act.put, List.setIfInBounds_toArray, List.set_cons_zero, List.set_cons_succ, i64_w, i32_w]
                                                                    rfl
                                                                  refine pure_ (i := 4) (N := some 133) (v := ?_) (a' := ?_) #[true, true, true, false, true, false, false, false, false, false, false, false, false, false, false, false, false, false, false, false, false, false, false, false, false, false, false] rfl rfl (any_of HT_.out (by kernel_rfl)) (fun _ _ _ h => h) (Or.inl ⟨by rfl, ?_⟩) ?_ ?_
                                                                  rotate_left
                                                                  · intro w'
                                                                    go_simp
                                                                    with_reducible rfl
                                                                  rotate_left
                                                                  · simp only [Act.put, List.setIfInBounds_toArray, List.set_cons_zero, List.set_cons_succ, i64_w, i32_w]
                                                                    rfl
                                                                  refine pure_ (i := 7) (N := some 136) (v := ?_) (a' := ?_) #[true, true, true, false, true, false, false, true, false, false, false, false, false, false, false, false, false, false, false, false, false, false, false, false, false, false, false] rfl rfl (any_of HT_.out (by kernel_rfl)) (fun _ _ _ h => h) (Or.inl ⟨by rfl, ?_⟩) ?_ ?_
                                                                  rotate_left
                                                                  · intro w'
                                                                    go_simp
                                                                    with_reducible rfl
                                                                  rotate_left
                                                                  · simp only [Act.put, List.setIfInBounds_toArray, List.set_cons_zero, List.set_cons_succ, i64_w, i32_w]
                                                                    rfl
                                                                  refine pure_ (i := 8) (N := some 137) (v := ?_) (a' := ?_) #[true, true, true, false, true, false, false, true, true, false, false, false, false, false, false, false, false, false, false, false, false, false, false, false, false, false, false] rfl rfl (any_of HT_.out (by kernel_rfl)) (fun _ _ _ h => h) (Or.inl ⟨by rfl, ?_⟩) ?_ ?_
                                                                  rotate_left
                                                                  · intro w'
                                                                    go_simp
                                                                    with_reducible rfl
                                                                  rotate_left
                                                                  · simp only [Act.put, List.setIfInBounds_toArray, List.set_cons_zero, List.set_cons_succ, i64_w, i32_w]
                                                                    rfl
                                                                  refine pure_ (i := 9) (N := some 138) (v := ?_) (a' := ?_) #[true, true, true, false, true, false, false, true, true, true, false, false, false, false, false, false, false, false, false, false, false, false, false, false, false, false, false] rfl rfl (any_of HT_.out (by kernel_rfl)) (fun _ _ _ h => h) (Or.inl ⟨by rfl, ?_⟩) ?_ ?_
                                                                  rotate_left
                                                                  · intro w'
                                                                    go_simp
                                                                    with_reducible rfl
                                                                  rotate_left
                                                                  · simp only [Act.put, List.setIfInBounds_toArray, List.set_cons_zero, List.set_cons_succ, i64_w, i32_w]
                                                                    rfl
                                                                  refine pure_ (i := 11) (N := some 140) (v := ?_) (a' := ?_) #[true, true, true, false, true, false, false, true, true, true, false, true, false, false, false, false, false, false, false, false, false, false, false, false, false, false, false] rfl rfl (any_of HT_.out (by kernel_rfl)) (fun _ _ _ h => h) (Or.inl ⟨by rfl, ?_⟩) ?_ ?_
                                                                  rotate_left
                                                                  · intro w'
                                                                    go_simp
                                                                    with_reducible rfl
                                                                  rotate_left
                                                                  · simp only [Act.put, List.setIfInBounds_toArray, List.set_cons_zero, List.set_cons_succ, i64_w, i32_w]
                                                                    rfl
                                                                  refine pure_ (i := 14) (N := some 143) (v := ?_) (a' := ?_) #[true, true, true, false, true, false, false, true, true, true, false, true, false, false, true, false, false, false, false, false, false, false, false, false, false, false, false] rfl rfl (any_of HT_.out (by kernel_rfl)) (fun _ _ _ h => h) (Or.inl ⟨by rfl, ?_⟩) ?_ ?_
                                                                  rotate_left
                                                                  · intro w'
                                                                    go_simp
                                                                    with_reducible rfl
                                                                  rotate_left
                                                                  · simp only [Act.put, List.setIfInBounds_toArray, List.set_cons_zero, List.set_cons_succ, i64_w, i32_w]
                                                                    rfl
                                                                  refine pure_ (i := 15) (N := some 144) (v := ?_) (a' := ?_) #[true, true, true, false, true, false, false, true, true, true, false, true, false, false, true, true, false, false, false, false, false, false, false, false, false, false, false] rfl rfl (any_of HT_.out (by kernel_rfl)) (fun _ _ _ h => h) (Or.inl ⟨by rfl, ?_⟩) ?_ ?_
                                                                  rotate_left
                                                                  · intro w'
                                                                    go_simp
                                                                    with_reducible rfl
                                                                  rotate_left
                                                                  · simp only [Act.put, List.setIfInBounds_toArray, List.set_cons_zero, List.set_cons_succ, i64_w, i32_w]
                                                                    rfl
                                                                  refine pure_ (i := 16) (N := some 145) (v := ?_) (a' := ?_) #[true, true, true, false, true, false, false, true, true, true, false, true, false, false, true, true, true, false, false, false, false, false, false, false, false, false, false] rfl rfl (any_of HT_.out (by kernel_rfl)) (fun _ _ _ h => h) (Or.inl ⟨by rfl, ?_⟩) ?_ ?_
                                                                  rotate_left
                                                                  · intro w'
                                                                    go_simp
                                                                    with_reducible rfl
                                                                  rotate_left
                                                                  · simp only [Act.put, List.setIfInBounds_toArray, List.set_cons_zero, List.set_cons_succ, i64_w, i32_w]
                                                                    rfl
                                                                  refine pure_ (i := 18) (N := some 147) (v := ?_) (a' := ?_) #[true, true, true, false, true, false, false, true, true, true, false, true, false, false, true, true, true, false, true, false, false, false, false, false, false, false, false] rfl rfl (any_of HT_.out (by kernel_rfl)) (fun _ _ _ h => h) (Or.inl ⟨by rfl, ?_⟩) ?_ ?_
                                                                  rotate_left
                                                                  · intro w'
                                                                    go_simp
                                                                    with_reducible rfl
                                                                  rotate_left
                                                                  · simp only [Act.put, List.setIfInBounds_toArray, List.set_cons_zero, List.set_cons_succ, i64_w, i32_w]
                                                                    rfl
                                                                  refine pure_ (i := 19) (N := some 148) (v := ?_) (a' := ?_) #[true, true, true, false, true, false, false, true, true, true, false, true, false, false, true, true, true, false, true, true, false, false, false, false, false, false, false] rfl rfl (any_of HT_.out (by kernel_rfl)) (fun _ _ _ h => h) (Or.inl ⟨by rfl, ?_⟩) ?_ ?_
                                                                  rotate_left
                                                                  · intro w'
                                                                    go_simp
                                                                    with_reducible rfl
                                                                  rotate_left
                                                                  · simp only [Act.put, List.setIfInBounds_toArray, List.set_cons_zero, List.set_cons_succ, i64_w, i32_w]
                                                                    rfl
                                                                  refine pure_ (i := 20) (N := some 149) (v := ?_) (a' := ?_) #[true, true, true, false, true, false, false, true, true, true, false, true, false, false, true, true, true, false, true, true, true, false, false, false, false, false, false] rfl rfl (any_of HT_.out (by kernel_rfl)) (fun _ _ _ h => h) (Or.inl ⟨by rfl, ?_⟩) ?_ ?_
                                                                  rotate_left
                                                                  · intro w'
                                                                    go_simp
                                                                    with_reducible rfl
                                                                  rotate_left
                                                                  · simp only [Act.put, List.setIfInBounds_toArray, List.set_cons_zero, List.set_cons_succ, i64_w, i32_w]
                                                                    rfl
                                                                  refine pure_ (i := 21) (N := some 150) (v := ?_) (a' := ?_) #[true, true, true, false, true, false, false, true, true, true, false, true, false, false, true, true, true, false, true, true, true, true, false, false, false, false, false] rfl rfl (any_of HT_.out (by kernel_rfl)) (fun _ _ _ h => h) (Or.inl ⟨by rfl, ?_⟩) ?_ ?_
                                                                  rotate_left
                                                                  · intro w'
                                                                    go_simp
                                                                    with_reducible rfl
                                                                  rotate_left
                                                                  · simp only [Act.put, List.setIfInBounds_toArray, List.set_cons_zero, List.set_cons_succ, i64_w, i32_w]
                                                                    rfl
                                                                  refine pure_ (i := 22) (N := some 151) (v := ?_) (a' := ?_) #[true, true, true, false, true, false, false, true, true, true, false, true, false, false, true, true, true, false, true, true, true, true, true, false, false, false, false] rfl rfl (any_of HT_.out (by kernel_rfl)) (fun _ _ _ h => h) (Or.inl ⟨by rfl, ?_⟩) ?_ ?_
                                                                  rotate_left
                                                                  · intro w'
                                                                    go_simp
                                                                    with_reducible rfl
                                                                  rotate_left
                                                                  · simp only [Act.put, List.setIfInBounds_toArray, List.set_cons_zero, List.set_cons_succ, i64_w, i32_w]
                                                                    rfl
                                                                  refine take_ (i := 3) (N := some 132) (v := ?_) (a' := ?_) #[true, true, true, true, true, false, false, true, true, true, false, true, false, false, true, true, true, false, true, true, true, true, true, false, false, false, false] rfl rfl (take_ofW HT_.out HW_.out (by kernel_rfl)) (fun _ _ _ h => h) (Or.inl ⟨by rfl, ?_⟩) hHeld ?_ ?_
                                                                  rotate_left
                                                                  · rintro w' ⟨s0, s1, s2, s3, s4, s5⟩
                                                                    go_simp
                                                                    with_reducible rfl
                                                                  rotate_left
                                                                  · simp only [Act.put, List.setIfInBounds_toArray, List.set_cons_zero, List.set_cons_succ, i64_w, i32_w]
                                                                    rfl
                                                                  refine pure_ (i := 5) (N := some 134) (v := ?_) (a' := ?_) #[true, true, true, true, true, true, false, true, true, true, false, true, false, false, true, true, true, false, true, true, true, true, true, false, false, false, false] rfl rfl (any_of HT_.out (by kernel_rfl)) (fun _ _ _ h => h) (Or.inl ⟨by rfl, ?_⟩) ?_ ?_
                                                                  rotate_left
                                                                  · intro w'
                                                                    go_simp
                                                                    with_reducible rfl
                                                                  rotate_left
                                                                  · simp only [Act.put, List.setIfInBounds_toArray, List.set_cons_zero, List.set_cons_succ, i64_w, i32_w]
                                                                    rfl
                                                                  refine take_ (i := 6) (N := some 135) (v := ?_) (a' := ?_) #[true, true, true, true, true, true, true, true, true, true, false, true, false, false, true, true, true, false, true, true, true, true, true, false, false, false, false] rfl rfl (take_ofW HT_.out HW_.out (by kernel_rfl)) (fun _ _ _ h => h) (Or.inl ⟨by rfl, ?_⟩) hHeld ?_ ?_
                                                                  rotate_left
                                                                  · rintro w' ⟨s0, s1, s2, s3, s4, s5⟩
                                                                    go_simp
                                                                    with_reducible rfl
                                                                  rotate_left
                                                                  · simp only [Act.put, List.setIfInBounds_toArray, List.set_cons_zero, List.set_cons_succ, i64_w, i32_w]
                                                                    rfl
                                                                  refine take_ (i := 10) (N := some 139) (v := ?_) (a' := ?_) #[true, true, true, true, true, true, true, true, true, true, true, true, false, false, true, true, true, false, true, true, true, true, true, false, false, false, false] rfl rfl (take_ofW HT_.out HW_.out (by kernel_rfl)) (fun _ _ _ h => h) (Or.inl ⟨by rfl, ?_⟩) hHeld ?_ ?_
                                                                  rotate_left
                                                                  · rintro w' ⟨s0, s1, s2, s3, s4, s5⟩
                                                                    go_simp
                                                                    with_reducible rfl
                                                                  rotate_left
                                                                  · simp only [Act.put, List.setIfInBounds_toArray, List.set_cons_zero, List.set_cons_succ, i64_w, i32_w]
                                                                    rfl
                                                                  refine pure_ (i := 12) (N := some 141) (v := ?_) (a' := ?_) #[true, true, true, true, true, true, true, true, true, true, true, true, true, false, true, true, true, false, true, true, true, true, true, false, false, false, false] rfl rfl (any_of HT_.out (by kernel_rfl)) (fun _ _ _ h => h) (Or.inl ⟨by rfl, ?_⟩) ?_ ?_
                                                                  rotate_left
                                                                  · intro w'
                                                                    go_simp
                                                                    with_reducible rfl
                                                                  rotate_left
                                                                  · simp only [Act.put, List.setIfInBounds_toArray, List.set_cons_zero, List.set_cons_succ, i64_w, i32_w]
                                                                    rfl
                                                                  refine take_ (i := 13) (N := some 142) (v := ?_) (a' := ?_) #[true, true, true, true, true, true, true, true, true, true, true, true, true, true, true, true, true, false, true, true, true, true, true, false, false, false, false] rfl rfl (take_ofW HT_.out HW_.out (by kernel_rfl)) (fun _ _ _ h => h) (Or.inl ⟨by rfl, ?_⟩) hHeld ?_ ?_
                                                                  rotate_left
                                                                  · rintro w' ⟨s0, s1, s2, s3, s4, s5⟩
                                                                    go_simp
                                                                    with_reducible rfl
                                                                  rotate_left
                                                                  · simp only [Act.put, List.setIfInBounds_toArray, List.set_cons_zero, List.set_cons_succ, i64_w, i32_w]
                                                                    rfl
                                                                  refine take_ (i := 17) (N := some 146) (v := ?_) (a' := ?_) #[true, true, true, true, true, true, true, true, true, true, true, true, true, true, true, true, true, true, true, true, true, true, true, false, false, false, false] rfl rfl (take_ofW HT_.out HW_.out (by kernel_rfl)) (fun _ _ _ h => h) (Or.inl ⟨by rfl, ?_⟩) hHeld ?_ ?_
                                                                  rotate_left
                                                                  · rintro w' ⟨s0, s1, s2, s3, s4, s5⟩
                                                                    go_simp
                                                                    with_reducible rfl
                                                                  rotate_left
                                                                  · simp only [Act.put, List.setIfInBounds_toArray, List.set_cons_zero, List.set_cons_succ, i64_w, i32_w]
                                                                    rfl
                                                                  refine pure_ (i := 23) (N := some 152) (v := ?_) (a' := ?_) #[true, true, true, true, true, true, true, true, true, true, true, true, true, true, true, true, true, true, true, true, true, true, true, true, false, false, false] rfl rfl (any_of HT_.out (by kernel_rfl)) (fun _ _ _ h => h) (Or.inl ⟨by rfl, ?_⟩) ?_ ?_
                                                                  rotate_left
                                                                  · intro w'
                                                                    go_simp
                                                                    with_reducible rfl
                                                                  rotate_left
                                                                  · simp only [Act.put, List.setIfInBounds_toArray, List.set_cons_zero, List.set_cons_succ, i64_w, i32_w]
                                                                    rfl
                                                                  refine take_ (i := 24) (N := some 153) (v := ?_) (a' := ?_) #[true, true, true, true, true, true, true, true, true, true, true, true, true, true, true, true, true, true, true, true, true, true, true, true, true, false, false] rfl rfl (take_ofW HT_.out HW_.out (by kernel_rfl)) (fun _ _ _ h => h) (Or.inl ⟨by rfl, ?_⟩) hHeld ?_ ?_
                                                                  rotate_left
                                                                  · rintro w' ⟨s0, s1, s2, s3, s4, s5⟩
                                                                    go_simp
                                                                    with_reducible rfl
                                                                  rotate_left
                                                                  · simp only [Act.put, List.setIfInBounds_toArray, List.set_cons_zero, List.set_cons_succ, i64_w, i32_w]
                                                                    rfl
                                                                  refine pure_ (i := 25) (N := some 154) (v := ?_) (a' := ?_) #[true, true, true, true, true, true, true, true, true, true, true, true, true, true, true, true, true, true, true, true, true, true, true, true, true, true, false] rfl rfl (any_of HT_.out (by kernel_rfl)) (fun _ _ _ h => h) (Or.inl ⟨by rfl, ?_⟩) ?_ ?_
                                                                  rotate_left
                                                                  · intro w'
                                                                    go_simp
                                                                    with_reducible rfl
                                                                  rotate_left
                                                                  · simp only [Act.put, List.setIfInBounds_toArray, List.set_cons_zero, List.set_cons_succ, i64_w, i32_w]
                                                                    rfl
                                                                  refine pure_ (i := 26) (N := some 155) (v := ?_) (a' := ?_) #[true, true, true, true, true, true, true, true, true, true, true, true, true, true, true, true, true, true, true, true, true, true, true, true, true, true, true] rfl rfl (any_of HT_.out (by kernel_rfl)) (fun _ _ _ h => h) (Or.inl ⟨by rfl, ?_⟩) ?_ ?_
                                                                  rotate_left
                                                                  · intro w'
                                                                    go_simp
                                                                    with_reducible rfl
                                                                  rotate_left
                                                                  · simp only [Act.put, List.setIfInBounds_toArray, List.set_cons_zero, List.set_cons_succ, i64_w, i32_w]
                                                                    rfl
                                                                  refine done_ (done_of HT_.out (by kernel_rfl)) ?_
                                                                  try go_wp2
                                                                  go_roundg k6
                                                                  case measure => have := HJ5.out; have := HK2.out; have := HK3.out; have := HK4.out; have := HK5.out; have := HK6.out; omega
                                                                  case rel => exact ⟨(wrap64 (x16_6 + 1)), (by first | rfl | (simp; done) | (simp [*]; done)), H', ⟨by have := HJ5.out; have := HK2.out; have := HK3.out; have := HK4.out; have := HK5.out; have := HK6.out; omega⟩, ⟨by repeat (first | (with_reducible first | exact HB.out | apply below_alloc | apply pw_below_drewN | apply below_drew1) | exact HB.out)⟩⟩
                                                              · rw [if_neg c57] at H
                                                                exact absurd H (by simp)
                                                            · rw [if_neg c56] at H
                                                              exact absurd H (by simp)
                                                          · rw [if_neg c54] at H
                                                            exact absurd H (by simp)
                                                        · rw [if_neg c53] at H
                                                          exact absurd H (by simp)
                                                      · rw [if_neg c52] at H
                                                        exact absurd H (by simp)
                                                    · rw [if_neg c51] at H
                                                      exact absurd H (by simp)
                                                  · rw [if_neg c50] at H
                                                    exact absurd H (by simp)
                                                · rw [if_neg c49] at H
                                                  exact absurd H (by simp)
                                              · rw [if_neg c48] at H
                                                have c48b0 : decide ((wrap64 (x16_6 + a3)) < x14_4) = false := decide_eq_false c48
                                                clear c48
                                                have H' := Aside0.mk H
                                                clear H
                                                go_wp2
                                                go_roundg k6
                                                case measure => have := HJ5.out; have := HK2.out; have := HK3.out; have := HK4.out; have := HK5.out; have := HK6.out; omega
                                                case rel => exact ⟨(wrap64 (x14_4 + 1)), (by first | rfl | (simp; done) | (simp [*]; done)), H', ⟨by have := HJ5.out; have := HK2.out; have := HK3.out; have := HK4.out; have := HK5.out; have := HK6.out; omega⟩, ⟨by repeat (first | (with_reducible first | exact HB.out | apply below_alloc | apply pw_below_drewN | apply below_drew1) | exact HB.out)⟩⟩
                                · rw [if_neg c26] at H
                                  exact absurd H (by simp)
                              · rw [if_neg c25] at H
                                exact absurd H (by simp)
                            · rw [if_neg c24] at H
                              exact absurd H (by simp)
                          · rw [if_neg c23] at H
                            exact absurd H (by simp)
                        · rw [if_neg c22] at H
                          have c22b0 : decide (x14_4 ≤ a1) = false := decide_eq_false c22
                          clear c22
                          have H' := Aside0.mk H
                          clear H
                          go_wp2
                          go_roundg k4
                          case measure => have := HJ5.out; have := HK2.out; have := HK3.out; have := HK4.out; omega
                          case rel => exact ⟨(wrap64 (x13_3 + 1)), (by first | rfl | (simp; done) | (simp [*]; done)), H', ⟨by have := HJ5.out; have := HK2.out; have := HK3.out; have := HK4.out; omega⟩, ⟨by repeat (first | (with_reducible first | exact HB.out | apply below_alloc | apply pw_below_drewN | apply below_drew1) | exact HB.out)⟩⟩
                  · rw [if_neg c21] at H
                    have c21b0 : decide (x13_3 ≤ a0) = false := decide_eq_false c21
                    clear c21
                    obtain rfl := Option.some.inj H
                    go_wp2
                    go_ret
                    exact ⟨by first | rfl | (simp [errW_none, errW_some] <;> rfl) | (simp [*, errW_none, errW_some] <;> rfl), by repeat (first | (with_reducible first | exact HB.out | apply below_alloc | apply pw_below_drewN | apply below_drew1) | exact HB.out)⟩

end Go.Proofs.Ytdnjagfbhppmbaa.PA
