import Derived.Test.YtdnjagfbhppmbaaPAx0
namespace Go.Proofs.Ytdnjagfbhppmbaa.PA
open Go.RowKit Go.Proofs.YtdnjagfbhppmbaaW.PrintWords Go.Proofs.YtdnjagfbhppmbaaW.PrintLast Go.Proofs.YtdnjagfbhppmbaaW.PrintMore
attribute [local go_sem] max2_int min2_int max_two min_two max_three min_three max_four min_four
set_option linter.unusedVariables false
set_option linter.unusedSimpArgs false
mutual
def gangsawref25_part.l0 : Nat → List (S59) → List (List Int) → List (S36) → Int → Int → Int → Int → Int → Int → Int → Option ((List (S59)))
 | 0, _, _, _, _, _, _, _, _, _, _ => none
 | k + 1, x0, x1, x2, x3, x4, x5, x6, x7, x17, x18 => if x18 < (x2.length : Int) then (if 0 ≤ x18 then (if ((rd_T36 x2 x18).f1.f0) = x6 then (if ((rd_T36 x2 x18).f1.f1) = x7 then (if ((rd_T36 x2 x18).f2) = x17 then (if x0.length < 2199023255552 then (some (x0 ++ [(⟨1, (rd_T36 x2 x18).f0, 0, 0, 0, 0, 0⟩ : S59)])) else (none)) else (gangsawref25_part.l0 k x0 x1 x2 x3 x4 x5 x6 x7 x17 (wrap64 (x18 + 1)))) else (gangsawref25_part.l0 k x0 x1 x2 x3 x4 x5 x6 x7 x17 (wrap64 (x18 + 1)))) else (gangsawref25_part.l0 k x0 x1 x2 x3 x4 x5 x6 x7 x17 (wrap64 (x18 + 1)))) else (none)) else (gangsawref25_part.l1 k x0 x1 x2 x3 x4 x5 x6 x7 x17 (x0.length : Int) 1)
def gangsawref25_part.l1 : Nat → List (S59) → List (List Int) → List (S36) → Int → Int → Int → Int → Int → Int → Int → Int → Option ((List (S59)))
 | 0, _, _, _, _, _, _, _, _, _, _, _ => none
 | k + 1, x0, x1, x2, x3, x4, x5, x6, x7, x17, x19, x20 => if (wrap64 (x20 + x3)) < x6 then (if 0 ≤ x20 then (if x20 < (x1.length : Int) then (if 0 ≤ x7 then (if x7 < ((rd_L5 x1 x20).length : Int) then (if 0 ≤ (wrap64 ((wrap64 (x6 - x20)) - x3)) then (if (wrap64 ((wrap64 (x6 - x20)) - x3)) < (x1.length : Int) then (if x7 < ((rd_L5 x1 (wrap64 ((wrap64 (x6 - x20)) - x3))).length : Int) then (if (wrap64 ((rd (rd_L5 x1 x20) x7) + (rd (rd_L5 x1 (wrap64 ((wrap64 (x6 - x20)) - x3))) x7))) = x17 then (if x0.length < 2199023255552 then ((gangsawref25_part.f k (x0 ++ [(⟨3, (⟨#[]⟩ : ByteArray), 0, wrap64 (x4 + x20), x3, wrap64 (x19 + 1), 0⟩ : S59)]) x1 x2 x3 x4 x5 x20 x7).bind fun t214 => (if 0 ≤ x19 then (if x19 < (t214.length : Int) then ((gangsawref25_part.f k (t214.set (x19 : Int).toNat (⟨(rd_T59 t214 x19).f0, (rd_T59 t214 x19).f1, (rd_T59 t214 x19).f2, (rd_T59 t214 x19).f3, (rd_T59 t214 x19).f4, (rd_T59 t214 x19).f5, (t214.length : Int)⟩ : S59)) x1 x2 x3 (wrap64 ((wrap64 (x4 + x20)) + x3)) x5 (wrap64 ((wrap64 (x6 - x20)) - x3)) x7).bind fun t218 => (some t218)) else (none)) else (none))) else (none)) else (gangsawref25_part.l1 k x0 x1 x2 x3 x4 x5 x6 x7 x17 x19 (wrap64 (x20 + 1)))) else (none)) else (none)) else (none)) else (none)) else (none)) else (none)) else (none)) else (gangsawref25_part.l2 k x0 x1 x2 x3 x4 x5 x6 x7 x17 x19 1)
def gangsawref25_part.l2 : Nat → List (S59) → List (List Int) → List (S36) → Int → Int → Int → Int → Int → Int → Int → Int → Option ((List (S59)))
 | 0, _, _, _, _, _, _, _, _, _, _, _ => none
 | k + 1, x0, x1, x2, x3, x4, x5, x6, x7, x17, x19, x21 => if (wrap64 (x21 + x3)) < x7 then (if 0 ≤ x6 then (if x6 < (x1.length : Int) then (if 0 ≤ x21 then (if x21 < ((rd_L5 x1 x6).length : Int) then (if 0 ≤ (wrap64 ((wrap64 (x7 - x21)) - x3)) then (if (wrap64 ((wrap64 (x7 - x21)) - x3)) < ((rd_L5 x1 x6).length : Int) then (if (wrap64 ((rd (rd_L5 x1 x6) x21) + (rd (rd_L5 x1 x6) (wrap64 ((wrap64 (x7 - x21)) - x3))))) = x17 then (if x0.length < 2199023255552 then ((gangsawref25_part.f k (x0 ++ [(⟨3, (⟨#[]⟩ : ByteArray), 1, wrap64 (x5 + x21), x3, wrap64 (x19 + 1), 0⟩ : S59)]) x1 x2 x3 x4 x5 x6 x21).bind fun t228 => (if 0 ≤ x19 then (if x19 < (t228.length : Int) then ((gangsawref25_part.f k (t228.set (x19 : Int).toNat (⟨(rd_T59 t228 x19).f0, (rd_T59 t228 x19).f1, (rd_T59 t228 x19).f2, (rd_T59 t228 x19).f3, (rd_T59 t228 x19).f4, (rd_T59 t228 x19).f5, (t228.length : Int)⟩ : S59)) x1 x2 x3 x4 (wrap64 ((wrap64 (x5 + x21)) + x3)) x6 (wrap64 ((wrap64 (x7 - x21)) - x3))).bind fun t232 => (some t232)) else (none)) else (none))) else (none)) else (gangsawref25_part.l2 k x0 x1 x2 x3 x4 x5 x6 x7 x17 x19 (wrap64 (x21 + 1)))) else (none)) else (none)) else (none)) else (none)) else (none)) else (none)) else (some x0)
def gangsawref25_part.f : Nat → List (S59) → List (List Int) → List (S36) → Int → Int → Int → Int → Int → Option ((List (S59)))
 | 0, _, _, _, _, _, _, _, _ => none
 | k + 1, l0, l1, l2, a3, a4, a5, a6, a7 => if 0 ≤ a6 then (if a6 < (l1.length : Int) then (if 0 ≤ a7 then (if a7 < ((rd_L5 l1 a6).length : Int) then (if (rd (rd_L5 l1 a6) a7) = 0 then (if l0.length < 2199023255552 then (some (l0 ++ [(⟨0, (⟨#[]⟩ : ByteArray), 0, 0, 0, 0, 0⟩ : S59)])) else (none)) else (gangsawref25_part.l0 k l0 l1 l2 a3 a4 a5 a6 a7 (rd (rd_L5 l1 a6) a7) 0)) else (none)) else (none)) else (none)) else (none)
end
theorem gangsawref25_part.mono_l : ∀ k, (∀ y0 y1 y2 y3 y4 y5 y6 y7, LeO (gangsawref25_part.f k y0 y1 y2 y3 y4 y5 y6 y7) (gangsawref25_part.f (k + 1) y0 y1 y2 y3 y4 y5 y6 y7)) ∧ (∀ y0 y1 y2 y3 y4 y5 y6 y7 y8 y9, LeO (gangsawref25_part.l0 k y0 y1 y2 y3 y4 y5 y6 y7 y8 y9) (gangsawref25_part.l0 (k + 1) y0 y1 y2 y3 y4 y5 y6 y7 y8 y9)) ∧ (∀ y0 y1 y2 y3 y4 y5 y6 y7 y8 y9 y10, LeO (gangsawref25_part.l1 k y0 y1 y2 y3 y4 y5 y6 y7 y8 y9 y10) (gangsawref25_part.l1 (k + 1) y0 y1 y2 y3 y4 y5 y6 y7 y8 y9 y10)) ∧ (∀ y0 y1 y2 y3 y4 y5 y6 y7 y8 y9 y10, LeO (gangsawref25_part.l2 k y0 y1 y2 y3 y4 y5 y6 y7 y8 y9 y10) (gangsawref25_part.l2 (k + 1) y0 y1 y2 y3 y4 y5 y6 y7 y8 y9 y10))
 | 0 => ⟨fun _ _ _ _ _ _ _ _ r h => by simp [gangsawref25_part.f] at h, fun _ _ _ _ _ _ _ _ _ _ r h => by simp [gangsawref25_part.l0] at h, fun _ _ _ _ _ _ _ _ _ _ _ r h => by simp [gangsawref25_part.l1] at h, fun _ _ _ _ _ _ _ _ _ _ _ r h => by simp [gangsawref25_part.l2] at h⟩
 | k + 1 => by
  obtain ⟨ih0, ih1, ih2, ih3⟩ := gangsawref25_part.mono_l k
  refine ⟨?_, ?_, ?_, ?_⟩
  ·intro y0 y1 y2 y3 y4 y5 y6 y7
   unfold gangsawref25_part.f
   repeat' first
   | (with_reducible exact ih0 _ _ _ _ _ _ _ _)
   | (with_reducible exact ih1 _ _ _ _ _ _ _ _ _ _)
   | (with_reducible exact ih2 _ _ _ _ _ _ _ _ _ _ _)
   | (with_reducible exact ih3 _ _ _ _ _ _ _ _ _ _ _)
   | (with_reducible exact LeO.refl _)
   | (with_reducible exact LeO.none _)
   | (with_reducible refine LeO.ite ?_ ?_)
   | (with_reducible refine LeO.bind ?_ (fun _ => ?_))
   | exact ih0 _ _ _ _ _ _ _ _
   | exact ih1 _ _ _ _ _ _ _ _ _ _
   | exact ih2 _ _ _ _ _ _ _ _ _ _ _
   | exact ih3 _ _ _ _ _ _ _ _ _ _ _
   | exact LeO.none _
   | refine LeO.ite ?_ ?_
   | refine LeO.bind ?_ (fun _ => ?_)
  ·intro y0 y1 y2 y3 y4 y5 y6 y7 y8 y9
   unfold gangsawref25_part.l0
   repeat' first
   | (with_reducible exact ih0 _ _ _ _ _ _ _ _)
   | (with_reducible exact ih1 _ _ _ _ _ _ _ _ _ _)
   | (with_reducible exact ih2 _ _ _ _ _ _ _ _ _ _ _)
   | (with_reducible exact ih3 _ _ _ _ _ _ _ _ _ _ _)
   | (with_reducible exact LeO.refl _)
   | (with_reducible exact LeO.none _)
   | (with_reducible refine LeO.ite ?_ ?_)
   | (with_reducible refine LeO.bind ?_ (fun _ => ?_))
   | exact ih0 _ _ _ _ _ _ _ _
   | exact ih1 _ _ _ _ _ _ _ _ _ _
   | exact ih2 _ _ _ _ _ _ _ _ _ _ _
   | exact ih3 _ _ _ _ _ _ _ _ _ _ _
   | exact LeO.none _
   | refine LeO.ite ?_ ?_
   | refine LeO.bind ?_ (fun _ => ?_)
  ·intro y0 y1 y2 y3 y4 y5 y6 y7 y8 y9 y10
   unfold gangsawref25_part.l1
   repeat' first
   | (with_reducible exact ih0 _ _ _ _ _ _ _ _)
   | (with_reducible exact ih1 _ _ _ _ _ _ _ _ _ _)
   | (with_reducible exact ih2 _ _ _ _ _ _ _ _ _ _ _)
   | (with_reducible exact ih3 _ _ _ _ _ _ _ _ _ _ _)
   | (with_reducible exact LeO.refl _)
   | (with_reducible exact LeO.none _)
   | (with_reducible refine LeO.ite ?_ ?_)
   | (with_reducible refine LeO.bind ?_ (fun _ => ?_))
   | exact ih0 _ _ _ _ _ _ _ _
   | exact ih1 _ _ _ _ _ _ _ _ _ _
   | exact ih2 _ _ _ _ _ _ _ _ _ _ _
   | exact ih3 _ _ _ _ _ _ _ _ _ _ _
   | exact LeO.none _
   | refine LeO.ite ?_ ?_
   | refine LeO.bind ?_ (fun _ => ?_)
  ·intro y0 y1 y2 y3 y4 y5 y6 y7 y8 y9 y10
   unfold gangsawref25_part.l2
   repeat' first
   | (with_reducible exact ih0 _ _ _ _ _ _ _ _)
   | (with_reducible exact ih1 _ _ _ _ _ _ _ _ _ _)
   | (with_reducible exact ih2 _ _ _ _ _ _ _ _ _ _ _)
   | (with_reducible exact ih3 _ _ _ _ _ _ _ _ _ _ _)
   | (with_reducible exact LeO.refl _)
   | (with_reducible exact LeO.none _)
   | (with_reducible refine LeO.ite ?_ ?_)
   | (with_reducible refine LeO.bind ?_ (fun _ => ?_))
   | exact ih0 _ _ _ _ _ _ _ _
   | exact ih1 _ _ _ _ _ _ _ _ _ _
   | exact ih2 _ _ _ _ _ _ _ _ _ _ _
   | exact ih3 _ _ _ _ _ _ _ _ _ _ _
   | exact LeO.none _
   | refine LeO.ite ?_ ?_
   | refine LeO.bind ?_ (fun _ => ?_)
theorem gangsawref25_part.mono : ∀ a0 a1 a2 a3 a4 a5 a6 a7 k, LeO (gangsawref25_part.f k a0 a1 a2 a3 a4 a5 a6 a7) (gangsawref25_part.f (k + 1) a0 a1 a2 a3 a4 a5 a6 a7) := by
 intro a0 a1 a2 a3 a4 a5 a6 a7 k;obtain ⟨ih0, ih1, ih2, ih3⟩ := gangsawref25_part.mono_l k;exact ih0 a0 a1 a2 a3 a4 a5 a6 a7
end Go.Proofs.Ytdnjagfbhppmbaa.PA
