import Derived.Test.YtdnjagfbhppmbaaGd
import Derived.Test.YtdnjagfbhppmbaaPAx7
import Derived.Test.YtdnjagfbhppmbaaPub
import Derived.Test.YtdnjagfbhppmbaaPuc
namespace Go.Proofs.Ytdnjagfbhppmbaa.Pure
open Go.RowKit Go.Proofs.Ytdnjagfbhppmbaa Go.Proofs.Ytdnjagfbhppmbaa.PA Go.Proofs.YtdnjagfbhppmbaaW.PrintWords Go.Proofs.YtdnjagfbhppmbaaW.PrintLast Go.Proofs.YtdnjagfbhppmbaaW.PrintMore
set_option linter.unusedVariables false
set_option linter.unusedSimpArgs false
theorem rowsL_len {F : Nat → Nat → Int} {wid n : Nat} : (rowsL F wid n).length = n := by simp [rowsL]
theorem rowsL_row {F : Nat → Nat → Int} {wid n a : Nat} (h : a < n) : rd_L5 (rowsL F wid n) (a : Int) = (List.range (wid + 1)).map fun b => F a b := by
 unfold rd_L5
 rw [Int.toNat_natCast, List.getD_eq_getElem?_getD]
 simp [rowsL, h]
def PartOK (t : List (List Int)) (items : List S36) (kf l w : Nat) : Prop := ∀ (ns : List S59) (x y : Int), ns.length + 2 * (l * w) ≤ 1000000 →
 ∃ r, Ev (fun k => gangsawref25_part.f k ns t items (kf : Int) x y (l : Int) (w : Int)) r ∧ ns.length ≤ r.length ∧ r.length + 1 ≤ ns.length + 2 * (l * w)
section
variable (F : Nat → Nat → Int) (len wid kf : Nat) (items : List S36) (hlen : len ≤ 1000) (hwid : wid ≤ 1000) (hkf : kf ≤ 1000) (hit : items.length ≤ 1000)
include hlen hwid hkf hit
theorem p_l2 (l w : Nat) (hl : l ≤ len) (hl1 : 1 ≤ l) (hw : w ≤ wid) (hw1 : 1 ≤ w) (ih : ∀ l' w', l' + w' < l + w → 1 ≤ l' → l' ≤ l → 1 ≤ w' → w' ≤ w → PartOK (rowsL F wid (len + 1)) items kf l' w') (ns : List S59) (x y v : Int) (hns : ns.length + 2 * (l * w) ≤ 1000000) :
  ∀ (d a : Nat), w - a = d → 1 ≤ a → a ≤ w → ∃ r, Ev (fun k => gangsawref25_part.l2 k ns (rowsL F wid (len + 1)) items (kf : Int) x y (l : Int) (w : Int) v (ns.length : Int) (a : Int)) r ∧ ns.length ≤ r.length ∧ r.length + 1 ≤ ns.length + 2 * (l * w) := by
 have _u1 := hlen;have _u2 := hit;have hpos : 1 ≤ l * w := Nat.mul_pos hl1 hw1;intro d
 induction d with
 | zero =>
  intro a hd ha haw
  refine ⟨ns, Ev.step (f := fun _ => some ns) (fun k => ?_) (Ev.now _), Nat.le_refl _, by omega⟩
  rw [gangsawref25_part.l2, if_neg (by unfold wrap64; omega)]
 | succ d ihd =>
  intro a hd ha haw;by_cases hlt : a + kf < w
  ·have e1 : wrap64 (wrap64 ((w : Int) - (a : Int)) - (kf : Int)) = ((w - a - kf : Nat) : Int) := by
    have h1 : wrap64 ((w : Int) - (a : Int)) = (w : Int) - a := by unfold wrap64; omega
    rw [h1]; unfold wrap64; omega
   have pre : ∀ k, gangsawref25_part.l2 (k + 1) ns (rowsL F wid (len + 1)) items (kf : Int) x y (l : Int) (w : Int) v (ns.length : Int) (a : Int) =
     if wrap64 (F l a + F l (w - a - kf)) = v then (gangsawref25_part.f k (ns ++ [(⟨3, ⟨#[]⟩, 1, wrap64 (y + (a : Int)), (kf : Int), wrap64 ((ns.length : Int) + 1), 0⟩ : S59)]) (rowsL F wid (len + 1)) items (kf : Int) x y (l : Int) (a : Int)).bind fun n1 =>
      (if 0 ≤ (ns.length : Int) then (if (ns.length : Int) < (n1.length : Int) then ((gangsawref25_part.f k (n1.set ((ns.length : Int)).toNat (⟨(rd_T59 n1 (ns.length : Int)).f0, (rd_T59 n1 (ns.length : Int)).f1, (rd_T59 n1 (ns.length : Int)).f2, (rd_T59 n1 (ns.length : Int)).f3, (rd_T59 n1 (ns.length : Int)).f4, (rd_T59 n1 (ns.length : Int)).f5, (n1.length : Int)⟩ : S59)) (rowsL F wid (len + 1)) items (kf : Int) x (wrap64 (wrap64 (y + (a : Int)) + (kf : Int))) (l : Int) ((w - a - kf : Nat) : Int)).bind fun t => some t) else none) else none)
     else gangsawref25_part.l2 k ns (rowsL F wid (len + 1)) items (kf : Int) x y (l : Int) (w : Int) v (ns.length : Int) ((a + 1 : Nat) : Int) := by
    intro k;rw [gangsawref25_part.l2, if_pos (by unfold wrap64; omega), rowsL_len, if_pos (by omega), if_pos (by omega), if_pos (by omega), if_pos (by rw [rowsL_row (by omega), row_len]; omega), e1, if_pos (by omega), if_pos (by rw [rowsL_row (by omega), row_len]; omega), rowsL_row (by omega), rd_row (by omega), rd_row (by omega), wrap_nat1 (n := a) (by omega), if_pos (show ns.length < 2199023255552 by omega)]
   by_cases hv : wrap64 (F l a + F l (w - a - kf)) = v
   ·have hsum : l * a + l * (w - a - kf) ≤ l * w := by rw [← Nat.mul_add]; exact Nat.mul_le_mul_left _ (by omega)
    have hp2 : 1 ≤ l * (w - a - kf) := Nat.mul_pos hl1 (by omega);obtain ⟨n1, hE1, hL1, hB1⟩ := ih l a (by omega) hl1 (Nat.le_refl _) ha (by omega) (ns ++ [(⟨3, ⟨#[]⟩, 1, wrap64 (y + (a : Int)), (kf : Int), wrap64 ((ns.length : Int) + 1), 0⟩ : S59)]) x y (by simp; omega)
    simp at hL1 hB1
    obtain ⟨r, hE2, hL2, hB2⟩ := ih l (w - a - kf) (by omega) hl1 (Nat.le_refl _) (by omega) (by omega) (n1.set ((ns.length : Int)).toNat (⟨(rd_T59 n1 (ns.length : Int)).f0, (rd_T59 n1 (ns.length : Int)).f1, (rd_T59 n1 (ns.length : Int)).f2, (rd_T59 n1 (ns.length : Int)).f3, (rd_T59 n1 (ns.length : Int)).f4, (rd_T59 n1 (ns.length : Int)).f5, (n1.length : Int)⟩ : S59)) x (wrap64 (wrap64 (y + (a : Int)) + (kf : Int))) (by simp; omega);simp only [List.length_set] at hL2 hB2
    refine ⟨r, Ev.step (fun k => (pre k).trans (if_pos hv)) (Ev.bind hE1 ?_), by omega, by omega⟩
    refine Ev.congr (fun k => ?_) (Ev.bind hE2 (Ev.now r))
    rw [if_pos (by omega), if_pos (by omega)]
   (obtain ⟨r, hE, h1, h2⟩ := ihd (a + 1) (by omega) (by omega) (by omega);exact ⟨r, Ev.step (fun k => (pre k).trans (if_neg hv)) hE, h1, h2⟩)
  ·refine ⟨ns, Ev.step (f := fun _ => some ns) (fun k => ?_) (Ev.now _), Nat.le_refl _, by omega⟩
   rw [gangsawref25_part.l2, if_neg (by unfold wrap64; omega)]
theorem p_l1 (l w : Nat) (hl : l ≤ len) (hl1 : 1 ≤ l) (hw : w ≤ wid) (hw1 : 1 ≤ w) (ih : ∀ l' w', l' + w' < l + w → 1 ≤ l' → l' ≤ l → 1 ≤ w' → w' ≤ w → PartOK (rowsL F wid (len + 1)) items kf l' w') (ns : List S59) (x y v : Int) (hns : ns.length + 2 * (l * w) ≤ 1000000) :
  ∀ (d a : Nat), l - a = d → 1 ≤ a → a ≤ l → ∃ r, Ev (fun k => gangsawref25_part.l1 k ns (rowsL F wid (len + 1)) items (kf : Int) x y (l : Int) (w : Int) v (ns.length : Int) (a : Int)) r ∧ ns.length ≤ r.length ∧ r.length + 1 ≤ ns.length + 2 * (l * w) := by
 obtain ⟨r0, hE0, h01, h02⟩ := p_l2 F len wid kf items hlen hwid hkf hit l w hl hl1 hw hw1 ih ns x y v hns (w - 1) 1 rfl (Nat.le_refl _) hw1;intro d
 induction d with
 | zero =>
  intro a hd ha haw
  refine ⟨r0, Ev.step (fun k => ?_) hE0, h01, h02⟩
  rw [gangsawref25_part.l1, if_neg (by unfold wrap64; omega)]; rfl
 | succ d ihd =>
  intro a hd ha haw;by_cases hlt : a + kf < l
  ·have e1 : wrap64 (wrap64 ((l : Int) - (a : Int)) - (kf : Int)) = ((l - a - kf : Nat) : Int) := by
    have h1 : wrap64 ((l : Int) - (a : Int)) = (l : Int) - a := by unfold wrap64; omega
    rw [h1]; unfold wrap64; omega
   have pre : ∀ k, gangsawref25_part.l1 (k + 1) ns (rowsL F wid (len + 1)) items (kf : Int) x y (l : Int) (w : Int) v (ns.length : Int) (a : Int) =
     if wrap64 (F a w + F (l - a - kf) w) = v then (gangsawref25_part.f k (ns ++ [(⟨3, ⟨#[]⟩, 0, wrap64 (x + (a : Int)), (kf : Int), wrap64 ((ns.length : Int) + 1), 0⟩ : S59)]) (rowsL F wid (len + 1)) items (kf : Int) x y (a : Int) (w : Int)).bind fun n1 =>
      (if 0 ≤ (ns.length : Int) then (if (ns.length : Int) < (n1.length : Int) then ((gangsawref25_part.f k (n1.set ((ns.length : Int)).toNat (⟨(rd_T59 n1 (ns.length : Int)).f0, (rd_T59 n1 (ns.length : Int)).f1, (rd_T59 n1 (ns.length : Int)).f2, (rd_T59 n1 (ns.length : Int)).f3, (rd_T59 n1 (ns.length : Int)).f4, (rd_T59 n1 (ns.length : Int)).f5, (n1.length : Int)⟩ : S59)) (rowsL F wid (len + 1)) items (kf : Int) (wrap64 (wrap64 (x + (a : Int)) + (kf : Int))) y ((l - a - kf : Nat) : Int) (w : Int)).bind fun t => some t) else none) else none)
     else gangsawref25_part.l1 k ns (rowsL F wid (len + 1)) items (kf : Int) x y (l : Int) (w : Int) v (ns.length : Int) ((a + 1 : Nat) : Int) := by
    intro k;rw [gangsawref25_part.l1, if_pos (by unfold wrap64; omega), rowsL_len, if_pos (by omega), if_pos (by omega), if_pos (by omega), if_pos (by rw [rowsL_row (by omega), row_len]; omega), e1, if_pos (by omega), if_pos (by omega), if_pos (by rw [rowsL_row (by omega), row_len]; omega), rowsL_row (by omega), rowsL_row (by omega), rd_row (by omega), rd_row (by omega), wrap_nat1 (n := a) (by omega), if_pos (show ns.length < 2199023255552 by have := Nat.mul_pos hl1 hw1; omega)]
   by_cases hv : wrap64 (F a w + F (l - a - kf) w) = v
   ·have hsum : a * w + (l - a - kf) * w ≤ l * w := by rw [← Nat.add_mul]; exact Nat.mul_le_mul_right _ (by omega)
    have hp2 : 1 ≤ (l - a - kf) * w := Nat.mul_pos (by omega) hw1;obtain ⟨n1, hE1, hL1, hB1⟩ := ih a w (by omega) ha (by omega) hw1 (Nat.le_refl _) (ns ++ [(⟨3, ⟨#[]⟩, 0, wrap64 (x + (a : Int)), (kf : Int), wrap64 ((ns.length : Int) + 1), 0⟩ : S59)]) x y (by simp; omega)
    simp at hL1 hB1
    obtain ⟨r, hE2, hL2, hB2⟩ := ih (l - a - kf) w (by omega) (by omega) (by omega) hw1 (Nat.le_refl _) (n1.set ((ns.length : Int)).toNat (⟨(rd_T59 n1 (ns.length : Int)).f0, (rd_T59 n1 (ns.length : Int)).f1, (rd_T59 n1 (ns.length : Int)).f2, (rd_T59 n1 (ns.length : Int)).f3, (rd_T59 n1 (ns.length : Int)).f4, (rd_T59 n1 (ns.length : Int)).f5, (n1.length : Int)⟩ : S59)) (wrap64 (wrap64 (x + (a : Int)) + (kf : Int))) y (by simp; omega);simp only [List.length_set] at hL2 hB2
    refine ⟨r, Ev.step (fun k => (pre k).trans (if_pos hv)) (Ev.bind hE1 ?_), by omega, by omega⟩
    refine Ev.congr (fun k => ?_) (Ev.bind hE2 (Ev.now r))
    rw [if_pos (by omega), if_pos (by omega)]
   (obtain ⟨r, hE, h1, h2⟩ := ihd (a + 1) (by omega) (by omega) (by omega);exact ⟨r, Ev.step (fun k => (pre k).trans (if_neg hv)) hE, h1, h2⟩)
  ·refine ⟨r0, Ev.step (fun k => ?_) hE0, h01, h02⟩
   rw [gangsawref25_part.l1, if_neg (by unfold wrap64; omega)]; rfl
theorem p_l0 (l w : Nat) (hl : l ≤ len) (hl1 : 1 ≤ l) (hw : w ≤ wid) (hw1 : 1 ≤ w) (ih : ∀ l' w', l' + w' < l + w → 1 ≤ l' → l' ≤ l → 1 ≤ w' → w' ≤ w → PartOK (rowsL F wid (len + 1)) items kf l' w') (ns : List S59) (x y v : Int) (hns : ns.length + 2 * (l * w) ≤ 1000000) :
  ∀ (d i : Nat), items.length - i = d → ∃ r, Ev (fun k => gangsawref25_part.l0 k ns (rowsL F wid (len + 1)) items (kf : Int) x y (l : Int) (w : Int) v (i : Int)) r ∧ ns.length ≤ r.length ∧ r.length + 1 ≤ ns.length + 2 * (l * w) := by
 obtain ⟨r0, hE0, h01, h02⟩ := p_l1 F len wid kf items hlen hwid hkf hit l w hl hl1 hw hw1 ih ns x y v hns (l - 1) 1 rfl (Nat.le_refl _) hl1;have hpos : 1 ≤ l * w := Nat.mul_pos hl1 hw1;intro d
 induction d with
 | zero =>
  intro i hd
  refine ⟨r0, Ev.step (fun k => ?_) hE0, h01, h02⟩
  rw [gangsawref25_part.l0, if_neg (by omega)]; rfl
 | succ d ihd =>
  intro i hd;obtain ⟨r, hE, h1, h2⟩ := ihd (i + 1) (by omega)
  have pre : ∀ k, gangsawref25_part.l0 (k + 1) ns (rowsL F wid (len + 1)) items (kf : Int) x y (l : Int) (w : Int) v (i : Int) =
    if (items.getD i z36).f1.f0 = (l : Int) then (if (items.getD i z36).f1.f1 = (w : Int) then (if (items.getD i z36).f2 = v then some (ns ++ [(⟨1, (items.getD i z36).f0, 0, 0, 0, 0, 0⟩ : S59)]) else gangsawref25_part.l0 k ns (rowsL F wid (len + 1)) items (kf : Int) x y (l : Int) (w : Int) v ((i + 1 : Nat) : Int)) else gangsawref25_part.l0 k ns (rowsL F wid (len + 1)) items (kf : Int) x y (l : Int) (w : Int) v ((i + 1 : Nat) : Int)) else gangsawref25_part.l0 k ns (rowsL F wid (len + 1)) items (kf : Int) x y (l : Int) (w : Int) v ((i + 1 : Nat) : Int) := by
   intro k;rw [gangsawref25_part.l0, if_pos (by omega), if_pos (by omega), rdT, wrap_nat1 (by omega), if_pos (show ns.length < 2199023255552 by omega)]
  by_cases c1 : (items.getD i z36).f1.f0 = (l : Int)
  ·by_cases c2 : (items.getD i z36).f1.f1 = (w : Int)
   ·by_cases c3 : (items.getD i z36).f2 = v
    (exact ⟨_, Ev.step (fun k => (pre k).trans (by rw [if_pos c1, if_pos c2, if_pos c3])) (Ev.now _), by simp, by simp; omega⟩);(exact ⟨r, Ev.step (fun k => (pre k).trans (by rw [if_pos c1, if_pos c2, if_neg c3])) hE, h1, h2⟩)
   (exact ⟨r, Ev.step (fun k => (pre k).trans (by rw [if_pos c1, if_neg c2])) hE, h1, h2⟩)
  (exact ⟨r, Ev.step (fun k => (pre k).trans (by rw [if_neg c1])) hE, h1, h2⟩)
theorem part_ok : ∀ (N l w : Nat), l + w ≤ N → l ≤ len → 1 ≤ l → w ≤ wid → 1 ≤ w → PartOK (rowsL F wid (len + 1)) items kf l w := by
 intro N
 induction N with
 | zero => intro l w h _ h1; omega
 | succ N ihN =>
  intro l w hN hl hl1 hw hw1 ns x y hns;have hpos : 1 ≤ l * w := Nat.mul_pos hl1 hw1
  have ih : ∀ l' w', l' + w' < l + w → 1 ≤ l' → l' ≤ l → 1 ≤ w' → w' ≤ w → PartOK (rowsL F wid (len + 1)) items kf l' w' := fun l' w' h1 h2 h3 h4 h5 => ihN l' w' (by omega) (by omega) h2 (by omega) h4
  have pre : ∀ k, gangsawref25_part.f (k + 1) ns (rowsL F wid (len + 1)) items (kf : Int) x y (l : Int) (w : Int) = if F l w = 0 then some (ns ++ [(⟨0, ⟨#[]⟩, 0, 0, 0, 0, 0⟩ : S59)]) else gangsawref25_part.l0 k ns (rowsL F wid (len + 1)) items (kf : Int) x y (l : Int) (w : Int) (F l w) 0 := by
   intro k;rw [gangsawref25_part.f, rowsL_len, if_pos (by omega), if_pos (by omega), if_pos (by omega), if_pos (by rw [rowsL_row (by omega), row_len]; omega), rowsL_row (by omega), rd_row (by omega), if_pos (show ns.length < 2199023255552 by omega)]
  by_cases hv : F l w = 0
  (exact ⟨_, Ev.step (fun k => (pre k).trans (if_pos hv)) (Ev.now _), by simp, by simp; omega⟩);(obtain ⟨r, hE, h1, h2⟩ := p_l0 F len wid kf items hlen hwid hkf hit l w hl hl1 hw hw1 ih ns x y (F l w) hns items.length 0 rfl;exact ⟨r, Ev.step (fun k => (pre k).trans (if_neg hv)) hE, h1, h2⟩)
end
end Go.Proofs.Ytdnjagfbhppmbaa.Pure
