import Derived.Test.YtdnjagfbhppmbaaPub
import Derived.Test.YtdnjagfbhppmbaaPAx6
import Derived.Test.YtdnjagfbhppmbaaGd
namespace Go.Proofs.Ytdnjagfbhppmbaa.Pure
open Go.RowKit Go.Proofs.Ytdnjagfbhppmbaa Go.Proofs.Ytdnjagfbhppmbaa.PA Go.Proofs.YtdnjagfbhppmbaaW.PrintWords Go.Proofs.YtdnjagfbhppmbaaW.PrintLast Go.Proofs.YtdnjagfbhppmbaaW.PrintMore
set_option linter.unusedVariables false
set_option linter.unusedSimpArgs false

/-! The reference's table is the program's -/
def stepX (a b : Nat) (m : Int) (x : S36) : Int := if x.f1.f0 = (a : Int) ∧ x.f1.f1 = (b : Int) then mx m x.f2 else m
theorem item_l0 (l : List S36) (hl : l.length ≤ 1000) (a b : Nat) : ∀ (d i : Nat) (n : Int), l.length - i = d → Ev (fun k => gangsawref25_item.l0 k l (a : Int) (b : Int) n (i : Int)) ((l.drop i).foldl (stepX a b) n) := by
  intro d
  induction d with
  | zero =>
    intro i n hd
    refine Ev.step (f := fun _ => some n) (fun k => ?_) ?_
    · rw [gangsawref25_item.l0, if_neg (by omega)]
    · rw [List.drop_of_length_le (by omega)]; exact Ev.now _
  | succ d ih =>
    intro i n hd
    have hi : i < l.length := by omega
    have e1 : l.drop i = l[i] :: l.drop (i + 1) := List.drop_eq_getElem_cons hi
    have hx : l.getD i z36 = l[i] := by rw [List.getD_eq_getElem?_getD, List.getElem?_eq_getElem hi]; rfl
    rw [e1, List.foldl_cons]
    refine Ev.step (fun k => ?_) (ih (i + 1) (stepX a b n l[i]) (by omega))
    rw [gangsawref25_item.l0, if_pos (by omega), if_pos (by omega), rdT, hx, wrap_nat1 (by omega)]
    unfold stepX
    by_cases h1 : l[i].f1.f0 = (a : Int)
    · rw [if_pos h1]
      by_cases h2 : l[i].f1.f1 = (b : Int)
      · rw [if_pos h2, if_pos ⟨h1, h2⟩]
      · rw [if_neg h2, if_neg (fun h => h2 h.2)]
    · rw [if_neg h1, if_neg (fun h => h1 h.1)]
theorem item_f (l : List S36) (hl : l.length ≤ 1000) (a b : Nat) : Ev (fun k => gangsawref25_item.f k l (a : Int) (b : Int)) (exactF l a b) := by
  have h := item_l0 l hl a b l.length 0 0 rfl
  rw [List.drop_zero] at h
  exact h

def rowsL (F : Nat → Nat → Int) (wid n : Nat) : List (List Int) := (List.range n).map fun a => (List.range (wid + 1)).map fun b => F a b
def prow (F : Nat → Nat → Int) (wid n m : Nat) : List Int := (List.range (wid + 1)).map fun b => if b < m then F n b else 0
def tabP (F : Nat → Nat → Int) (wid n m : Nat) : List (List Int) := rowsL F wid n ++ [prow F wid n m]
section
variable {F : Nat → Nat → Int} {wid n m : Nat}
theorem tabP_len : (tabP F wid n m).length = n + 1 := by simp [tabP, rowsL]
theorem tabP_row {a : Nat} (h : a < n) : rd_L5 (tabP F wid n m) (a : Int) = (List.range (wid + 1)).map fun b => F a b := by
  unfold rd_L5 tabP
  rw [Int.toNat_natCast, List.getD_eq_getElem?_getD, List.getElem?_append_left (by simp [rowsL]; exact h)]
  simp [rowsL, h]
theorem tabP_last : rd_L5 (tabP F wid n m) (n : Int) = prow F wid n m := by
  unfold rd_L5 tabP
  rw [Int.toNat_natCast, List.getD_eq_getElem?_getD, List.getElem?_append_right (by simp [rowsL])]
  simp [rowsL]
theorem row_len {a : Nat} : ((List.range (wid + 1)).map fun b => F a b).length = wid + 1 := by simp
theorem prow_len : (prow F wid n m).length = wid + 1 := by simp [prow]
theorem rd_row {a b : Nat} (h : b ≤ wid) : rd ((List.range (wid + 1)).map fun b => F a b) (b : Int) = F a b := by
  unfold rd
  rw [Int.toNat_natCast, List.getD_eq_getElem?_getD]
  simp [show b < wid + 1 by omega]
theorem rd_prow {b : Nat} (h : b ≤ wid) : rd (prow F wid n m) (b : Int) = if b < m then F n b else 0 := by
  unfold rd prow
  rw [Int.toNat_natCast, List.getD_eq_getElem?_getD]
  simp [show b < wid + 1 by omega]
theorem prow_set {v : Int} (hm : m ≤ wid) (hv : v = F n m) : (prow F wid n m).set m v = prow F wid n (m + 1) := by
  subst hv
  apply List.ext_getElem?
  intro c
  unfold prow
  by_cases hc : c < wid + 1
  · rw [List.getElem?_set]
    by_cases e : m = c
    · subst e; simp [hc]
    · rw [if_neg e]
      simp [hc]
      by_cases h2 : c < m
      · rw [if_pos h2, if_pos (by omega)]
      · rw [if_neg h2, if_neg (by omega)]
  · simp [hc, List.getElem?_set]
theorem tabP_set {v : Int} (hm : m ≤ wid) (hv : v = F n m) : (tabP F wid n m).set n ((rd_L5 (tabP F wid n m) (n : Int)).set m v) = tabP F wid n (m + 1) := by
  rw [tabP_last, prow_set hm hv]
  unfold tabP
  rw [List.set_append_right _ _ (by simp [rowsL])]
  simp [rowsL]
theorem tabP_start (h0 : F n 0 = 0) : rowsL F wid n ++ [List.replicate (wid + 1) 0] = tabP F wid n 1 := by
  unfold tabP
  congr 2
  apply List.ext_getElem?
  intro c
  unfold prow
  by_cases hc : c < wid + 1
  · simp [hc, List.getElem?_replicate]
    intro e
    subst e
    exact h0.symm
  · simp [hc, List.getElem?_replicate]
theorem tabP_end : tabP F wid n (wid + 1) = rowsL F wid (n + 1) := by
  unfold tabP rowsL
  rw [show List.range (n + 1) = List.range n ++ [n] from List.range_succ, List.map_append]
  congr 1
  simp only [List.map_cons, List.map_nil, prow]
  congr 1
  apply List.map_congr_left
  intro b hb
  rw [if_pos (List.mem_range.1 hb)]
theorem tabP_zero (h : ∀ b, F 0 b = 0) : tabP F wid 0 1 = rowsL F wid 1 := by
  unfold tabP rowsL prow
  simp [h]
end
section
variable (len wid kf : Nat) (l : List S36) (hlen : len ≤ 1000) (hwid : wid ≤ 1000) (hkf : kf ≤ 1000) (hl : l.length ≤ 1000)
include hlen hwid hkf hl
theorem b_l3 (n m : Nat) (hn : n ≤ len) (hn0 : 0 < n) (hm : m ≤ wid) (hm0 : 0 < m) (r : List (List Int)) (hnext : Ev (fun k => gangsawref25_Bounds.l1 k (len : Int) (wid : Int) l (kf : Int) (tabP (val (exactF l) kf) wid n (m + 1)) (n : Int) ((m + 1 : Nat) : Int)) r) :
    ∀ (d a : Nat), m - a = d → 1 ≤ a → a ≤ max 1 (m - kf) → Ev (fun k => gangsawref25_Bounds.l3 k (len : Int) (wid : Int) l (kf : Int) (tabP (val (exactF l) kf) wid n m) (n : Int) (m : Int) (fold2 (val (exactF l) kf) (fold1 (val (exactF l) kf) (exactF l n m) kf n m (n - kf - 1 + 1)) kf n m a) (a : Int)) r := by
  have _u1 := hlen
  have _u2 := hl
  intro d
  induction d with
  | zero =>
    intro a hd ha ha2
    refine Ev.step (fun k => ?_) hnext
    rw [gangsawref25_Bounds.l3, if_neg (by unfold wrap64; omega), tabP_len, if_pos (by omega), if_pos (by omega), if_pos (by omega), if_pos (by rw [tabP_last, prow_len]; omega), wrap_nat1 (by omega), Int.toNat_natCast, Int.toNat_natCast, tabP_set hm]
    rw [fold_cell _ _ _ _ _ _ _ (by omega) (by omega), val_eq, if_neg (by omega)]
  | succ d ih =>
    intro a hd ha ha2
    by_cases hlt : a + kf < m
    · refine Ev.step (fun k => ?_) (ih (a + 1) (by omega) (by omega) (by omega))
      have e1 : wrap64 (wrap64 ((m : Int) - (a : Int)) - (kf : Int)) = ((m - a - kf : Nat) : Int) := by
        have h1 : wrap64 ((m : Int) - (a : Int)) = (m : Int) - a := by unfold wrap64; omega
        rw [h1]; unfold wrap64; omega
      rw [gangsawref25_Bounds.l3, if_pos (by unfold wrap64; omega), tabP_len, if_pos (by omega), if_pos (by omega), if_pos (by omega), if_pos (by rw [tabP_last, prow_len]; omega), e1, if_pos (by omega), if_pos (by rw [tabP_last, prow_len]; omega), wrap_nat1 (by omega), tabP_last, rd_prow (by omega), rd_prow (by omega), if_pos (by omega), if_pos (by omega), fold2_step _ _ _ _ _ _ ha]
    · refine Ev.step (fun k => ?_) hnext
      rw [gangsawref25_Bounds.l3, if_neg (by unfold wrap64; omega), tabP_len, if_pos (by omega), if_pos (by omega), if_pos (by omega), if_pos (by rw [tabP_last, prow_len]; omega), wrap_nat1 (by omega), Int.toNat_natCast, Int.toNat_natCast, tabP_set hm]
      rw [fold_cell _ _ _ _ _ _ _ (by omega) (by omega), val_eq, if_neg (by omega)]
theorem b_l2 (n m : Nat) (hn : n ≤ len) (hn0 : 0 < n) (hm : m ≤ wid) (hm0 : 0 < m) (r : List (List Int)) (hnext : Ev (fun k => gangsawref25_Bounds.l1 k (len : Int) (wid : Int) l (kf : Int) (tabP (val (exactF l) kf) wid n (m + 1)) (n : Int) ((m + 1 : Nat) : Int)) r) :
    ∀ (d a : Nat), n - a = d → 1 ≤ a → a ≤ max 1 (n - kf) → Ev (fun k => gangsawref25_Bounds.l2 k (len : Int) (wid : Int) l (kf : Int) (tabP (val (exactF l) kf) wid n m) (n : Int) (m : Int) (fold1 (val (exactF l) kf) (exactF l n m) kf n m a) (a : Int)) r := by
  have h3 := b_l3 len wid kf l hlen hwid hkf hl n m hn hn0 hm hm0 r hnext (m - 1) 1 rfl (Nat.le_refl _) (by omega)
  intro d
  induction d with
  | zero =>
    intro a hd ha ha2
    refine Ev.step (fun k => ?_) h3
    rw [gangsawref25_Bounds.l2, if_neg (by unfold wrap64; omega)]
    rw [show a = n - kf - 1 + 1 by omega]; rfl
  | succ d ih =>
    intro a hd ha ha2
    by_cases hlt : a + kf < n
    · refine Ev.step (fun k => ?_) (ih (a + 1) (by omega) (by omega) (by omega))
      have e1 : wrap64 (wrap64 ((n : Int) - (a : Int)) - (kf : Int)) = ((n - a - kf : Nat) : Int) := by
        have h1 : wrap64 ((n : Int) - (a : Int)) = (n : Int) - a := by unfold wrap64; omega
        rw [h1]; unfold wrap64; omega
      rw [gangsawref25_Bounds.l2, if_pos (by unfold wrap64; omega), tabP_len, if_pos (by omega), if_pos (by omega), if_pos (by omega), if_pos (by rw [tabP_row (by omega), row_len]; omega), e1, if_pos (by omega), if_pos (by omega), if_pos (by rw [tabP_row (by omega), row_len]; omega), wrap_nat1 (by omega), tabP_row (by omega), tabP_row (by omega), rd_row (by omega), rd_row (by omega), fold1_step _ _ _ _ _ _ ha]
    · refine Ev.step (fun k => ?_) h3
      rw [gangsawref25_Bounds.l2, if_neg (by unfold wrap64; omega)]
      rw [show a = n - kf - 1 + 1 by omega]; rfl
theorem b_l1 (n : Nat) (hn : n ≤ len) (r : List (List Int)) (hnext : Ev (fun k => gangsawref25_Bounds.l0 k (len : Int) (wid : Int) l (kf : Int) (rowsL (val (exactF l) kf) wid (n + 1)) ((n + 1 : Nat) : Int)) r) :
    ∀ (d m : Nat), wid + 1 - m = d → 1 ≤ m → m ≤ wid + 1 → (n = 0 → m = 1) → Ev (fun k => gangsawref25_Bounds.l1 k (len : Int) (wid : Int) l (kf : Int) (tabP (val (exactF l) kf) wid n m) (n : Int) (m : Int)) r := by
  intro d
  induction d with
  | zero =>
    intro m hd hm1 hm2 h0
    obtain rfl : m = wid + 1 := by omega
    refine Ev.step (f := fun k => gangsawref25_Bounds.j2 k (len : Int) (wid : Int) l (kf : Int) (tabP (val (exactF l) kf) wid n (wid + 1)) (n : Int) ((wid + 1 : Nat) : Int) false) (fun k => ?_) (Ev.step (fun k => ?_) hnext)
    · rw [gangsawref25_Bounds.l1, if_neg (by omega)]
    · rw [gangsawref25_Bounds.j2, if_neg (by simp), wrap_nat1 (by omega), tabP_end]
  | succ d ih =>
    intro m hd hm1 hm2 h0
    by_cases hn0 : n = 0
    · subst hn0
      obtain rfl : m = 1 := h0 rfl
      refine Ev.step (f := fun k => gangsawref25_Bounds.j2 k (len : Int) (wid : Int) l (kf : Int) (tabP (val (exactF l) kf) wid 0 1) ((0 : Nat) : Int) ((1 : Nat) : Int) false) (fun k => ?_) (Ev.step (fun k => ?_) hnext)
      · rw [gangsawref25_Bounds.l1, if_pos (by omega)]; rfl
      · rw [gangsawref25_Bounds.j2, if_neg (by simp), wrap_nat1 (by omega), tabP_zero (fun b => by rw [val_eq, if_pos (.inl rfl)])]
    · have h2 := b_l2 len wid kf l hlen hwid hkf hl n m hn (by omega) (by omega) hm1 r (ih (m + 1) (by omega) (by omega) (by omega) (fun h => absurd h hn0)) (n - 1) 1 rfl (Nat.le_refl _) (by omega)
      refine Ev.step (f := fun k => gangsawref25_Bounds.j2 k (len : Int) (wid : Int) l (kf : Int) (tabP (val (exactF l) kf) wid n m) (n : Int) (m : Int) true) (fun k => ?_) (Ev.step (f := fun k => (gangsawref25_item.f k l (n : Int) (m : Int)).bind fun t => gangsawref25_Bounds.l2 k (len : Int) (wid : Int) l (kf : Int) (tabP (val (exactF l) kf) wid n m) (n : Int) (m : Int) t 1) (fun k => ?_) (Ev.bind (item_f l hl n m) h2))
      · rw [gangsawref25_Bounds.l1, if_pos (by omega)]
        congr 1
        simp; omega
      · rw [gangsawref25_Bounds.j2, if_pos rfl]
theorem b_l0 : ∀ (d n : Nat), len + 1 - n = d → n ≤ len + 1 → Ev (fun k => gangsawref25_Bounds.l0 k (len : Int) (wid : Int) l (kf : Int) (rowsL (val (exactF l) kf) wid n) (n : Int)) (rowsL (val (exactF l) kf) wid (len + 1)) := by
  intro d
  induction d with
  | zero =>
    intro n hd hn
    obtain rfl : n = len + 1 := by omega
    refine Ev.step (f := fun _ => some (rowsL (val (exactF l) kf) wid (len + 1))) (fun k => ?_) (Ev.now _)
    rw [gangsawref25_Bounds.l0, if_neg (by omega)]
  | succ d ih =>
    intro n hd hn
    refine Ev.step (fun k => ?_) (b_l1 len wid kf l hlen hwid hkf hl n (by omega) _ (ih (n + 1) (by omega) (by omega)) wid 1 (by omega) (Nat.le_refl _) (by omega) (fun _ => rfl))
    have e1 : wrap64 ((wid : Int) + 1) = ((wid + 1 : Nat) : Int) := wrap_nat1 (by omega)
    have e2 : (rowsL (val (exactF l) kf) wid n).length = n := by simp [rowsL]
    rw [gangsawref25_Bounds.l0, if_pos (by omega), e1, if_pos (by omega), if_pos (by rw [Int.toNat_natCast]; omega), if_pos (by rw [e2]; omega), Int.toNat_natCast, tabP_start (by rw [val_eq, if_pos (.inr rfl)])]
    rfl
theorem bounds_f : Ev (fun k => gangsawref25_Bounds.f k (len : Int) (wid : Int) l (kf : Int)) (tableR len wid l kf) := b_l0 len wid kf l hlen hwid hkf hl (len + 1) 0 rfl (by omega)
end
end Go.Proofs.Ytdnjagfbhppmbaa.Pure
