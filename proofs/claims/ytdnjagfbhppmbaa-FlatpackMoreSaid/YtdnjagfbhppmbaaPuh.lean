import Derived.Test.YtdnjagfbhppmbaaPuf
namespace Go.Proofs.Ytdnjagfbhppmbaa.Pure
open Go.RowKit Go.Proofs.Ytdnjagfbhppmbaa Go.Proofs.Ytdnjagfbhppmbaa.PA Go.Proofs.YtdnjagfbhppmbaaW.PrintWords Go.Proofs.YtdnjagfbhppmbaaW.PrintLast Go.Proofs.YtdnjagfbhppmbaaW.PrintMore
set_option linter.unusedVariables false
set_option linter.unusedSimpArgs false
theorem m_mx_le {a b v : Int} : mx a b ≤ v ↔ a ≤ v ∧ b ≤ v := by unfold mx; split <;> omega
theorem m_fold {α : Type} (g : α → Int) (v : Int) : ∀ (l : List α) (m : Int), l.foldl (fun b a => mx b (g a)) m ≤ v ↔ m ≤ v ∧ ∀ a ∈ l, g a ≤ v := by
 intro l
 induction l with
 | nil => intro m; simp
 | cons x t ih =>
  intro m;rw [List.foldl_cons, ih, m_mx_le];simp only [List.mem_cons, forall_eq_or_imp];rw [and_assoc]
theorem m_cell (t : Nat → Nat → Int) (e : Int) (k l w : Nat) (v : Int) : cellV t e k l w ≤ v ↔ e ≤ v ∧ (∀ a, 1 ≤ a → a < l - k → wrap64 (t a w + t (l - a - k) w) ≤ v) ∧ (∀ a, 1 ≤ a → a < w - k → wrap64 (t l a + t l (w - a - k)) ≤ v) := by
 unfold cellV
 rw [m_fold, m_fold, and_assoc]
 refine and_congr_right (fun _ => and_congr ?_ ?_)
 (exact ⟨fun h a h1 h2 => h a (by rw [List.mem_range'_1]; omega), fun h a ha => by rw [List.mem_range'_1] at ha; exact h a (by omega) (by omega)⟩);(exact ⟨fun h a h1 h2 => h a (by rw [List.mem_range'_1]; omega), fun h a ha => by rw [List.mem_range'_1] at ha; exact h a (by omega) (by omega)⟩)
theorem m_eq_of {x y : Int} (h : ∀ v, x ≤ v ↔ y ≤ v) : x = y := by
 have a := (h x).1 (Int.le_refl _);have b := (h y).2 (Int.le_refl _)
 omega
theorem m_zero (ex : Nat → Nat → Int) (k l w : Nat) (h : l = 0 ∨ w = 0) : val ex k l w = 0 := by rw [val_eq, if_pos h]
def Bex (ex : Nat → Nat → Int) : Prop := ∀ a b, 0 ≤ ex a b ∧ ex a b ≤ 1000000001
theorem m_bd {ex : Nat → Nat → Int} (h : Bex ex) (k : Nat) : ∀ (n l w : Nat), l + w ≤ n → l ≤ 14 → w ≤ 14 → 0 ≤ val ex k l w ∧ val ex k l w ≤ 1000000001 * ((l * w : Nat) : Int) := by
 intro n
 induction n with
 | zero => intro l w hn _ _; rw [m_zero _ _ _ _ (by omega)]; omega
 | succ n ih =>
  intro l w hn hl hw;by_cases hz : l = 0 ∨ w = 0
  ·rw [m_zero _ _ _ _ hz]; omega
  ·rw [val_eq, if_neg hz];have he := h l w;have hpos : 1 * 1 ≤ l * w := Nat.mul_le_mul (by omega) (by omega);have hsq : l * w ≤ 14 * 14 := Nat.mul_le_mul hl hw
   constructor
   ·have := ((m_cell (val ex k) (ex l w) k l w _).1 (Int.le_refl _)).1
    omega
   ·rw [m_cell]
    refine ⟨by omega, fun a h1 h2 => ?_, fun a h1 h2 => ?_⟩
    ·have i1 := ih a w (by omega) (by omega) hw;have i2 := ih (l - a - k) w (by omega) (by omega) hw
     have e : a * w + (l - a - k) * w ≤ l * w := by rw [← Nat.add_mul]; exact Nat.mul_le_mul_right _ (by omega)
     have : wrap64 (val ex k a w + val ex k (l - a - k) w) = val ex k a w + val ex k (l - a - k) w := by unfold wrap64; omega
     rw [this]; omega
    ·have i1 := ih l a (by omega) hl (by omega);have i2 := ih l (w - a - k) (by omega) hl (by omega)
     have e : l * a + l * (w - a - k) ≤ l * w := by rw [← Nat.mul_add]; exact Nat.mul_le_mul_left _ (by omega)
     have : wrap64 (val ex k l a + val ex k l (w - a - k)) = val ex k l a + val ex k l (w - a - k) := by unfold wrap64; omega
     rw [this]; omega
theorem m_sum {ex : Nat → Nat → Int} (h : Bex ex) (k a b c d : Nat) (ha : a ≤ 14) (hb : b ≤ 14) (hc : c ≤ 14) (hd : d ≤ 14) : wrap64 (val ex k a b + val ex k c d) = val ex k a b + val ex k c d := by
 have i1 := m_bd h k _ a b (Nat.le_refl _) ha hb;have i2 := m_bd h k _ c d (Nat.le_refl _) hc hd;have s1 : a * b ≤ 14 * 14 := Nat.mul_le_mul ha hb;have s2 : c * d ≤ 14 * 14 := Nat.mul_le_mul hc hd
 unfold wrap64; omega
theorem m_mono {ex ex' : Nat → Nat → Int} (h : Bex ex) (h' : Bex ex') (hle : ∀ a b, ex a b ≤ ex' a b) (k : Nat) : ∀ (n l w : Nat), l + w ≤ n → l ≤ 14 → w ≤ 14 → val ex k l w ≤ val ex' k l w := by
 intro n
 induction n with
 | zero => intro l w hn _ _; rw [m_zero _ _ _ _ (by omega), m_zero _ _ _ _ (by omega)]; exact Int.le_refl _
 | succ n ih =>
  intro l w hn hl hw;by_cases hz : l = 0 ∨ w = 0
  ·rw [m_zero _ _ _ _ hz, m_zero _ _ _ _ hz]; exact Int.le_refl _
  ·rw [val_eq, if_neg hz, val_eq, if_neg hz, m_cell];obtain ⟨c1, c2, c3⟩ := (m_cell (val ex' k) (ex' l w) k l w _).1 (Int.le_refl _)
   refine ⟨Int.le_trans (hle l w) c1, fun a h1 h2 => ?_, fun a h1 h2 => ?_⟩
   ·have i1 := ih a w (by omega) (by omega) hw;have i2 := ih (l - a - k) w (by omega) (by omega) hw;have := c2 a h1 h2;rw [m_sum h' k _ _ _ _ (by omega) (by omega) (by omega) (by omega)] at this;rw [m_sum h k _ _ _ _ (by omega) (by omega) (by omega) (by omega)]
    omega
   ·have i1 := ih l a (by omega) hl (by omega);have i2 := ih l (w - a - k) (by omega) hl (by omega);have := c3 a h1 h2;rw [m_sum h' k _ _ _ _ (by omega) (by omega) (by omega) (by omega)] at this;rw [m_sum h k _ _ _ _ (by omega) (by omega) (by omega) (by omega)]
    omega
theorem m_symm {ex ex' : Nat → Nat → Int} (hs : ∀ a b, ex' a b = ex b a) (k : Nat) : ∀ (n l w : Nat), l + w ≤ n → val ex' k w l = val ex k l w := by
 intro n
 induction n with
 | zero => intro l w hn; rw [m_zero _ _ _ _ (by omega), m_zero _ _ _ _ (by omega)]
 | succ n ih =>
  intro l w hn;by_cases hz : l = 0 ∨ w = 0
  (rw [m_zero _ _ _ _ hz, m_zero _ _ _ _ (by omega)])
  ·rw [val_eq, if_neg (by omega), val_eq, if_neg hz]
   refine m_eq_of (fun v => ?_)
   rw [m_cell, m_cell, hs]
   refine and_congr_right (fun _ => ?_)
   rw [and_comm]
   refine and_congr ?_ ?_
   ·constructor
    (intro h a h1 h2;have := h a h1 h2;rw [ih a w (by omega), ih (l - a - k) w (by omega)] at this;exact this);(intro h a h1 h2;rw [ih a w (by omega), ih (l - a - k) w (by omega)];exact h a h1 h2)
   ·constructor
    (intro h a h1 h2;have := h a h1 h2;rw [ih l a (by omega), ih l (w - a - k) (by omega)] at this;exact this);(intro h a h1 h2;rw [ih l a (by omega), ih l (w - a - k) (by omega)];exact h a h1 h2)
theorem e_iff (l : List S36) (a b : Nat) (v : Int) : exactF l a b ≤ v ↔ 0 ≤ v ∧ ∀ x ∈ l, x.f1.f0 = (a : Int) → x.f1.f1 = (b : Int) → x.f2 ≤ v := by
 unfold exactF
 have : ∀ (l : List S36) (m : Int), l.foldl (fun m x => if x.f1.f0 = (a : Int) ∧ x.f1.f1 = (b : Int) then mx m x.f2 else m) m ≤ v ↔ m ≤ v ∧ ∀ x ∈ l, x.f1.f0 = (a : Int) → x.f1.f1 = (b : Int) → x.f2 ≤ v := by
  intro l
  induction l with
  | nil => intro m; simp
  | cons x t ih =>
   intro m;rw [List.foldl_cons, ih];simp only [List.mem_cons, forall_eq_or_imp];by_cases hx : x.f1.f0 = (a : Int) ∧ x.f1.f1 = (b : Int)
   ·rw [if_pos hx, m_mx_le]
    constructor
    ·rintro ⟨⟨h1, h2⟩, h3⟩; exact ⟨h1, fun _ _ => h2, h3⟩
    ·rintro ⟨h1, h2, h3⟩; exact ⟨⟨h1, h2 hx.1 hx.2⟩, h3⟩
   ·rw [if_neg hx]
    constructor
    ·rintro ⟨h1, h3⟩; exact ⟨h1, fun g1 g2 => absurd ⟨g1, g2⟩ hx, h3⟩
    ·rintro ⟨h1, _, h3⟩; exact ⟨h1, h3⟩
 exact this l 0
theorem e_bex {l : List S36} (h : ∀ x ∈ l, x.f2 ≤ 1000000001) : Bex (exactF l) := by
 intro a b;exact ⟨((e_iff l a b _).1 (Int.le_refl _)).1, (e_iff l a b _).2 ⟨by omega, fun x hx _ _ => h x hx⟩⟩
def swI (x : S36) : S36 := ⟨x.f0, ⟨x.f1.f1, x.f1.f0, x.f1.f2⟩, x.f2, x.f3, x.f4⟩
theorem e_swap (l : List S36) (a b : Nat) : exactF (l.map swI) a b = exactF l b a := by
 refine m_eq_of (fun v => ?_)
 rw [e_iff, e_iff];simp only [List.mem_map, forall_exists_index, and_imp, forall_apply_eq_imp_iff₂]
 refine and_congr_right (fun _ => forall_congr' fun x => forall_congr' fun hx => ?_)
 unfold swI
 exact ⟨fun h g1 g2 => h g2 g1, fun h g1 g2 => h g2 g1⟩
theorem c_swap {a0 a1 : Int} {l : List S36} {a3 : Int} (h : checkR a0 a1 l a3 = 0) : checkR a1 a0 (l.map swI) a3 = 0 := by
 have c : sideB a0 = true ∧ sideB a1 = true ∧ ¬ a3 < 0 ∧ ¬ 40 < a3 := by
  unfold checkR at h
  split at h
  ·assumption
  ·omega
 unfold checkR at h ⊢
 rw [if_pos c] at h;rw [if_pos ⟨c.2.1, c.1, c.2.2⟩]
 have e1 : (l.map swI).any (fun x => !lexName x.f0) = l.any (fun x => !lexName x.f0) := by rw [List.any_map]; rfl
 have e2 : (l.map swI).any badSize = l.any badSize := by
  rw [List.any_map]
  congr 1
  funext x
  show badSize (swI x) = badSize x
  unfold badSize swI
  simp only []
  cases sideB x.f1.f0 <;> cases sideB x.f1.f1 <;> rfl
 have e3 : (l.map swI).any (fun x => x.f1.f2 != 1) = l.any (fun x => x.f1.f2 != 1) := by rw [List.any_map]; rfl
 have e5 : ∀ i, ((l.map swI).getD i z36).f0 = (l.getD i z36).f0 := by
  intro i;rw [List.getD_eq_getElem?_getD, List.getD_eq_getElem?_getD, List.getElem?_map]
  cases l[i]? <;> rfl
 have e4 : dupB (l.map swI) = dupB l := by
  unfold dupB
  rw [List.length_map]
  congr 1
  funext i
  unfold dupAt
  rw [e5, e5]
 rw [List.length_map, e1, e2, e3, e4];exact h
theorem best_any (a0 a1 : Int) (l : List S36) (a3 : Int) (hM : ∀ x ∈ l, x.f0.size ≤ 100) : (checkR a0 a1 l a3 = 0 ∧ flatpack_Best.f a0 a1 l a3 = some (val (exactF l) a3.toNat a0.toNat a1.toNat, 0)) ∨ (checkR a0 a1 l a3 ≠ 0 ∧ flatpack_Best.f a0 a1 l a3 = some (0, checkR a0 a1 l a3)) := by
 by_cases h : checkR a0 a1 l a3 = 0
 ·refine .inl ⟨h, ?_⟩
  obtain ⟨g0, g1, g2, _, _⟩ := chk0 h
  obtain ⟨L, rfl⟩ : ∃ n : Nat, a0 = n := ⟨a0.toNat, by omega⟩
  obtain ⟨Wd, rfl⟩ : ∃ n : Nat, a1 = n := ⟨a1.toNat, by omega⟩
  obtain ⟨kf, rfl⟩ : ∃ n : Nat, a3 = n := ⟨a3.toNat, by omega⟩
  exact best_f L Wd kf l h hM
 ·refine .inr ⟨h, ?_⟩
  unfold flatpack_Best.f
  rw [checkF hM];simp only [Option.bind_some];rw [if_neg h]
theorem bad_bd {l : List S36} (h : ∀ x ∈ l, badSize x = false) : ∀ x ∈ l, x.f2 ≤ 1000000001 := by
 intro x hx;have := h x hx
 unfold badSize at this
 simp at this
 omega
structure Rich (l q : List S36) (i : Nat) : Prop where
 len : q.length = l.length
 keep : ∀ j, j < l.length → (q.getD j z36).f0 = (l.getD j z36).f0 ∧ (q.getD j z36).f1 = (l.getD j z36).f1 ∧ (l.getD j z36).f2 ≤ (q.getD j z36).f2
 rest : ∀ j, i ≤ j → j < l.length → q.getD j z36 = l.getD j z36
theorem mem_getD {l : List S36} {x : S36} (h : x ∈ l) : ∃ j, j < l.length ∧ l.getD j z36 = x := by
 obtain ⟨j, hj, rfl⟩ := List.getElem_of_mem h;exact ⟨j, hj, by rw [List.getD_eq_getElem?_getD, List.getElem?_eq_getElem hj]; rfl⟩
theorem getD_mem {l : List S36} {j : Nat} (h : j < l.length) : l.getD j z36 ∈ l := by
 rw [List.getD_eq_getElem?_getD, List.getElem?_eq_getElem h];exact List.getElem_mem h
theorem Rich.names {l q : List S36} {i : Nat} (h : Rich l q i) (hM : ∀ x ∈ l, x.f0.size ≤ 100) : ∀ x ∈ q, x.f0.size ≤ 100 := by
 intro x hx;obtain ⟨j, hj, rfl⟩ := mem_getD hx;rw [h.len] at hj;rw [(h.keep j hj).1];exact hM _ (getD_mem hj)
theorem Rich.le {l q : List S36} {i : Nat} (h : Rich l q i) (a b : Nat) : exactF l a b ≤ exactF q a b := by
 have hq := (e_iff q a b _).1 (Int.le_refl _);rw [e_iff]
 refine ⟨hq.1, fun x hx g1 g2 => ?_⟩
 obtain ⟨j, hj, rfl⟩ := mem_getD hx;obtain ⟨k1, k2, k3⟩ := h.keep j hj;have := hq.2 _ (getD_mem (l := q) (j := j) (by rw [h.len]; exact hj)) (by rw [k2]; exact g1) (by rw [k2]; exact g2)
 omega
end Go.Proofs.Ytdnjagfbhppmbaa.Pure
