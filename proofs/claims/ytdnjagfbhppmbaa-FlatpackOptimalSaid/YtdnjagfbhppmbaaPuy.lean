import Derived.Test.YtdnjagfbhppmbaaPuh
import Derived.Sort.Walk0
namespace Go.Proofs.Ytdnjagfbhppmbaa.Pure
open Go.RowKit Go.Proofs.Ytdnjagfbhppmbaa Go.Proofs.Ytdnjagfbhppmbaa.PA Go.Proofs.YtdnjagfbhppmbaaW.PrintWords Go.Proofs.YtdnjagfbhppmbaaW.PrintLast Go.Proofs.YtdnjagfbhppmbaaW.PrintMore
set_option linter.unusedVariables false
set_option linter.unusedSimpArgs false
theorem G_tab {L Wd kf : Nat} {items : List S36} {l w : Nat} (hl : l ≤ L) (hw : w ≤ Wd) : G (tableR L Wd items kf) l w = val (exactF items) kf l w := by
 unfold G
 rw [tab_row hl, rd_row hw]
theorem table_sound (L Wd kf : Nat) (items : List S36) (hL : L ≤ 14) (hW : Wd ≤ 14) (hb : Bex (exactF items)) (hx : ∀ x ∈ items, 1 ≤ x.f1.f0 ∧ 1 ≤ x.f1.f1) : sound L Wd kf (tableR L Wd items kf) items := by
 refine ⟨tab_len _ _ _ _, fun j hj => ?_, fun j _ hj => ?_, fun a h1 h2 c h3 h4 => ⟨fun c' h5 h6 => ?_, fun c' h5 h6 => ?_⟩⟩
 ·rw [tab_len] at hj
  unfold rowOK
  rw [tab_row (show j ≤ L by omega)]
  refine ⟨row_len, ?_⟩
  rw [List.any_eq_false];intro v hv;obtain ⟨b, hb2, rfl⟩ := List.mem_map.1 hv;have hb3 := List.mem_range.1 hb2;have := m_bd hb kf _ j b (Nat.le_refl _) (by omega) (by omega);have s1 : j * b ≤ 14 * 14 := Nat.mul_le_mul (by omega) (by omega)
  unfold badN
  simp
  omega
 ·have e3 : items.getD j z36 = items[j] := by rw [List.getD_eq_getElem?_getD, List.getElem?_eq_getElem hj]; rfl
  rw [e3];intro g1 g2;have hm := List.getElem_mem hj;obtain ⟨p1, p2⟩ := hx _ hm;rw [G_tab (by omega) (by omega)]
  have hz : ¬ (items[j].f1.f0.toNat = 0 ∨ items[j].f1.f1.toNat = 0) := by omega
  have h1 := ((m_cell (val (exactF items) kf) (exactF items items[j].f1.f0.toNat items[j].f1.f1.toNat) kf items[j].f1.f0.toNat items[j].f1.f1.toNat _).1 (Int.le_refl _)).1;rw [val_eq, if_neg hz];have h2 := ((e_iff items items[j].f1.f0.toNat items[j].f1.f1.toNat _).1 (Int.le_refl _)).2 items[j] hm (by omega) (by omega)
  omega
 ·rw [G_tab h2 h4, G_tab (by omega) h4, G_tab (by omega) h4]
  have hz : ¬ (a = 0 ∨ c = 0) := by omega
  have h := ((m_cell (val (exactF items) kf) (exactF items a c) kf a c _).1 (Int.le_refl _)).2.1 c' h5 (by omega);rw [val_eq _ _ a c, if_neg hz]
  omega
 ·rw [G_tab h2 h4, G_tab h2 (by omega), G_tab h2 (by omega)]
  have hz : ¬ (a = 0 ∨ c = 0) := by omega
  have h := ((m_cell (val (exactF items) kf) (exactF items a c) kf a c _).1 (Int.le_refl _)).2.2 c' h5 (by omega);rw [val_eq _ _ a c, if_neg hz]
  omega
def sumV (l : List S36) : List S87 → Int
 | [] => 0
 | x :: r => (if x.f0 = 1 then (itemOf l x.f1).f2 else 0) + sumV l r
theorem sumV_append (l : List S36) (a b : List S87) : sumV l (a ++ b) = sumV l a + sumV l b := by
 induction a with
 | nil => show sumV l b = 0 + sumV l b; omega
 | cons x t ih => rw [List.cons_append, sumV, sumV, ih]; omega
def fitsB (l : List S36) (x : S87) : Prop := x.f0 = 1 → wrap64 (x.f2.f1.f0 - x.f2.f0.f0) = (itemOf l x.f1).f1.f0 ∧ wrap64 (x.f2.f1.f1 - x.f2.f0.f1) = (itemOf l x.f1).f1.f1
theorem itemOf_bd {l : List S36} (h : ∀ x ∈ l, 0 ≤ x.f2 ∧ x.f2 ≤ 1000000001) (s : ByteArray) : 0 ≤ (itemOf l s).f2 ∧ (itemOf l s).f2 ≤ 1000000001 := by
 unfold itemOf
 cases hk : knownR l s with
 | none => exact ⟨by decide, by decide⟩
 | some y =>
  unfold knownR at hk
  exact h y (List.mem_reverse.1 (List.mem_of_find?_eq_some hk))
theorem sumR_ok (l : List S36) (h : ∀ x ∈ l, 0 ≤ x.f2 ∧ x.f2 ≤ 1000000001) : ∀ (L : List S87) (s r : Int), sumR l L s = (r, 0) → 0 ≤ s → s + 1000000001 * (L.length : Int) ≤ 1000000000000000000 → (∀ x ∈ L, fitsB l x) ∧ r = s + sumV l L := by
 intro L
 induction L with
 | nil =>
  intro s r hr _ _;have := congrArg Prod.fst hr;exact ⟨fun x hx => (by cases hx), (by show r = s + 0; simp [sumR] at this; omega)⟩
 | cons x t ih =>
  intro s r hr h0 h1;rw [List.length_cons] at h1;rw [sumR] at hr;by_cases hk : x.f0 = 1
  ·rw [if_pos hk] at hr;by_cases c1 : wrap64 (x.f2.f1.f0 - x.f2.f0.f0) = (itemOf l x.f1).f1.f0
   ·rw [if_pos c1] at hr;by_cases c2 : wrap64 (x.f2.f1.f1 - x.f2.f0.f1) = (itemOf l x.f1).f1.f1
    ·rw [if_pos c2] at hr;have hb := itemOf_bd h x.f1
     have hw : wrap64 (s + (itemOf l x.f1).f2) = s + (itemOf l x.f1).f2 := by unfold wrap64; omega
     rw [hw] at hr;obtain ⟨i1, i2⟩ := ih _ r hr (by omega) (by omega)
     refine ⟨fun y hy => ?_, ?_⟩
     ·rcases List.mem_cons.1 hy with rfl | hy
      ·exact fun _ => ⟨c1, c2⟩
      (exact i1 y hy)
     ·rw [sumV, if_pos hk, i2]; omega
    ·rw [if_neg c2] at hr; cases congrArg Prod.snd hr
   ·rw [if_neg c1] at hr; cases congrArg Prod.snd hr
  ·rw [if_neg hk] at hr;obtain ⟨i1, i2⟩ := ih s r hr h0 (by omega)
   refine ⟨fun y hy => ?_, ?_⟩
   ·rcases List.mem_cons.1 hy with rfl | hy
    ·exact fun e => absurd e hk
    (exact i1 y hy)
   ·rw [sumV, if_neg hk, i2]; omega
theorem leavesL_append (ns : List S59) (a b : List S107) : leavesL ns (a ++ b) = leavesL ns a ++ leavesL ns b := by
 unfold leavesL
 rw [List.filter_append, List.map_append]
theorem val_exact {ex : Nat → Nat → Int} {k l w : Nat} (hl : 1 ≤ l) (hw : 1 ≤ w) : ex l w ≤ val ex k l w := by
 rw [val_eq, if_neg (by omega)];exact ((m_cell (val ex k) (ex l w) k l w _).1 (Int.le_refl _)).1
theorem val_cutx {ex : Nat → Nat → Int} (h : Bex ex) {k l w a : Nat} (hl : l ≤ 14) (hw : w ≤ 14) (hw1 : 1 ≤ w) (ha : 1 ≤ a) (hal : a + k < l) : val ex k a w + val ex k (l - a - k) w ≤ val ex k l w := by
 have := ((m_cell (val ex k) (ex l w) k l w _).1 (Int.le_refl _)).2.1 a ha (by omega);rw [m_sum h k _ _ _ _ (by omega) (by omega) (by omega) (by omega)] at this;rw [val_eq _ _ l w, if_neg (by omega)];exact this
theorem val_cuty {ex : Nat → Nat → Int} (h : Bex ex) {k l w a : Nat} (hl : l ≤ 14) (hw : w ≤ 14) (hl1 : 1 ≤ l) (ha : 1 ≤ a) (hal : a + k < w) : val ex k l a + val ex k l (w - a - k) ≤ val ex k l w := by
 have := ((m_cell (val ex k) (ex l w) k l w _).1 (Int.le_refl _)).2.2 a ha (by omega);rw [m_sum h k _ _ _ _ (by omega) (by omega) (by omega) (by omega)] at this;rw [val_eq _ _ l w, if_neg (by omega)];exact this
theorem walk_le (items : List S36) (kf : Nat) (hk40 : kf ≤ 40) (hB : Bex (exactF items)) (ns : List S59) (hg : GoodN ns) (hn : ∀ i : Int, 0 ≤ i → i < (ns.length : Int) → bad42 (kf : Int) (rd_T59 ns i) = false) (hax : ∀ i : Int, 0 ≤ i → i < (ns.length : Int) → (rd_T59 ns i).f0 = 3 → 0 ≤ (rd_T59 ns i).f2 ∧ (rd_T59 ns i).f2 ≤ 2)
  (hu : ∀ i : Int, 0 ≤ i → i < (ns.length : Int) → unk items (rd_T59 ns i) = false) :
  ∀ (d : Nat) (s : S107) (dx dy : Nat), 0 ≤ s.f0 → s.f0 < (ns.length : Int) → 0 ≤ s.f1.f0.f0 → 0 ≤ s.f1.f0.f1 → s.f1.f1.f0 = s.f1.f0.f0 + dx → s.f1.f1.f1 = s.f1.f0.f1 + dy → s.f1.f1.f0 ≤ 14 → s.f1.f1.f1 ≤ 14 → 1 ≤ dx → 1 ≤ dy →
   (∀ t ∈ stepsK ns d s, badS ns t = false) → (∀ x ∈ leavesL ns (stepsK ns d s), fitsB items x) → sumV items (leavesL ns (stepsK ns d s)) ≤ val (exactF items) kf dx dy := by
 intro d
 induction d with
 | zero =>
  intro s dx dy _ _ _ _ _ _ _ _ _ _ _ _;exact (m_bd hB kf _ dx dy (Nat.le_refl _) (by omega) (by omega)).1
 | succ d ih =>
  intro s dx dy h0 h1 hx0 hy0 hxd hyd hx14 hy14 hdx hdy hbad hfit;have hpos := (m_bd hB kf _ dx dy (Nat.le_refl _) (by omega) (by omega)).1;have hb0 : badS ns s = false := hbad s (by rw [stepsK]; exact List.mem_cons_self);rw [stepsK] at hbad hfit ⊢;have hu0 := hu s.f0 h0 h1;have hn0 := hn s.f0 h0 h1;by_cases hk : (rd_T59 ns s.f0).f0 = 3
  ·rw [if_pos hk] at hbad hfit ⊢;obtain ⟨⟨g1, g2⟩, g3, g4⟩ := hg _ h0 h1 hk;have ha0 := hax s.f0 h0 h1 hk
   have e1 : leavesL ns (s :: (stepsK ns d ⟨(rd_T59 ns s.f0).f5, divL (rd_T59 ns s.f0) s.f1, wrap64 (s.f2 + 1)⟩ ++ stepsK ns d ⟨(rd_T59 ns s.f0).f6, divR (rd_T59 ns s.f0) s.f1, wrap64 (s.f2 + 1)⟩)) = leavesL ns (stepsK ns d ⟨(rd_T59 ns s.f0).f5, divL (rd_T59 ns s.f0) s.f1, wrap64 (s.f2 + 1)⟩) ++ leavesL ns (stepsK ns d ⟨(rd_T59 ns s.f0).f6, divR (rd_T59 ns s.f0) s.f1, wrap64 (s.f2 + 1)⟩) := by
    rw [← leavesL_append]
    unfold leavesL
    rw [List.filter_cons, if_neg (by unfold isLeaf; simp [hk])]
   rw [e1] at hfit ⊢;rw [sumV_append]
   have bl : ∀ t ∈ stepsK ns d ⟨(rd_T59 ns s.f0).f5, divL (rd_T59 ns s.f0) s.f1, wrap64 (s.f2 + 1)⟩, badS ns t = false := fun t ht => hbad t (List.mem_cons_of_mem _ (List.mem_append_left _ ht))
   have br : ∀ t ∈ stepsK ns d ⟨(rd_T59 ns s.f0).f6, divR (rd_T59 ns s.f0) s.f1, wrap64 (s.f2 + 1)⟩, badS ns t = false := fun t ht => hbad t (List.mem_cons_of_mem _ (List.mem_append_right _ ht))
   have fl := fun x hx => hfit x (List.mem_append_left _ hx)
   have fr := fun x hx => hfit x (List.mem_append_right _ hx)
   clear hbad hfit e1 hu0
   unfold badS at hb0
   rw [hk] at hb0
   unfold bad42 at hn0
   rw [hk] at hn0
   simp at hn0 hb0
   obtain ⟨n1, n2⟩ := hn0;obtain ⟨c1, c2⟩ := hb0;have IL := ih ⟨(rd_T59 ns s.f0).f5, divL (rd_T59 ns s.f0) s.f1, wrap64 (s.f2 + 1)⟩;have IR := ih ⟨(rd_T59 ns s.f0).f6, divR (rd_T59 ns s.f0) s.f1, wrap64 (s.f2 + 1)⟩;generalize stepsK ns d ⟨(rd_T59 ns s.f0).f5, divL (rd_T59 ns s.f0) s.f1, wrap64 (s.f2 + 1)⟩ = SL at *;generalize stepsK ns d ⟨(rd_T59 ns s.f0).f6, divR (rd_T59 ns s.f0) s.f1, wrap64 (s.f2 + 1)⟩ = SR at *;generalize rd_T59 ns s.f0 = n at *;rw [n2] at c2
   have hc : n.f2 = 0 ∨ n.f2 = 1 := by omega
   rcases hc with hc | hc
   ·have v0 : vget s.f1.f0 n.f2 = s.f1.f0.f0 := by unfold vget; rw [if_pos hc]
    have v1 : vget s.f1.f1 n.f2 = s.f1.f1.f0 := by unfold vget; rw [if_pos hc]
    rw [v0] at c1;rw [v1] at c2
    have w1 : wrap64 (s.f1.f1.f0 - (kf : Int)) = s.f1.f1.f0 - kf := by unfold wrap64; omega
    rw [w1] at c2
    have dl : divL n s.f1 = ⟨s.f1.f0, ⟨n.f3, s.f1.f1.f1, s.f1.f1.f2⟩⟩ := by unfold divL vset; rw [if_pos hc]
    have w2 : wrap64 (n.f3 + (kf : Int)) = n.f3 + kf := by unfold wrap64; omega
    have dr : divR n s.f1 = ⟨⟨n.f3 + kf, s.f1.f0.f1, s.f1.f0.f2⟩, s.f1.f1⟩ := by unfold divR vset; rw [if_pos hc, n2, w2]
    rw [dl] at IL;rw [dr] at IR
    obtain ⟨a, ha⟩ : ∃ a : Nat, n.f3 - s.f1.f0.f0 = (a : Int) := ⟨(n.f3 - s.f1.f0.f0).toNat, by omega⟩
    have i1 := IL a dy (by dsimp only; omega) g2 hx0 hy0 (by dsimp only; omega) hyd (by dsimp only; omega) hy14 (by omega) hdy bl fl;have i2 := IR (dx - a - kf) dy (by dsimp only; omega) g4 (by dsimp only; omega) hy0 (by dsimp only; omega) hyd hx14 hy14 (by omega) hdy br fr;have := val_cutx hB (k := kf) (l := dx) (w := dy) (a := a) (by omega) (by omega) hdy (by omega) (by omega)
    omega
   ·have v0 : vget s.f1.f0 n.f2 = s.f1.f0.f1 := by unfold vget; rw [if_neg (by omega), if_pos hc]
    have v1 : vget s.f1.f1 n.f2 = s.f1.f1.f1 := by unfold vget; rw [if_neg (by omega), if_pos hc]
    rw [v0] at c1;rw [v1] at c2
    have w1 : wrap64 (s.f1.f1.f1 - (kf : Int)) = s.f1.f1.f1 - kf := by unfold wrap64; omega
    rw [w1] at c2
    have dl : divL n s.f1 = ⟨s.f1.f0, ⟨s.f1.f1.f0, n.f3, s.f1.f1.f2⟩⟩ := by unfold divL vset; rw [if_neg (by omega), if_pos hc]
    have w2 : wrap64 (n.f3 + (kf : Int)) = n.f3 + kf := by unfold wrap64; omega
    have dr : divR n s.f1 = ⟨⟨s.f1.f0.f0, n.f3 + kf, s.f1.f0.f2⟩, s.f1.f1⟩ := by unfold divR vset; rw [if_neg (by omega), if_pos hc, n2, w2]
    rw [dl] at IL;rw [dr] at IR
    obtain ⟨a, ha⟩ : ∃ a : Nat, n.f3 - s.f1.f0.f1 = (a : Int) := ⟨(n.f3 - s.f1.f0.f1).toNat, by omega⟩
    have i1 := IL dx a (by dsimp only; omega) g2 hx0 hy0 hxd (by dsimp only; omega) hx14 (by dsimp only; omega) hdx (by omega) bl fl;have i2 := IR dx (dy - a - kf) (by dsimp only; omega) g4 hx0 (by dsimp only; omega) hxd (by dsimp only; omega) hx14 hy14 hdx (by omega) br fr;have := val_cuty hB (k := kf) (l := dx) (w := dy) (a := a) (by omega) (by omega) hdx (by omega) (by omega)
    omega
  ·rw [if_neg hk] at hfit ⊢
   have e1 : leavesL ns [s] = [leafOf ns s] := by
    unfold leavesL
    rw [List.filter_cons, if_pos (by unfold isLeaf; simp [hk])];rfl
   rw [e1] at hfit ⊢;rw [sumV, sumV];by_cases h1p : (leafOf ns s).f0 = 1
   ·rw [if_pos h1p];obtain ⟨d1, d2⟩ := hfit _ List.mem_cons_self h1p;have x1 : (leafOf ns s).f2 = s.f1 := rfl;have x2 : (leafOf ns s).f1 = (rd_T59 ns s.f0).f1 := rfl;have x3 : (leafOf ns s).f0 = (rd_T59 ns s.f0).f0 := rfl;rw [x1, x2] at d1 d2;rw [x2];rw [x3] at h1p
    have hv1 : wrap64 (s.f1.f1.f0 - s.f1.f0.f0) = dx := by unfold wrap64; omega
    have hv2 : wrap64 (s.f1.f1.f1 - s.f1.f0.f1) = dy := by unfold wrap64; omega
    rw [hv1] at d1;rw [hv2] at d2
    unfold unk at hu0
    rw [h1p] at hu0
    simp at hu0
    have hmem : itemOf items (rd_T59 ns s.f0).f1 ∈ items := by
     unfold itemOf
     cases hkn : knownR items (rd_T59 ns s.f0).f1 with
     | none => rw [hkn] at hu0; cases hu0
     | some y =>
      unfold knownR at hkn
      exact List.mem_reverse.1 (List.mem_of_find?_eq_some hkn)
    have h2 := ((e_iff items dx dy _).1 (Int.le_refl _)).2 _ hmem d1.symm d2.symm;have h3 := val_exact (ex := exactF items) (k := kf) hdx hdy
    omega
   ·rw [if_neg h1p]; omega
end Go.Proofs.Ytdnjagfbhppmbaa.Pure
