import Derived.Test.YtdnjagfbhppmbaaPuh
import Derived.Sort.Walk0
namespace Go.Proofs.Ytdnjagfbhppmbaa.Pure
open Go.RowKit Go.Proofs.Ytdnjagfbhppmbaa Go.Proofs.Ytdnjagfbhppmbaa.PA Go.Proofs.YtdnjagfbhppmbaaW.PrintWords Go.Proofs.YtdnjagfbhppmbaaW.PrintLast Go.Proofs.YtdnjagfbhppmbaaW.PrintMore
set_option linter.unusedVariables false
set_option linter.unusedSimpArgs false
inductive PT where
  | waste
  | prod (x : S36)
  | cut (ax at_ : Int) (l r : PT)
def PT.size : PT → Nat
  | .waste => 1
  | .prod _ => 1
  | .cut _ _ l r => 1 + l.size + r.size
def PT.enc (kf : Int) : PT → Nat → List S59
  | .waste, _ => [⟨0, ⟨#[]⟩, 0, 0, 0, 0, 0⟩]
  | .prod x, _ => [⟨1, x.f0, 0, 0, 0, 0, 0⟩]
  | .cut ax at_ l r, b => ⟨3, ⟨#[]⟩, ax, at_, kf, ((b + 1 : Nat) : Int), ((b + 1 + l.size : Nat) : Int)⟩ :: (l.enc kf (b + 1) ++ r.enc kf (b + 1 + l.size))
theorem enc_len (kf : Int) : ∀ (T : PT) (b : Nat), (T.enc kf b).length = T.size
  | .waste, b => rfl
  | .prod x, b => rfl
  | .cut ax at_ l r, b => by rw [PT.enc, PT.size, List.length_cons, List.length_append, enc_len kf l, enc_len kf r]; omega
theorem size_pos : ∀ T : PT, 1 ≤ T.size
  | .waste => Nat.le_refl _
  | .prod x => Nat.le_refl _
  | .cut ax at_ l r => by rw [PT.size]; omega
def Fits (items : List S36) (kf : Nat) : PT → Nat → Nat → Nat → Nat → Int → Prop
  | .waste, _, _, l, w, v => 1 ≤ l ∧ 1 ≤ w ∧ v = 0
  | .prod it, _, _, l, w, v => 1 ≤ l ∧ 1 ≤ w ∧ it ∈ items ∧ it.f1.f0 = (l : Int) ∧ it.f1.f1 = (w : Int) ∧ it.f2 = v
  | .cut ax at_ tl tr, x, y, l, w, v => ∃ (a : Nat) (v1 v2 : Int), v = v1 + v2 ∧ 1 ≤ a ∧ 1 ≤ l ∧ 1 ≤ w ∧
      ((ax = 0 ∧ at_ = ((x + a : Nat) : Int) ∧ a + kf < l ∧ Fits items kf tl x y a w v1 ∧ Fits items kf tr (x + a + kf) y (l - a - kf) w v2) ∨
       (ax = 1 ∧ at_ = ((y + a : Nat) : Int) ∧ a + kf < w ∧ Fits items kf tl x y l a v1 ∧ Fits items kf tr x (y + a + kf) l (w - a - kf) v2))
section
variable (len wid kf : Nat) (items : List S36) (hlen : len ≤ 14) (hwid : wid ≤ 14) (hkf : kf ≤ 40) (hB : Bex (exactF items))
def PartT (len wid kf : Nat) (items : List S36) (l w : Nat) : Prop := ∀ (ns : List S59) (x y : Nat), ns.length + 2 * (l * w) ≤ 1000000 → x + l ≤ 1000 → y + w ≤ 1000 →
  ∃ T : PT, Fits items kf T x y l w (val (exactF items) kf l w) ∧ T.size + 1 ≤ 2 * (l * w) ∧ Ev (fun k => gangsawref25_part.f k ns (rowsL (val (exactF items) kf) wid (len + 1)) items (kf : Int) (x : Int) (y : Int) (l : Int) (w : Int)) (ns ++ T.enc kf ns.length)
theorem set_cut (ns m : List S59) (n n' : S59) : (ns ++ [n] ++ m).set ns.length n' = ns ++ (n' :: m) := by
  rw [List.append_assoc, List.set_append_right _ _ (Nat.le_refl _), Nat.sub_self];rfl
theorem rd_cut (ns m : List S59) (n : S59) : rd_T59 (ns ++ [n] ++ m) (ns.length : Int) = n := by
  unfold rd_T59
  rw [Int.toNat_natCast, List.getD_eq_getElem?_getD, List.append_assoc, List.getElem?_append_right (Nat.le_refl _), Nat.sub_self];rfl
theorem wrapN {n : Nat} (h : n < 9223372036854775807) : wrap64 (n : Int) = n := by unfold wrap64; omega
theorem wrapA {a b : Nat} (h : a + b < 9223372036854775807) : wrap64 ((a : Int) + (b : Int)) = ((a + b : Nat) : Int) := by rw [← Int.natCast_add]; exact wrapN h
theorem wrapS {w a kf : Nat} (h : a + kf < w) (h2 : w < 9223372036854775807) : wrap64 (wrap64 ((w : Int) - (a : Int)) - (kf : Int)) = ((w - a - kf : Nat) : Int) := by
  have h1 : wrap64 ((w : Int) - (a : Int)) = ((w - a : Nat) : Int) := by rw [← Int.ofNat_sub (by omega)]; exact wrapN (by omega)
  rw [h1, ← Int.ofNat_sub (by omega)]; exact wrapN (by omega)
include hlen hwid hkf hB
set_option maxHeartbeats 1000000 in
theorem t_l2 (l w : Nat) (hl : l ≤ len) (hl1 : 1 ≤ l) (hw : w ≤ wid) (hw1 : 1 ≤ w) (ih : ∀ l' w', l' + w' < l + w → 1 ≤ l' → l' ≤ l → 1 ≤ w' → w' ≤ w → PartT len wid kf items l' w') (ns : List S59) (x y : Nat) (hns : ns.length + 2 * (l * w) ≤ 1000000) (hx : x + l ≤ 1000) (hy : y + w ≤ 1000)
    (hv0 : ¬ val (exactF items) kf l w = 0) (hni : ∀ it ∈ items, it.f1.f0 = (l : Int) → it.f1.f1 = (w : Int) → ¬ it.f2 = val (exactF items) kf l w) (hnx : ∀ c, 1 ≤ c → c + kf < l → ¬ val (exactF items) kf c w + val (exactF items) kf (l - c - kf) w = val (exactF items) kf l w) :
    ∀ (d a : Nat), w - a = d → 1 ≤ a → a ≤ w → (∀ c, 1 ≤ c → c < a → c + kf < w → ¬ val (exactF items) kf l c + val (exactF items) kf l (w - c - kf) = val (exactF items) kf l w) →
      ∃ T : PT, Fits items kf T x y l w (val (exactF items) kf l w) ∧ T.size + 1 ≤ 2 * (l * w) ∧ Ev (fun k => gangsawref25_part.l2 k ns (rowsL (val (exactF items) kf) wid (len + 1)) items (kf : Int) (x : Int) (y : Int) (l : Int) (w : Int) (val (exactF items) kf l w) (ns.length : Int) (a : Int)) (ns ++ T.enc kf ns.length) := by
  have hpos : 1 ≤ l * w := Nat.mul_pos hl1 hw1
  -- there is a way
  have hend : ∀ a, ¬ a + kf < w → (∀ c, 1 ≤ c → c < a → c + kf < w → ¬ val (exactF items) kf l c + val (exactF items) kf l (w - c - kf) = val (exactF items) kf l w) → False := by
    intro a ha hny;have hge := (m_bd hB kf _ l w (Nat.le_refl _) (by omega) (by omega)).1
    have hle : val (exactF items) kf l w ≤ val (exactF items) kf l w - 1 := by
      have h0 := val_eq (exactF items) kf l w;rw [if_neg (by omega)] at h0
      conv => lhs; rw [h0]
      have h1 := (m_cell (val (exactF items) kf) (exactF items l w) kf l w (val (exactF items) kf l w)).1 (by omega);rw [m_cell]
      refine ⟨?_, fun c h2 h3 => ?_, fun c h2 h3 => ?_⟩
      · rw [e_iff]
        refine ⟨by omega, fun it hi g1 g2 => ?_⟩
        have h4 := hni it hi g1 g2;have h5 := ((e_iff items l w _).1 h1.1).2 it hi g1 g2
        omega
      · have h4 := h1.2.1 c h2 h3;have h5 := hnx c h2 (by omega);rw [m_sum hB kf _ _ _ _ (by omega) (by omega) (by omega) (by omega)] at h4 ⊢
        omega
      · have h4 := h1.2.2 c h2 h3;have h5 := hny c h2 (by omega) (by omega);rw [m_sum hB kf _ _ _ _ (by omega) (by omega) (by omega) (by omega)] at h4 ⊢
        omega
    omega
  generalize hF : val (exactF items) kf = F at *;intro d
  induction d with
  | zero =>
    intro a hd ha haw hny;exact (hend a (by omega) hny).elim
  | succ d ihd =>
    intro a hd ha haw hny;by_cases hlt : a + kf < w
    · skip
      have hsm : wrap64 (F l a + F l (w - a - kf)) = F l a + F l (w - a - kf) := by
        rw [← hF]; exact m_sum hB kf _ _ _ _ (by omega) (by omega) (by omega) (by omega)
      have pre : ∀ k, gangsawref25_part.l2 (k + 1) ns (rowsL F wid (len + 1)) items (kf : Int) (x : Int) (y : Int) (l : Int) (w : Int) (F l w) (ns.length : Int) (a : Int) =
          if F l a + F l (w - a - kf) = F l w then (gangsawref25_part.f k (ns ++ [(⟨3, ⟨#[]⟩, 1, ((y + a : Nat) : Int), (kf : Int), ((ns.length + 1 : Nat) : Int), 0⟩ : S59)]) (rowsL F wid (len + 1)) items (kf : Int) (x : Int) (y : Int) (l : Int) (a : Int)).bind fun n1 =>
            (if 0 ≤ (ns.length : Int) then (if (ns.length : Int) < (n1.length : Int) then ((gangsawref25_part.f k (n1.set ((ns.length : Int)).toNat (⟨(rd_T59 n1 (ns.length : Int)).f0, (rd_T59 n1 (ns.length : Int)).f1, (rd_T59 n1 (ns.length : Int)).f2, (rd_T59 n1 (ns.length : Int)).f3, (rd_T59 n1 (ns.length : Int)).f4, (rd_T59 n1 (ns.length : Int)).f5, (n1.length : Int)⟩ : S59)) (rowsL F wid (len + 1)) items (kf : Int) (x : Int) ((y + a + kf : Nat) : Int) (l : Int) ((w - a - kf : Nat) : Int)).bind fun r => some r) else none) else none)
          else gangsawref25_part.l2 k ns (rowsL F wid (len + 1)) items (kf : Int) (x : Int) (y : Int) (l : Int) (w : Int) (F l w) (ns.length : Int) ((a + 1 : Nat) : Int) := by
        intro k;rw [gangsawref25_part.l2, wrapA (a := a) (b := kf) (by omega), if_pos (by omega), rowsL_len, if_pos (by omega), if_pos (by omega), if_pos (by omega), if_pos (by rw [rowsL_row (by omega), row_len]; omega), wrapS hlt (by omega), if_pos (by omega), if_pos (by rw [rowsL_row (by omega), row_len]; omega), rowsL_row (by omega), rd_row (by omega), rd_row (by omega), wrap_nat1 (n := a) (by omega), if_pos (show ns.length < 2199023255552 by omega), hsm, wrapA (a := y) (b := a) (by omega), wrapA (a := y + a) (b := kf) (by omega), wrap_nat1 (n := ns.length) (by omega)]
      clear hsm;by_cases hv : F l a + F l (w - a - kf) = F l w
      · have hsum : l * a + l * (w - a - kf) ≤ l * w := by rw [← Nat.mul_add]; exact Nat.mul_le_mul_left _ (by omega)
        have hp2 : 1 ≤ l * (w - a - kf) := Nat.mul_pos hl1 (by omega);obtain ⟨T1, hF1, hS1, hE1⟩ := ih l a (by omega) hl1 (Nat.le_refl _) ha (by omega) (ns ++ [(⟨3, ⟨#[]⟩, 1, ((y + a : Nat) : Int), (kf : Int), ((ns.length + 1 : Nat) : Int), 0⟩ : S59)]) x y (by simp; omega) (by omega) (by omega)
        have hl1' : (ns ++ [(⟨3, ⟨#[]⟩, 1, ((y + a : Nat) : Int), (kf : Int), ((ns.length + 1 : Nat) : Int), 0⟩ : S59)]).length = ns.length + 1 := by simp
        rw [hl1'] at hE1
        have hn1 : (ns ++ [(⟨3, ⟨#[]⟩, 1, ((y + a : Nat) : Int), (kf : Int), ((ns.length + 1 : Nat) : Int), 0⟩ : S59)] ++ T1.enc kf (ns.length + 1)).length = ns.length + 1 + T1.size := by rw [List.length_append, hl1', enc_len]
        obtain ⟨T2, hF2, hS2, hE2⟩ := ih l (w - a - kf) (by omega) hl1 (Nat.le_refl _) (by omega) (by omega) (ns ++ (⟨3, ⟨#[]⟩, 1, ((y + a : Nat) : Int), (kf : Int), ((ns.length + 1 : Nat) : Int), ((ns.length + 1 + T1.size : Nat) : Int)⟩ :: T1.enc kf (ns.length + 1)) : List S59) x (y + a + kf) (by rw [List.length_append, List.length_cons, enc_len]; omega) (by omega) (by omega)
        have hl2' : (ns ++ (⟨3, ⟨#[]⟩, 1, ((y + a : Nat) : Int), (kf : Int), ((ns.length + 1 : Nat) : Int), ((ns.length + 1 + T1.size : Nat) : Int)⟩ :: T1.enc kf (ns.length + 1)) : List S59).length = ns.length + 1 + T1.size := by rw [List.length_append, List.length_cons, enc_len]; omega
        rw [hl2'] at hE2;rw [hF] at hF1 hF2 hE1 hE2
        refine ⟨.cut 1 ((y + a : Nat) : Int) T1 T2, ⟨a, F l a, F l (w - a - kf), hv.symm, ha, hl1, hw1, .inr ⟨rfl, rfl, hlt, hF1, hF2⟩⟩, by rw [PT.size]; omega, Ev.step (fun k => (pre k).trans (if_pos hv)) (Ev.bind hE1 ?_)⟩
        refine Ev.congr (fun k => ?_) (?_ : Ev (fun k => (gangsawref25_part.f k (ns ++ (⟨3, ⟨#[]⟩, 1, ((y + a : Nat) : Int), (kf : Int), ((ns.length + 1 : Nat) : Int), ((ns.length + 1 + T1.size : Nat) : Int)⟩ :: T1.enc kf (ns.length + 1))) (rowsL F wid (len + 1)) items (kf : Int) (x : Int) ((y + a + kf : Nat) : Int) (l : Int) ((w - a - kf : Nat) : Int)).bind fun r => some r) _)
        (rw [if_pos (by omega), hn1, if_pos (by omega), rd_cut, Int.toNat_natCast, set_cut])
        · have := Ev.bind hE2 (Ev.now _);rw [PT.enc]
          simpa using this
      · obtain ⟨T, h1, h2, hE⟩ := ihd (a + 1) (by omega) (by omega) (by omega) (fun c h1 h2 h3 => by
          by_cases e : c = a
          · subst e; exact hv
          · exact hny c h1 (by omega) h3)
        exact ⟨T, h1, h2, Ev.step (fun k => (pre k).trans (if_neg hv)) hE⟩
    (exact (hend a hlt hny).elim)
set_option maxHeartbeats 1000000 in
theorem t_l1 (l w : Nat) (hl : l ≤ len) (hl1 : 1 ≤ l) (hw : w ≤ wid) (hw1 : 1 ≤ w) (ih : ∀ l' w', l' + w' < l + w → 1 ≤ l' → l' ≤ l → 1 ≤ w' → w' ≤ w → PartT len wid kf items l' w') (ns : List S59) (x y : Nat) (hns : ns.length + 2 * (l * w) ≤ 1000000) (hx : x + l ≤ 1000) (hy : y + w ≤ 1000)
    (hv0 : ¬ val (exactF items) kf l w = 0) (hni : ∀ it ∈ items, it.f1.f0 = (l : Int) → it.f1.f1 = (w : Int) → ¬ it.f2 = val (exactF items) kf l w) :
    ∀ (d a : Nat), l - a = d → 1 ≤ a → a ≤ l → (∀ c, 1 ≤ c → c < a → c + kf < l → ¬ val (exactF items) kf c w + val (exactF items) kf (l - c - kf) w = val (exactF items) kf l w) →
      ∃ T : PT, Fits items kf T x y l w (val (exactF items) kf l w) ∧ T.size + 1 ≤ 2 * (l * w) ∧ Ev (fun k => gangsawref25_part.l1 k ns (rowsL (val (exactF items) kf) wid (len + 1)) items (kf : Int) (x : Int) (y : Int) (l : Int) (w : Int) (val (exactF items) kf l w) (ns.length : Int) (a : Int)) (ns ++ T.enc kf ns.length) := by
  have hpos : 1 ≤ l * w := Nat.mul_pos hl1 hw1
  have hgo : (∀ c, 1 ≤ c → c + kf < l → ¬ val (exactF items) kf c w + val (exactF items) kf (l - c - kf) w = val (exactF items) kf l w) → _ := fun hnx => t_l2 len wid kf items hlen hwid hkf hB l w hl hl1 hw hw1 ih ns x y hns hx hy hv0 hni hnx (w - 1) 1 rfl (Nat.le_refl _) hw1 (fun c h1 h2 => by omega)
  generalize hF : val (exactF items) kf = F at *;intro d
  induction d with
  | zero =>
    intro a hd ha haw hny;obtain ⟨T, h1, h2, h3⟩ := hgo (fun c g1 g2 => hny c g1 (by omega) g2);exact ⟨T, h1, h2, Ev.step (fun k => by rw [gangsawref25_part.l1, wrapA (a := a) (b := kf) (by omega), if_neg (by omega)]; rfl) h3⟩
  | succ d ihd =>
    intro a hd ha haw hny;by_cases hlt : a + kf < l
    · skip
      have hsm : wrap64 (F a w + F (l - a - kf) w) = F a w + F (l - a - kf) w := by
        rw [← hF]; exact m_sum hB kf _ _ _ _ (by omega) (by omega) (by omega) (by omega)
      have pre : ∀ k, gangsawref25_part.l1 (k + 1) ns (rowsL F wid (len + 1)) items (kf : Int) (x : Int) (y : Int) (l : Int) (w : Int) (F l w) (ns.length : Int) (a : Int) =
          if F a w + F (l - a - kf) w = F l w then (gangsawref25_part.f k (ns ++ [(⟨3, ⟨#[]⟩, 0, ((x + a : Nat) : Int), (kf : Int), ((ns.length + 1 : Nat) : Int), 0⟩ : S59)]) (rowsL F wid (len + 1)) items (kf : Int) (x : Int) (y : Int) (a : Int) (w : Int)).bind fun n1 =>
            (if 0 ≤ (ns.length : Int) then (if (ns.length : Int) < (n1.length : Int) then ((gangsawref25_part.f k (n1.set ((ns.length : Int)).toNat (⟨(rd_T59 n1 (ns.length : Int)).f0, (rd_T59 n1 (ns.length : Int)).f1, (rd_T59 n1 (ns.length : Int)).f2, (rd_T59 n1 (ns.length : Int)).f3, (rd_T59 n1 (ns.length : Int)).f4, (rd_T59 n1 (ns.length : Int)).f5, (n1.length : Int)⟩ : S59)) (rowsL F wid (len + 1)) items (kf : Int) ((x + a + kf : Nat) : Int) (y : Int) ((l - a - kf : Nat) : Int) (w : Int)).bind fun r => some r) else none) else none)
          else gangsawref25_part.l1 k ns (rowsL F wid (len + 1)) items (kf : Int) (x : Int) (y : Int) (l : Int) (w : Int) (F l w) (ns.length : Int) ((a + 1 : Nat) : Int) := by
        intro k;rw [gangsawref25_part.l1, wrapA (a := a) (b := kf) (by omega), if_pos (by omega), rowsL_len, if_pos (by omega), if_pos (by omega), if_pos (by omega), if_pos (by rw [rowsL_row (by omega), row_len]; omega), wrapS hlt (by omega), if_pos (by omega), if_pos (by omega), if_pos (by rw [rowsL_row (by omega), row_len]; omega), rowsL_row (by omega), rowsL_row (by omega), rd_row (by omega), rd_row (by omega), wrap_nat1 (n := a) (by omega), if_pos (show ns.length < 2199023255552 by omega), hsm, wrapA (a := x) (b := a) (by omega), wrapA (a := x + a) (b := kf) (by omega), wrap_nat1 (n := ns.length) (by omega)]
      clear hsm;by_cases hv : F a w + F (l - a - kf) w = F l w
      · have hsum : a * w + (l - a - kf) * w ≤ l * w := by rw [← Nat.add_mul]; exact Nat.mul_le_mul_right _ (by omega)
        have hp2 : 1 ≤ (l - a - kf) * w := Nat.mul_pos (by omega) hw1;obtain ⟨T1, hF1, hS1, hE1⟩ := ih a w (by omega) ha (by omega) hw1 (Nat.le_refl _) (ns ++ [(⟨3, ⟨#[]⟩, 0, ((x + a : Nat) : Int), (kf : Int), ((ns.length + 1 : Nat) : Int), 0⟩ : S59)]) x y (by simp; omega) (by omega) (by omega)
        have hl1' : (ns ++ [(⟨3, ⟨#[]⟩, 0, ((x + a : Nat) : Int), (kf : Int), ((ns.length + 1 : Nat) : Int), 0⟩ : S59)]).length = ns.length + 1 := by simp
        rw [hl1'] at hE1
        have hn1 : (ns ++ [(⟨3, ⟨#[]⟩, 0, ((x + a : Nat) : Int), (kf : Int), ((ns.length + 1 : Nat) : Int), 0⟩ : S59)] ++ T1.enc kf (ns.length + 1)).length = ns.length + 1 + T1.size := by rw [List.length_append, hl1', enc_len]
        obtain ⟨T2, hF2, hS2, hE2⟩ := ih (l - a - kf) w (by omega) (by omega) (by omega) hw1 (Nat.le_refl _) (ns ++ (⟨3, ⟨#[]⟩, 0, ((x + a : Nat) : Int), (kf : Int), ((ns.length + 1 : Nat) : Int), ((ns.length + 1 + T1.size : Nat) : Int)⟩ :: T1.enc kf (ns.length + 1)) : List S59) (x + a + kf) y (by rw [List.length_append, List.length_cons, enc_len]; omega) (by omega) (by omega)
        have hl2' : (ns ++ (⟨3, ⟨#[]⟩, 0, ((x + a : Nat) : Int), (kf : Int), ((ns.length + 1 : Nat) : Int), ((ns.length + 1 + T1.size : Nat) : Int)⟩ :: T1.enc kf (ns.length + 1)) : List S59).length = ns.length + 1 + T1.size := by rw [List.length_append, List.length_cons, enc_len]; omega
        rw [hl2'] at hE2;rw [hF] at hF1 hF2 hE1 hE2
        refine ⟨.cut 0 ((x + a : Nat) : Int) T1 T2, ⟨a, F a w, F (l - a - kf) w, hv.symm, ha, hl1, hw1, .inl ⟨rfl, rfl, hlt, hF1, hF2⟩⟩, by rw [PT.size]; omega, Ev.step (fun k => (pre k).trans (if_pos hv)) (Ev.bind hE1 ?_)⟩
        refine Ev.congr (fun k => ?_) (?_ : Ev (fun k => (gangsawref25_part.f k (ns ++ (⟨3, ⟨#[]⟩, 0, ((x + a : Nat) : Int), (kf : Int), ((ns.length + 1 : Nat) : Int), ((ns.length + 1 + T1.size : Nat) : Int)⟩ :: T1.enc kf (ns.length + 1))) (rowsL F wid (len + 1)) items (kf : Int) ((x + a + kf : Nat) : Int) (y : Int) ((l - a - kf : Nat) : Int) (w : Int)).bind fun r => some r) _)
        (rw [if_pos (by omega), hn1, if_pos (by omega), rd_cut, Int.toNat_natCast, set_cut])
        · have := Ev.bind hE2 (Ev.now _);rw [PT.enc]
          simpa using this
      · obtain ⟨T, h1, h2, hE⟩ := ihd (a + 1) (by omega) (by omega) (by omega) (fun c h1 h2 h3 => by
          by_cases e : c = a
          · subst e; exact hv
          · exact hny c h1 (by omega) h3)
        exact ⟨T, h1, h2, Ev.step (fun k => (pre k).trans (if_neg hv)) hE⟩
    (obtain ⟨T, h1, h2, h3⟩ := hgo (fun c g1 g2 => hny c g1 (by omega) g2);exact ⟨T, h1, h2, Ev.step (fun k => by rw [gangsawref25_part.l1, wrapA (a := a) (b := kf) (by omega), if_neg (by omega)]; rfl) h3⟩)
theorem t_l0 (hit : items.length ≤ 1000) (l w : Nat) (hl : l ≤ len) (hl1 : 1 ≤ l) (hw : w ≤ wid) (hw1 : 1 ≤ w) (ih : ∀ l' w', l' + w' < l + w → 1 ≤ l' → l' ≤ l → 1 ≤ w' → w' ≤ w → PartT len wid kf items l' w') (ns : List S59) (x y : Nat) (hns : ns.length + 2 * (l * w) ≤ 1000000) (hx : x + l ≤ 1000) (hy : y + w ≤ 1000)
    (hv0 : ¬ val (exactF items) kf l w = 0) :
    ∀ (d i : Nat), items.length - i = d → (∀ j, j < i → j < items.length → (items.getD j z36).f1.f0 = (l : Int) → (items.getD j z36).f1.f1 = (w : Int) → ¬ (items.getD j z36).f2 = val (exactF items) kf l w) →
      ∃ T : PT, Fits items kf T x y l w (val (exactF items) kf l w) ∧ T.size + 1 ≤ 2 * (l * w) ∧ Ev (fun k => gangsawref25_part.l0 k ns (rowsL (val (exactF items) kf) wid (len + 1)) items (kf : Int) (x : Int) (y : Int) (l : Int) (w : Int) (val (exactF items) kf l w) (i : Int)) (ns ++ T.enc kf ns.length) := by
  have hpos : 1 ≤ l * w := Nat.mul_pos hl1 hw1;intro d
  induction d with
  | zero =>
    intro i hd hA
    obtain ⟨T, h1, h2, h3⟩ := t_l1 len wid kf items hlen hwid hkf hB l w hl hl1 hw hw1 ih ns x y hns hx hy hv0 (fun it hm g1 g2 => by
      obtain ⟨j, hj, rfl⟩ := mem_getD hm
      exact hA j (by omega) hj g1 g2) (l - 1) 1 rfl (Nat.le_refl _) hl1 (fun c h1 h2 => by omega)
    exact ⟨T, h1, h2, Ev.step (fun k => by rw [gangsawref25_part.l0, if_neg (by omega)]; rfl) h3⟩
  | succ d ihd =>
    intro i hd hA
    have hi : i < items.length := by omega
    have pre : ∀ k, gangsawref25_part.l0 (k + 1) ns (rowsL (val (exactF items) kf) wid (len + 1)) items (kf : Int) (x : Int) (y : Int) (l : Int) (w : Int) (val (exactF items) kf l w) (i : Int) =
        if (items.getD i z36).f1.f0 = (l : Int) then (if (items.getD i z36).f1.f1 = (w : Int) then (if (items.getD i z36).f2 = val (exactF items) kf l w then some (ns ++ [(⟨1, (items.getD i z36).f0, 0, 0, 0, 0, 0⟩ : S59)]) else gangsawref25_part.l0 k ns (rowsL (val (exactF items) kf) wid (len + 1)) items (kf : Int) (x : Int) (y : Int) (l : Int) (w : Int) (val (exactF items) kf l w) ((i + 1 : Nat) : Int)) else gangsawref25_part.l0 k ns (rowsL (val (exactF items) kf) wid (len + 1)) items (kf : Int) (x : Int) (y : Int) (l : Int) (w : Int) (val (exactF items) kf l w) ((i + 1 : Nat) : Int)) else gangsawref25_part.l0 k ns (rowsL (val (exactF items) kf) wid (len + 1)) items (kf : Int) (x : Int) (y : Int) (l : Int) (w : Int) (val (exactF items) kf l w) ((i + 1 : Nat) : Int) := by
      intro k;rw [gangsawref25_part.l0, if_pos (by omega), if_pos (by omega), rdT, wrap_nat1 (by omega), if_pos (show ns.length < 2199023255552 by omega)]
    have H := fun (h : (items.getD i z36).f1.f0 = (l : Int) → (items.getD i z36).f1.f1 = (w : Int) → ¬ (items.getD i z36).f2 = val (exactF items) kf l w) => ihd (i + 1) (by omega) (fun j h1 h2 => by
      by_cases e : j = i
      · subst e; exact h
      · exact hA j (by omega) h2)
    by_cases c1 : (items.getD i z36).f1.f0 = (l : Int)
    · by_cases c2 : (items.getD i z36).f1.f1 = (w : Int)
      · by_cases c3 : (items.getD i z36).f2 = val (exactF items) kf l w
        (exact ⟨.prod (items.getD i z36), ⟨hl1, hw1, getD_mem hi, c1, c2, c3⟩, by rw [PT.size]; omega, Ev.step (fun k => (pre k).trans (by rw [if_pos c1, if_pos c2, if_pos c3]; rfl)) (Ev.now _)⟩);(obtain ⟨T, h1, h2, hE⟩ := H (fun _ _ => c3);exact ⟨T, h1, h2, Ev.step (fun k => (pre k).trans (by rw [if_pos c1, if_pos c2, if_neg c3])) hE⟩)
      (obtain ⟨T, h1, h2, hE⟩ := H (fun _ g => absurd g c2);exact ⟨T, h1, h2, Ev.step (fun k => (pre k).trans (by rw [if_pos c1, if_neg c2])) hE⟩)
    (obtain ⟨T, h1, h2, hE⟩ := H (fun g => absurd g c1);exact ⟨T, h1, h2, Ev.step (fun k => (pre k).trans (by rw [if_neg c1])) hE⟩)
theorem part_tree (hit : items.length ≤ 1000) : ∀ (N l w : Nat), l + w ≤ N → l ≤ len → 1 ≤ l → w ≤ wid → 1 ≤ w → PartT len wid kf items l w := by
  intro N
  induction N with
  | zero => intro l w h _ h1; omega
  | succ N ihN =>
    intro l w hN hl hl1 hw hw1 ns x y hns hx hy;have hpos : 1 ≤ l * w := Nat.mul_pos hl1 hw1
    have ih : ∀ l' w', l' + w' < l + w → 1 ≤ l' → l' ≤ l → 1 ≤ w' → w' ≤ w → PartT len wid kf items l' w' := fun l' w' h1 h2 h3 h4 h5 => ihN l' w' (by omega) (by omega) h2 (by omega) h4
    have pre : ∀ k, gangsawref25_part.f (k + 1) ns (rowsL (val (exactF items) kf) wid (len + 1)) items (kf : Int) (x : Int) (y : Int) (l : Int) (w : Int) = if val (exactF items) kf l w = 0 then some (ns ++ [(⟨0, ⟨#[]⟩, 0, 0, 0, 0, 0⟩ : S59)]) else gangsawref25_part.l0 k ns (rowsL (val (exactF items) kf) wid (len + 1)) items (kf : Int) (x : Int) (y : Int) (l : Int) (w : Int) (val (exactF items) kf l w) 0 := by
      intro k;rw [gangsawref25_part.f, rowsL_len, if_pos (by omega), if_pos (by omega), if_pos (by omega), if_pos (by rw [rowsL_row (by omega), row_len]; omega), rowsL_row (by omega), rd_row (by omega), if_pos (show ns.length < 2199023255552 by omega)]
    by_cases hv : val (exactF items) kf l w = 0
    (exact ⟨.waste, ⟨hl1, hw1, hv⟩, by rw [PT.size]; omega, Ev.step (fun k => (pre k).trans (if_pos hv)) (Ev.now _)⟩);(obtain ⟨T, h1, h2, hE⟩ := t_l0 len wid kf items hlen hwid hkf hB hit l w hl hl1 hw hw1 ih ns x y hns hx hy hv items.length 0 rfl (fun j h => absurd h (Nat.not_lt_zero _));exact ⟨T, h1, h2, Ev.step (fun k => (pre k).trans (if_neg hv)) hE⟩)
end
end Go.Proofs.Ytdnjagfbhppmbaa.Pure
