import Derived.Test.YtdnjagfbhppmbaaPug
import Derived.Test.YtdnjagfbhppmbaaPAx10
import Derived.Test.YtdnjagfbhppmbaaPAx203
import Derived.Test.YtdnjagfbhppmbaaPuc
import Derived.Test.YtdnjagfbhppmbaaOp
namespace Go.Proofs.Ytdnjagfbhppmbaa.Pure
open Go.RowKit Go.Proofs.Ytdnjagfbhppmbaa Go.Proofs.Ytdnjagfbhppmbaa.PA Go.Proofs.YtdnjagfbhppmbaaW.PrintWords Go.Proofs.YtdnjagfbhppmbaaW.PrintLast Go.Proofs.YtdnjagfbhppmbaaW.PrintMore
set_option linter.unusedVariables false
set_option linter.unusedSimpArgs false

/-- what the reference asks of a cell -/
def cR (t : List (List Int)) (items : List S36) (kf l w : Nat) : Prop := ¬ G t l w < exactF items l w ∧ cA t kf l w 1 ∧ cB t kf l w 1
section
variable (L Wd kf : Nat) (t : List (List Int)) (items : List S36) (hL : L ≤ 1000) (hW : Wd ≤ 1000) (hk : kf ≤ 1000) (hi : items.length ≤ 1000) (ht : t.length = L + 1)
section
variable (hr : ∀ a, a ≤ L → (rd_L5 t (a : Int)).length = Wd + 1)
include hL hW hk hi ht hr
theorem rv_l5 (l w : Nat) (hl : l ≤ L) (hw : w ≤ Wd) (P : Prop) (N : Dec (fun k => gangsawref25_Proves.l3 k (L : Int) (Wd : Int) items (kf : Int) t (l : Int) ((w + 1 : Nat) : Int)) P) :
    ∀ (d b : Nat), w - b = d → 1 ≤ b → b ≤ w + 1 → Dec (fun k => gangsawref25_Proves.l5 k (L : Int) (Wd : Int) items (kf : Int) t (l : Int) (w : Int) (b : Int)) (cB t kf l w b ∧ P) := by
  have _u1 := hL
  have _u2 := hk
  have _u3 := hi
  intro d
  induction d with
  | zero =>
    intro b hd h1 h2
    refine Dec.iff (Dec.step (fun k => ?_) N) ⟨fun h => ⟨fun c h3 h4 => by omega, h⟩, fun h => h.2⟩
    rw [gangsawref25_Proves.l5, if_neg (by unfold wrap64; omega), wrap_nat1 (by omega)]
  | succ d ih =>
    intro b hd h1 h2
    by_cases hlt : b + kf < w
    · have e1 : wrap64 (wrap64 ((w : Int) - (b : Int)) - (kf : Int)) = ((w - b - kf : Nat) : Int) := by
        have h1 : wrap64 ((w : Int) - (b : Int)) = (w : Int) - b := by unfold wrap64; omega
        rw [h1]; unfold wrap64; omega
      have hrl := hr l hl
      by_cases hb : G t l w < wrap64 (G t l b + G t l (w - b - kf))
      · refine Dec.no (fun k => ?_) (fun h => h.1 b (Nat.le_refl _) hlt hb)
        rw [gangsawref25_Proves.l5, if_pos (by unfold wrap64; omega), e1, if_pos (by omega), if_pos (by omega), if_pos (by omega), if_pos (by omega), if_pos (by omega), if_pos (by omega), if_pos (by omega), if_pos (by omega)]; exact if_pos hb
      · refine Dec.iff (Dec.step (fun k => ?_) (ih (b + 1) (by omega) (by omega) (by omega))) ⟨fun h => ⟨fun c h3 h4 => ?_, h.2⟩, fun h => ⟨fun c h3 h4 => h.1 c (by omega) h4, h.2⟩⟩
        · rw [gangsawref25_Proves.l5, if_pos (by unfold wrap64; omega), e1, if_pos (by omega), if_pos (by omega), if_pos (by omega), if_pos (by omega), if_pos (by omega), if_pos (by omega), if_pos (by omega), if_pos (by omega), wrap_nat1 (by omega)]; exact if_neg hb
        · by_cases e : c = b
          · subst e; exact hb
          · exact h.1 c (by omega) h4
    · refine Dec.iff (Dec.step (fun k => ?_) N) ⟨fun h => ⟨fun c h3 h4 => by omega, h⟩, fun h => h.2⟩
      rw [gangsawref25_Proves.l5, if_neg (by unfold wrap64; omega), wrap_nat1 (by omega)]
theorem rv_l4 (l w : Nat) (hl : l ≤ L) (hw : w ≤ Wd) (hw1 : 1 ≤ w) (P : Prop) (N : Dec (fun k => gangsawref25_Proves.l3 k (L : Int) (Wd : Int) items (kf : Int) t (l : Int) ((w + 1 : Nat) : Int)) P) :
    ∀ (d a : Nat), l - a = d → 1 ≤ a → a ≤ l + 1 → Dec (fun k => gangsawref25_Proves.l4 k (L : Int) (Wd : Int) items (kf : Int) t (l : Int) (w : Int) (a : Int)) (cA t kf l w a ∧ cB t kf l w 1 ∧ P) := by
  have M := rv_l5 L Wd kf t items hL hW hk hi ht hr l w hl hw P N (w - 1) 1 rfl (Nat.le_refl _) (by omega)
  have _u1 := hL
  have _u2 := hk
  have _u3 := hi
  intro d
  induction d with
  | zero =>
    intro a hd h1 h2
    refine Dec.iff (Dec.step (fun k => ?_) M) ⟨fun h => ⟨fun c h3 h4 => by omega, h⟩, fun h => h.2⟩
    rw [gangsawref25_Proves.l4, if_neg (by unfold wrap64; omega)]; rfl
  | succ d ih =>
    intro a hd h1 h2
    by_cases hlt : a + kf < l
    · have e1 : wrap64 (wrap64 ((l : Int) - (a : Int)) - (kf : Int)) = ((l - a - kf : Nat) : Int) := by
        have h1 : wrap64 ((l : Int) - (a : Int)) = (l : Int) - a := by unfold wrap64; omega
        rw [h1]; unfold wrap64; omega
      have hrl := hr l hl
      have hra := hr a (by omega)
      have hrb := hr (l - a - kf) (by omega)
      by_cases hb : G t l w < wrap64 (G t a w + G t (l - a - kf) w)
      · refine Dec.no (fun k => ?_) (fun h => h.1 a (Nat.le_refl _) hlt hb)
        rw [gangsawref25_Proves.l4, if_pos (by unfold wrap64; omega), e1, if_pos (by omega), if_pos (by omega), if_pos (by omega), if_pos (by omega), if_pos (by omega), if_pos (by omega), if_pos (by omega), if_pos (by omega), if_pos (by omega), if_pos (by omega)]; exact if_pos hb
      · refine Dec.iff (Dec.step (fun k => ?_) (ih (a + 1) (by omega) (by omega) (by omega))) ⟨fun h => ⟨fun c h3 h4 => ?_, h.2⟩, fun h => ⟨fun c h3 h4 => h.1 c (by omega) h4, h.2⟩⟩
        · rw [gangsawref25_Proves.l4, if_pos (by unfold wrap64; omega), e1, if_pos (by omega), if_pos (by omega), if_pos (by omega), if_pos (by omega), if_pos (by omega), if_pos (by omega), if_pos (by omega), if_pos (by omega), if_pos (by omega), if_pos (by omega), wrap_nat1 (by omega)]; exact if_neg hb
        · by_cases e : c = a
          · subst e; exact hb
          · exact h.1 c (by omega) h4
    · refine Dec.iff (Dec.step (fun k => ?_) M) ⟨fun h => ⟨fun c h3 h4 => by omega, h⟩, fun h => h.2⟩
      rw [gangsawref25_Proves.l4, if_neg (by unfold wrap64; omega)]; rfl
theorem rv_l3 (l : Nat) (hl : l ≤ L) (P : Prop) (N : Dec (fun k => gangsawref25_Proves.l2 k (L : Int) (Wd : Int) items (kf : Int) t ((l + 1 : Nat) : Int)) P) (hl1 : 1 ≤ l) :
    ∀ (d w : Nat), Wd + 1 - w = d → 1 ≤ w → w ≤ Wd + 1 → Dec (fun k => gangsawref25_Proves.l3 k (L : Int) (Wd : Int) items (kf : Int) t (l : Int) (w : Int)) ((∀ c, w ≤ c → c ≤ Wd → cR t items kf l c) ∧ P) := by
  have _u1 := hL
  have _u2 := hk
  have _u3 := hi
  intro d
  induction d with
  | zero =>
    intro w hd h1 h2
    refine Dec.iff (Dec.step (fun k => ?_) N) ⟨fun h => ⟨fun c h3 h4 => by omega, h⟩, fun h => h.2⟩
    rw [gangsawref25_Proves.l3, if_neg (by omega), wrap_nat1 (by omega)]
  | succ d ih =>
    intro w hd h1 h2
    have hrl := hr l hl
    have M := rv_l4 L Wd kf t items hL hW hk hi ht hr l w hl (by omega) h1 _ (ih (w + 1) (by omega) (by omega) (by omega)) (l - 1) 1 rfl (Nat.le_refl _) (by omega)
    have It := item_f items hi l w
    have step : ∀ (b : Bool) (f : Nat → Option Bool), Ev f b → (∀ k, (if rd (rd_L5 t (l : Int)) (w : Int) < exactF items l w then some false else gangsawref25_Proves.l4 k (L : Int) (Wd : Int) items (kf : Int) t (l : Int) (w : Int) 1) = f k) → Ev (fun k => gangsawref25_Proves.l3 k (L : Int) (Wd : Int) items (kf : Int) t (l : Int) (w : Int)) b := by
      intro b f hf he
      refine Ev.step (f := fun k => (gangsawref25_item.f k items (l : Int) (w : Int)).bind fun v => if rd (rd_L5 t (l : Int)) (w : Int) < v then some false else gangsawref25_Proves.l4 k (L : Int) (Wd : Int) items (kf : Int) t (l : Int) (w : Int) 1) (fun k => ?_) (Ev.bind It (Ev.congr he hf))
      rw [gangsawref25_Proves.l3, if_pos (by omega), if_pos (by omega), if_pos (by omega), if_pos (by omega), if_pos (by omega)]
    by_cases hb : rd (rd_L5 t (l : Int)) (w : Int) < exactF items l w
    · exact ⟨false, step false _ (Ev.now false) (fun k => if_pos hb), by simp; intro h; exact absurd hb (h w (Nat.le_refl _) (by omega)).1⟩
    · obtain ⟨b, hb1, hb2⟩ := M
      refine ⟨b, step b _ hb1 (fun k => if_neg hb), hb2.trans ⟨fun h => ⟨fun c h3 h4 => ?_, h.2.2.2⟩, fun h => ⟨(h.1 w (Nat.le_refl _) (by omega)).2.1, (h.1 w (Nat.le_refl _) (by omega)).2.2, fun c h3 h4 => h.1 c (by omega) h4, h.2⟩⟩⟩
      by_cases e : c = w
      · subst e; exact ⟨hb, h.1, h.2.1⟩
      · exact h.2.2.1 c (by omega) h4
theorem rv_l2 : ∀ (d l : Nat), L + 1 - l = d → 1 ≤ l → l ≤ L + 1 → Dec (fun k => gangsawref25_Proves.l2 k (L : Int) (Wd : Int) items (kf : Int) t (l : Int)) (∀ a, l ≤ a → a ≤ L → ∀ c, 1 ≤ c → c ≤ Wd → cR t items kf a c) := by
  have _u1 := hL
  have _u2 := hk
  have _u3 := hi
  intro d
  induction d with
  | zero =>
    intro l hd h1 h2
    refine Dec.yes (fun k => ?_) (fun a h3 h4 => by omega)
    rw [gangsawref25_Proves.l2, if_neg (by omega)]
  | succ d ih =>
    intro l hd h1 h2
    have M := rv_l3 L Wd kf t items hL hW hk hi ht hr l (by omega) _ (ih (l + 1) (by omega) (by omega) (by omega)) h1 Wd 1 (by omega) (Nat.le_refl _) (by omega)
    refine Dec.iff (Dec.step (fun k => ?_) M) ⟨fun h a h3 h4 => ?_, fun h => ⟨h l (Nat.le_refl _) (by omega), fun a h3 h4 => h a (by omega) h4⟩⟩
    · rw [gangsawref25_Proves.l2, if_pos (by omega)]; rfl
    · by_cases e : a = l
      · subst e; exact h.1
      · exact h.2 a (by omega) h4
end
include hL hW hk hi ht
/-- entry c of a row is in its range -/
def eOK (t : List (List Int)) (i c : Nat) : Prop := ¬ G t i c < 0 ∧ ¬ G t i c > 1000000000000000
theorem rv_l1 (i : Nat) (hiL : i ≤ L) (hlen : (rd_L5 t (i : Int)).length = Wd + 1) (P : Prop) (N : (∀ c, c ≤ Wd → eOK t i c) → Dec (fun k => gangsawref25_Proves.l0 k (L : Int) (Wd : Int) items (kf : Int) t ((i + 1 : Nat) : Int)) P) (hP : P → ∀ c, c ≤ Wd → eOK t i c) :
    ∀ (d c : Nat), Wd + 1 - c = d → (∀ e, e < c → e ≤ Wd → eOK t i e) → Dec (fun k => gangsawref25_Proves.l1 k (L : Int) (Wd : Int) items (kf : Int) t (i : Int) (c : Int)) P := by
  have _u1 := hL
  have _u2 := hk
  have _u3 := hi
  intro d
  induction d with
  | zero =>
    intro c hd hc
    refine Dec.step (fun k => ?_) (N (fun e he => hc e (by omega) he))
    rw [gangsawref25_Proves.l1, if_neg (by omega), wrap_nat1 (by omega)]
  | succ d ih =>
    intro c hd hc
    by_cases h1 : rd (rd_L5 t (i : Int)) (c : Int) < 0
    · refine Dec.no (fun k => ?_) (fun h => (hP h c (by omega)).1 h1)
      rw [gangsawref25_Proves.l1, if_pos (by omega), if_pos (by omega), if_pos (by omega), if_pos (by omega), if_pos (by omega), if_pos h1]
    · by_cases h2 : rd (rd_L5 t (i : Int)) (c : Int) > 1000000000000000
      · refine Dec.no (fun k => ?_) (fun h => (hP h c (by omega)).2 h2)
        rw [gangsawref25_Proves.l1, if_pos (by omega), if_pos (by omega), if_pos (by omega), if_pos (by omega), if_pos (by omega), if_neg h1, if_pos h2]
      · refine Dec.step (fun k => ?_) (ih (c + 1) (by omega) (fun e he1 he2 => ?_))
        · rw [gangsawref25_Proves.l1, if_pos (by omega), if_pos (by omega), if_pos (by omega), if_pos (by omega), if_pos (by omega), if_neg h1, if_neg h2, wrap_nat1 (by omega)]
        · by_cases e2 : e = c
          · subst e2; exact ⟨h1, h2⟩
          · exact hc e (by omega) he2
theorem rowOK_iff (i : Nat) (hlen : (rd_L5 t (i : Int)).length = Wd + 1) : rowOK Wd t i ↔ ∀ c, c ≤ Wd → eOK t i c := by
  have _u1 := hL
  have _u2 := hW
  have _u3 := hk
  have _u4 := hi
  have _u5 := ht
  unfold rowOK
  rw [List.any_eq_false]
  constructor
  · rintro ⟨_, h⟩ c hc
    have hm : (rd_L5 t (i : Int))[c]'(by omega) ∈ rd_L5 t (i : Int) := List.getElem_mem _
    have h2 := h _ hm
    have e : G t i c = (rd_L5 t (i : Int))[c]'(by omega) := by
      unfold G rd
      rw [Int.toNat_natCast, List.getD_eq_getElem?_getD, List.getElem?_eq_getElem (by omega)]; rfl
    unfold eOK
    rw [e]
    unfold badN at h2
    simp at h2
    omega
  · intro h
    refine ⟨hlen, fun x hx => ?_⟩
    obtain ⟨c, hc, rfl⟩ := List.getElem_of_mem hx
    have h2 := h c (by omega)
    have e : G t i c = (rd_L5 t (i : Int))[c] := by
      unfold G rd
      rw [Int.toNat_natCast, List.getD_eq_getElem?_getD, List.getElem?_eq_getElem (by omega)]; rfl
    unfold eOK at h2
    rw [e] at h2
    unfold badN
    simp
    omega
theorem rv_l0 (P : Prop) (N : (∀ j, j < t.length → rowOK Wd t j) → Dec (fun k => gangsawref25_Proves.l2 k (L : Int) (Wd : Int) items (kf : Int) t 1) P) :
    ∀ (d i : Nat), L + 1 - i = d → i ≤ L + 1 → (∀ j, j < i → rowOK Wd t j) → Dec (fun k => gangsawref25_Proves.l0 k (L : Int) (Wd : Int) items (kf : Int) t (i : Int)) ((∀ j, j < t.length → rowOK Wd t j) ∧ P) := by
  have _u1 := hL
  have _u2 := hk
  have _u3 := hi
  intro d
  induction d with
  | zero =>
    intro i hd hiL hall
    have hall' : ∀ j, j < t.length → rowOK Wd t j := fun j hj => hall j (by omega)
    refine Dec.iff (Dec.step (fun k => ?_) (N hall')) ⟨fun h => ⟨hall', h⟩, fun h => h.2⟩
    rw [gangsawref25_Proves.l0, if_neg (by omega)]
  | succ d ih =>
    intro i hd hiL hall
    have e1 : wrap64 ((Wd : Int) + 1) = ((Wd + 1 : Nat) : Int) := wrap_nat1 (by omega)
    by_cases hlen : (rd_L5 t (i : Int)).length = Wd + 1
    · have M := rv_l1 L Wd kf t items hL hW hk hi ht i (by omega) hlen ((∀ j, j < t.length → rowOK Wd t j) ∧ P) (fun h => ih (i + 1) (by omega) (by omega) (fun j hj => by
        by_cases e : j = i
        · subst e; exact (rowOK_iff L Wd kf t items hL hW hk hi ht j hlen).2 h
        · exact hall j (by omega))) (fun h => (rowOK_iff L Wd kf t items hL hW hk hi ht i hlen).1 (h.1 i (by omega))) (Wd + 1) 0 rfl (fun e h => by omega)
      refine Dec.step (fun k => ?_) M
      rw [gangsawref25_Proves.l0, if_pos (by omega), if_pos (by omega), if_pos (by omega), e1, if_pos (by omega)]; rfl
    · refine Dec.no (fun k => ?_) (fun h => hlen (h.1 i (by omega)).1)
      rw [gangsawref25_Proves.l0, if_pos (by omega), if_pos (by omega), if_pos (by omega), e1, if_neg (by omega)]
end
theorem mx_le {a b v : Int} (h1 : a ≤ v) (h2 : b ≤ v) : mx a b ≤ v := by unfold mx; split <;> omega
theorem le_mx1 (a b : Int) : a ≤ mx a b := by unfold mx; split <;> omega
theorem le_mx2 (a b : Int) : b ≤ mx a b := by unfold mx; split <;> omega
theorem exact_le {l : List S36} {a b : Nat} {v : Int} (h0 : 0 ≤ v) (h : ∀ x ∈ l, x.f1.f0 = (a : Int) → x.f1.f1 = (b : Int) → x.f2 ≤ v) : exactF l a b ≤ v := by
  unfold exactF
  have : ∀ (l : List S36) (m : Int), m ≤ v → (∀ x ∈ l, x.f1.f0 = (a : Int) → x.f1.f1 = (b : Int) → x.f2 ≤ v) → l.foldl (fun m x => if x.f1.f0 = (a : Int) ∧ x.f1.f1 = (b : Int) then mx m x.f2 else m) m ≤ v := by
    intro l
    induction l with
    | nil => intro m hm _; exact hm
    | cons x t ih =>
      intro m hm h
      rw [List.foldl_cons]
      refine ih _ ?_ (fun y hy => h y (by simp [hy]))
      split
      · next hx => exact mx_le hm (h x (by simp) hx.1 hx.2)
      · exact hm
  exact this l 0 h0 h
theorem le_exact0 (l : List S36) (a b : Nat) : ∀ m : Int, m ≤ l.foldl (fun m x => if x.f1.f0 = (a : Int) ∧ x.f1.f1 = (b : Int) then mx m x.f2 else m) m := by
  induction l with
  | nil => intro m; exact Int.le_refl _
  | cons x t ih =>
    intro m
    rw [List.foldl_cons]
    refine Int.le_trans ?_ (ih _)
    split
    · exact le_mx1 _ _
    · exact Int.le_refl _
theorem le_exact {l : List S36} {a b : Nat} {x : S36} (hx : x ∈ l) (h1 : x.f1.f0 = (a : Int)) (h2 : x.f1.f1 = (b : Int)) : x.f2 ≤ exactF l a b := by
  unfold exactF
  have : ∀ (l : List S36) (m : Int), x ∈ l → x.f2 ≤ l.foldl (fun m x => if x.f1.f0 = (a : Int) ∧ x.f1.f1 = (b : Int) then mx m x.f2 else m) m := by
    intro l
    induction l with
    | nil => intro m h; simp at h
    | cons y t ih =>
      intro m h
      rw [List.foldl_cons]
      rcases List.mem_cons.1 h with rfl | h
      · refine Int.le_trans ?_ (le_exact0 t a b _)
        rw [if_pos ⟨h1, h2⟩]
        exact le_mx2 _ _
      · exact ih _ h
  exact this l 0 hx
theorem sound_iff (L Wd kf : Nat) (t : List (List Int)) (items : List S36) (ht : t.length = L + 1) (hi : items.length ≤ 1000) (hL : L ≤ 1000) (hW : Wd ≤ 1000) (hk : kf ≤ 1000) (hv : ∀ x ∈ items, (1 ≤ x.f1.f0) ∧ (1 ≤ x.f1.f1)) :
    ((∀ j, j < t.length → rowOK Wd t j) ∧ ∀ a, 1 ≤ a → a ≤ L → ∀ c, 1 ≤ c → c ≤ Wd → cR t items kf a c) ↔ sound L Wd kf t items := by
  unfold sound
  constructor
  · rintro ⟨h1, h2⟩
    refine ⟨ht, h1, fun j _ hj h3 h4 h5 => ?_, fun a h3 h4 c h5 h6 => (h2 a h3 h4 c h5 h6).2⟩
    have hm : items.getD j z36 ∈ items := by
      rw [List.getD_eq_getElem?_getD, List.getElem?_eq_getElem hj]
      exact List.getElem_mem _
    obtain ⟨v0, v1⟩ := hv _ hm
    generalize items.getD j z36 = x at *
    have h6 := (h2 x.f1.f0.toNat (by omega) (by omega) x.f1.f1.toNat (by omega) (by omega)).1
    have h7 := le_exact (a := x.f1.f0.toNat) (b := x.f1.f1.toNat) hm (by omega) (by omega)
    omega
  · rintro ⟨_, h1, h2, h3⟩
    refine ⟨h1, fun a ha1 ha2 c hc1 hc2 => ⟨?_, h3 a ha1 ha2 c hc1 hc2⟩⟩
    have hrow := h1 a (by omega)
    have hg := ((rowOK_iff L Wd kf t items hL hW hk hi ht a hrow.1).1 hrow c hc2).1
    have := exact_le (l := items) (a := a) (b := c) (v := G t a c) (by omega) (fun x hx e1 e2 => by
      obtain ⟨j, hj, rfl⟩ := List.getElem_of_mem hx
      have h4 := h2 j (Nat.zero_le _) hj
      have e3 : items.getD j z36 = items[j] := by rw [List.getD_eq_getElem?_getD, List.getElem?_eq_getElem hj]; rfl
      rw [e3] at h4
      unfold iOK at h4
      have h5 := h4 (by omega) (by omega)
      have e4 : items[j].f1.f0.toNat = a := by omega
      have e5 : items[j].f1.f1.toNat = c := by omega
      rw [e4, e5] at h5
      omega)
    omega
theorem rproves_f (L Wd kf : Nat) (t : List (List Int)) (items : List S36) (hc : checkR (L : Int) (Wd : Int) items (kf : Int) = 0) (hM : ∀ x ∈ items, x.f0.size ≤ 100) :
    Dec (fun k => gangsawref25_Proves.f k (L : Int) (Wd : Int) items (kf : Int) t) (sound L Wd kf t items) := by
  obtain ⟨g0, g1, g2, g3, g4⟩ := chk0 hc
  have e1 : wrap64 ((L : Int) + 1) = ((L + 1 : Nat) : Int) := wrap_nat1 (by omega)
  have C : Ev (fun k => gangsawref25_Check.f k (L : Int) (Wd : Int) items (kf : Int)) 0 := ⟨4 * items.length + 100 + 9, fun k hk => by rw [← hc]; exact check_f (L : Int) (Wd : Int) items (kf : Int) (by omega) 100 hM (by omega) k (by omega)⟩
  by_cases hlen : t.length = L + 1
  · have K := rv_l0 L Wd kf t items (by omega) (by omega) (by omega) (by omega) hlen _ (fun hrows => rv_l2 L Wd kf t items (by omega) (by omega) (by omega) (by omega) hlen (fun a ha => (hrows a (by omega)).1) L 1 (by omega) (Nat.le_refl _) (by omega)) (L + 1) 0 rfl (by omega) (fun j hj => by omega)
    have K2 := K.iff (sound_iff L Wd kf t items hlen (by omega) (by omega) (by omega) (by omega) (fun x hx => by
        have := g4 x hx
        unfold badSize sideB at this
        simp at this
        omega))
    obtain ⟨b, hb, hiff⟩ := K2
    refine ⟨b, Ev.bind C (Ev.congr (fun k => ?_) (Ev.step (f := fun k => gangsawref25_Proves.l0 k (L : Int) (Wd : Int) items (kf : Int) t ((0 : Nat) : Int)) (g := fun k => gangsawref25_Proves.j0 k (L : Int) (Wd : Int) items (kf : Int) t false) (fun k => ?_) hb)), hiff⟩
    · rw [if_pos rfl, e1]
      congr 1
      simp; omega
    · rw [gangsawref25_Proves.j0, if_neg (by simp)]; rfl
  · refine ⟨false, Ev.bind C (Ev.congr (fun k => ?_) (Ev.step (f := fun _ => some false) (g := fun k => gangsawref25_Proves.j0 k (L : Int) (Wd : Int) items (kf : Int) t true) (fun k => ?_) (Ev.now _))), by simp; intro h; exact absurd h.1 hlen⟩
    · rw [if_pos rfl, e1]
      congr 1
      simp; omega
    · rw [gangsawref25_Proves.j0, if_pos rfl]
theorem rproves_bad (a0 a1 a3 : Int) (t : List (List Int)) (items : List S36) (hl : items.length ≤ 1000) (hc : ¬ checkR a0 a1 items a3 = 0) (hM : ∀ x ∈ items, x.f0.size ≤ 100) :
    Ev (fun k => gangsawref25_Proves.f k a0 a1 items a3 t) false := by
  have C : Ev (fun k => gangsawref25_Check.f k a0 a1 items a3) (checkR a0 a1 items a3) := ⟨4 * items.length + 100 + 9, fun k hk => check_f a0 a1 items a3 hl 100 hM (by omega) k (by omega)⟩
  refine Ev.bind C (Ev.congr (fun k => ?_) (Ev.step (f := fun _ => some false) (g := fun k => gangsawref25_Proves.j0 k a0 a1 items a3 t true) (fun k => ?_) (Ev.now _)))
  · rw [if_neg hc]
  · rw [gangsawref25_Proves.j0, if_pos rfl]
theorem FlatpackProves (a0 a1 : Int) (l2 : List S36) (a3 : Int) (l4 : List (List Int)) (_ : Rng a0) (_ : Rng a1) (_ : l2.length ≤ maxLen) (_ : ∀ x ∈ l2, Good36 x) (_ : Rng a3) (_ : l4.length ≤ maxLen) (_ : ∀ l ∈ l4, l.length ≤ maxLen ∧ ∀ a ∈ l, Rng a) :
    ∃ k, gangsawlaw25_FlatpackProves.f k a0 a1 l2 a3 l4 = some true := by
  have key : Ev (fun k => gangsawlaw25_FlatpackProves.f k a0 a1 l2 a3 l4) true := by
    obtain ⟨s, hs, hsp⟩ : ∃ s, Ev (fun k => gangsawref25_Small.f k a0 a1 l2) s ∧ (s = true → (a0 ≤ 14 ∨ 40 < a0) ∧ (a1 ≤ 14 ∨ 40 < a1) ∧ l2.length ≤ 10 ∧ ∀ x ∈ l2, x.f0.size ≤ 100) := by
      obtain ⟨s, hs, hp⟩ := small_f a0 a1 l2 21 (by omega)
      exact ⟨s, Ev.of (fun k => gangsawref25_Small.mono _ _ _ k) hs, hp⟩
    have yes : Ev (fun k => gangsawlaw25_FlatpackProves.j0 k a0 a1 l2 a3 l4 true) true := Ev.step (f := fun _ => some true) (fun k => by rw [gangsawlaw25_FlatpackProves.j0, if_pos rfl]) (Ev.now _)
    refine Ev.congr (fun k => rfl) (?_ : Ev (fun k => (gangsawlaw25_awake.f k).bind fun t381 => (if t381 = true then ((gangsawref25_Small.f k a0 a1 l2).bind fun t382 => (if t382 = true then ((gangsawref25_Few.f k l4).bind fun t383 => (gangsawlaw25_FlatpackProves.j0 k a0 a1 l2 a3 l4 (!t383))) else (gangsawlaw25_FlatpackProves.j0 k a0 a1 l2 a3 l4 true))) else (none))) true)
    refine Ev.bind awake_f (Ev.congr (fun k => if_pos rfl) (Ev.bind hs ?_))
    cases s with
    | false => exact Ev.congr (fun k => if_neg (by simp)) yes
    | true =>
      obtain ⟨h0, h1, h2, h3⟩ := hsp rfl
      obtain ⟨fb, hf, hfp⟩ := few_f l4
      refine Ev.congr (fun k => if_pos rfl) (Ev.bind hf ?_)
      cases fb with
      | false => exact yes
      | true =>
        have both : ∃ b, Ev (fun k => flatpack_Proves.f a0 a1 l2 a3 l4) b ∧ Ev (fun k => gangsawref25_Proves.f k a0 a1 l2 a3 l4) b := by
          by_cases hc : checkR a0 a1 l2 a3 = 0
          · obtain ⟨g0, g1, g2, g3, g4⟩ := chk0 hc
            obtain ⟨L, rfl⟩ : ∃ n : Nat, a0 = n := ⟨a0.toNat, by omega⟩
            obtain ⟨Wd, rfl⟩ : ∃ n : Nat, a1 = n := ⟨a1.toNat, by omega⟩
            obtain ⟨kf, rfl⟩ : ∃ n : Nat, a3 = n := ⟨a3.toNat, by omega⟩
            obtain ⟨b, e1, e2, _⟩ := Dec.same (proves_f L Wd kf l4 l2 hc (by omega) h3) (rproves_f L Wd kf l4 l2 hc h3)
            exact ⟨b, e1, e2⟩
          · exact ⟨false, proves_bad a0 a1 a3 l4 l2 hc (by omega) h3, rproves_bad a0 a1 a3 l4 l2 (by omega) hc h3⟩
        obtain ⟨b, e1, e2⟩ := both
        refine Ev.step (f := fun k => (flatpack_Proves.f a0 a1 l2 a3 l4).bind fun t384 => ((gangsawref25_Proves.f k a0 a1 l2 a3 l4).bind fun t385 => (some (t384 == t385)))) (fun k => ?_) (Ev.bind e1 (Ev.bind e2 (Ev.congr (fun k => ?_) (Ev.now true))))
        · rw [gangsawlaw25_FlatpackProves.j0, if_neg (by simp)]
        · simp
  exact key.rounds
end Go.Proofs.Ytdnjagfbhppmbaa.Pure
