import Derived.Test.YtdnjagfbhppmbaaPug
import Derived.Test.YtdnjagfbhppmbaaPAx204
import Derived.Test.YtdnjagfbhppmbaaOp
namespace Go.Proofs.Ytdnjagfbhppmbaa.Pure
open Go.RowKit Go.Proofs.Ytdnjagfbhppmbaa Go.Proofs.Ytdnjagfbhppmbaa.PA Go.Proofs.YtdnjagfbhppmbaaW.PrintWords Go.Proofs.YtdnjagfbhppmbaaW.PrintLast Go.Proofs.YtdnjagfbhppmbaaW.PrintMore
set_option linter.unusedVariables false
set_option linter.unusedSimpArgs false

theorem c_mx_le {a b v : Int} (h1 : a ≤ v) (h2 : b ≤ v) : mx a b ≤ v := by unfold mx; split <;> omega
theorem c_le_mx1 (a b : Int) : a ≤ mx a b := by unfold mx; split <;> omega
theorem c_exact_le {l : List S36} {a b : Nat} {v : Int} (h0 : 0 ≤ v) (h : ∀ x ∈ l, x.f1.f0 = (a : Int) → x.f1.f1 = (b : Int) → x.f2 ≤ v) : exactF l a b ≤ v := by
  unfold exactF
  have : ∀ (l : List S36) (m : Int), m ≤ v → (∀ x ∈ l, x.f1.f0 = (a : Int) → x.f1.f1 = (b : Int) → x.f2 ≤ v) → l.foldl (fun m x => if x.f1.f0 = (a : Int) ∧ x.f1.f1 = (b : Int) then mx m x.f2 else m) m ≤ v := by
    intro l
    induction l with
    | nil => intro m hm _; exact hm
    | cons x t ih =>
      intro m hm h
      rw [List.foldl_cons]
      refine ih _ ?_ (fun y hy => h y (by simp [hy]))
      split
      · next hx => exact c_mx_le hm (h x (by simp) hx.1 hx.2)
      · exact hm
  exact this l 0 h0 h
theorem c_exact0 (l : List S36) (a b : Nat) : 0 ≤ exactF l a b := by
  have : ∀ (l : List S36) (m : Int), 0 ≤ m → 0 ≤ l.foldl (fun m x => if x.f1.f0 = (a : Int) ∧ x.f1.f1 = (b : Int) then mx m x.f2 else m) m := by
    intro l
    induction l with
    | nil => intro m h; exact h
    | cons x t ih =>
      intro m h
      rw [List.foldl_cons]
      refine ih _ ?_
      split
      · exact Int.le_trans h (c_le_mx1 _ _)
      · exact h
  exact this l 0 (Int.le_refl _)
theorem fold_le {α : Type} (g : α → Int) (v : Int) : ∀ (l : List α) (m : Int), m ≤ v → (∀ a ∈ l, g a ≤ v) → l.foldl (fun b a => mx b (g a)) m ≤ v := by
  intro l
  induction l with
  | nil => intro m hm _; exact hm
  | cons x t ih =>
    intro m hm h
    rw [List.foldl_cons]
    exact ih _ (c_mx_le hm (h x (by simp))) (fun y hy => h y (by simp [hy]))
theorem fold_ge {α : Type} (g : α → Int) (v : Int) : ∀ (l : List α) (m : Int), v ≤ m → v ≤ l.foldl (fun b a => mx b (g a)) m := by
  intro l
  induction l with
  | nil => intro m hm; exact hm
  | cons x t ih =>
    intro m hm
    rw [List.foldl_cons]
    exact ih _ (Int.le_trans hm (c_le_mx1 _ _))
theorem val_zero (ex : Nat → Nat → Int) (k l w : Nat) (h : l = 0 ∨ w = 0) : val ex k l w = 0 := by rw [val_eq, if_pos h]
/-- A sound table has at least the greatest values. -/
theorem sound_le (L Wd kf : Nat) (t : List (List Int)) (items : List S36) (hL : L ≤ 1000) (hs : sound L Wd kf t items) (hv : ∀ x ∈ items, (1 ≤ x.f1.f0) ∧ (1 ≤ x.f1.f1)) :
    ∀ (n l w : Nat), l + w ≤ n → l ≤ L → w ≤ Wd → 0 ≤ val (exactF items) kf l w ∧ val (exactF items) kf l w ≤ G t l w ∧ G t l w ≤ 1000000000000000 := by
  obtain ⟨h1, h2, h3, h4⟩ := hs
  have rng : ∀ l w, l ≤ L → w ≤ Wd → 0 ≤ G t l w ∧ G t l w ≤ 1000000000000000 := by
    intro l w hl hw
    obtain ⟨r1, r2⟩ := h2 l (by omega)
    rw [List.any_eq_false] at r2
    have hm : (rd_L5 t (l : Int))[w]'(by omega) ∈ rd_L5 t (l : Int) := List.getElem_mem _
    have h2 := r2 _ hm
    have e : G t l w = (rd_L5 t (l : Int))[w]'(by omega) := by
      unfold G rd
      rw [Int.toNat_natCast, List.getD_eq_getElem?_getD, List.getElem?_eq_getElem (by omega)]; rfl
    rw [e]
    unfold badN at h2
    simp at h2
    omega
  intro n
  induction n with
  | zero =>
    intro l w hn hl hw
    rw [val_zero _ _ _ _ (by omega)]
    have := rng l w hl hw
    omega
  | succ n ih =>
    intro l w hn hl hw
    have hg := rng l w hl hw
    by_cases hz : l = 0 ∨ w = 0
    · rw [val_zero _ _ _ _ hz]; omega
    · rw [val_eq, if_neg hz]
      obtain ⟨cx, cy⟩ := h4 l (by omega) hl w (by omega) hw
      unfold cellV
      refine ⟨fold_ge _ _ _ _ (fold_ge _ _ _ _ (c_exact0 _ _ _)), fold_le _ _ _ _ (fold_le _ _ _ _ (c_exact_le hg.1 (fun x hx e1 e2 => ?_)) (fun a ha => ?_)) (fun a ha => ?_), hg.2⟩
      · obtain ⟨j, hj, rfl⟩ := List.getElem_of_mem hx
        have h5 := h3 j (Nat.zero_le _) hj
        have e3 : items.getD j z36 = items[j] := by rw [List.getD_eq_getElem?_getD, List.getElem?_eq_getElem hj]; rfl
        rw [e3] at h5
        unfold iOK at h5
        have h6 := h5 (by omega) (by omega)
        have e4 : items[j].f1.f0.toNat = l := by omega
        have e5 : items[j].f1.f1.toNat = w := by omega
        rw [e4, e5] at h6
        omega
      · rw [List.mem_range'_1] at ha
        have i1 := ih a w (by omega) (by omega) hw
        have i2 := ih (l - a - kf) w (by omega) (by omega) hw
        have c := cx a (by omega) (by omega)
        have e1 : wrap64 (val (exactF items) kf a w + val (exactF items) kf (l - a - kf) w) = val (exactF items) kf a w + val (exactF items) kf (l - a - kf) w := by unfold wrap64; omega
        have e2 : wrap64 (G t a w + G t (l - a - kf) w) = G t a w + G t (l - a - kf) w := by unfold wrap64; omega
        rw [e2] at c
        rw [e1]
        omega
      · rw [List.mem_range'_1] at ha
        have i1 := ih l a (by omega) hl (by omega)
        have i2 := ih l (w - a - kf) (by omega) hl (by omega)
        have c := cy a (by omega) (by omega)
        have e1 : wrap64 (val (exactF items) kf l a + val (exactF items) kf l (w - a - kf)) = val (exactF items) kf l a + val (exactF items) kf l (w - a - kf) := by unfold wrap64; omega
        have e2 : wrap64 (G t l a + G t l (w - a - kf)) = G t l a + G t l (w - a - kf) := by unfold wrap64; omega
        rw [e2] at c
        rw [e1]
        omega
theorem fin_le (x y : Int) (h : x ≤ y) : some (decide (y ≥ x)) = some true := by rw [decide_eq_true h]
theorem FlatpackCertificates (a0 a1 : Int) (l2 : List S36) (a3 : Int) (l4 : List (List Int)) (_ : Rng a0) (_ : Rng a1) (_ : l2.length ≤ maxLen) (_ : ∀ x ∈ l2, Good36 x) (_ : Rng a3) (_ : l4.length ≤ maxLen) (_ : ∀ l ∈ l4, l.length ≤ maxLen ∧ ∀ a ∈ l, Rng a) :
    ∃ k, gangsawlaw25_FlatpackCertificates.f k a0 a1 l2 a3 l4 = some true := by
  have key : Ev (fun k => gangsawlaw25_FlatpackCertificates.f k a0 a1 l2 a3 l4) true := by
    obtain ⟨s, hs, hsp⟩ : ∃ s, Ev (fun k => gangsawref25_Small.f k a0 a1 l2) s ∧ (s = true → (a0 ≤ 14 ∨ 40 < a0) ∧ (a1 ≤ 14 ∨ 40 < a1) ∧ l2.length ≤ 10 ∧ ∀ x ∈ l2, x.f0.size ≤ 100) := by
      obtain ⟨s, hs, hp⟩ := small_f a0 a1 l2 21 (by omega)
      exact ⟨s, Ev.of (fun k => gangsawref25_Small.mono _ _ _ k) hs, hp⟩
    refine Ev.bind awake_f (Ev.congr (fun k => if_pos rfl) (Ev.bind hs ?_))
    cases s with
    | false => exact Ev.congr (fun k => if_neg (by simp)) (Ev.now true)
    | true =>
      obtain ⟨h0, h1, h2, h3⟩ := hsp rfl
      obtain ⟨fb, hf, hfp⟩ := few_f l4
      refine Ev.congr (fun k => if_pos rfl) (Ev.bind hf ?_)
      cases fb with
      | false => exact Ev.congr (fun k => if_neg (by simp)) (Ev.now true)
      | true =>
        refine Ev.congr (fun k => if_pos rfl) ?_
        by_cases hc : checkR a0 a1 l2 a3 = 0
        · obtain ⟨g0, g1, g2, g3, g4⟩ := chk0 hc
          obtain ⟨L, rfl⟩ : ∃ n : Nat, a0 = n := ⟨a0.toNat, by omega⟩
          obtain ⟨Wd, rfl⟩ : ∃ n : Nat, a1 = n := ⟨a1.toNat, by omega⟩
          obtain ⟨kf, rfl⟩ : ∃ n : Nat, a3 = n := ⟨a3.toNat, by omega⟩
          obtain ⟨b, hb, hiff⟩ := proves_f L Wd kf l4 l2 hc (by omega) h3
          refine Ev.bind hb ?_
          cases b with
          | false => exact Ev.congr (fun k => if_neg (by simp)) (Ev.now true)
          | true =>
            have hs := hiff.1 rfl
            have hle := (sound_le L Wd kf l4 l2 (by omega) hs (fun x hx => by
              have := g4 x hx
              unfold badSize sideB at this
              simp at this
              omega) (L + Wd) L Wd (Nat.le_refl _) (Nat.le_refl _) (Nat.le_refl _)).2.1
            have HLE : Aside (val (exactF l2) kf L Wd ≤ rd (rd_L5 l4 (L : Int)) (Wd : Int)) := hle
            clear hle
            have hl := hs.1
            have hrow := (hs.2.1 L (by omega)).1
            have e1 : wrap64 ((L : Int) + 1) = ((L + 1 : Nat) : Int) := wrap_nat1 (by omega)
            have e2 : wrap64 ((Wd : Int) + 1) = ((Wd + 1 : Nat) : Int) := wrap_nat1 (by omega)
            refine Ev.congr (fun k => if_pos rfl) (Ev.congr (fun k => ?_) (Ev.now true))
            rw [best_f L Wd kf l2 hc h3]
            generalize val (exactF l2) kf L Wd = bv at HLE ⊢
            rw [Option.bind_some, if_pos rfl, e1, if_pos (by omega), if_pos (by omega), if_pos (by omega), e2, if_pos (by omega), if_pos (by omega), if_pos (by omega)]
            exact fin_le _ _ HLE.out
        · refine Ev.bind (proves_bad a0 a1 a3 l4 l2 hc (by omega) h3) (Ev.congr (fun k => if_neg (by simp)) (Ev.now true))
  exact key.rounds
end Go.Proofs.Ytdnjagfbhppmbaa.Pure
