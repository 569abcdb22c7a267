import Derived.Test.YtdnjagfbhppmbaaPAx2
import Derived.Test.YtdnjagfbhppmbaaPud
namespace Go.Proofs.Ytdnjagfbhppmbaa.Pure
open Go.RowKit Go.Proofs.Ytdnjagfbhppmbaa Go.Proofs.Ytdnjagfbhppmbaa.PA Go.Proofs.YtdnjagfbhppmbaaW.PrintWords Go.Proofs.YtdnjagfbhppmbaaW.PrintLast Go.Proofs.YtdnjagfbhppmbaaW.PrintMore
set_option linter.unusedVariables false
set_option linter.unusedSimpArgs false
theorem Ev.uniq {α : Type} {g : Nat → Option α} {r s : α} (h : Ev g r) (k : Ev g s) : r = s := by
 obtain ⟨K, h⟩ := h;obtain ⟨K', k⟩ := k;have h1 := h (max K K') (by omega);have h2 := k (max K K') (by omega);rw [h1] at h2;exact Option.some.inj h2
theorem same_l0 (r : List S59) (hr : r.length ≤ 1000000) : ∀ (d i : Nat), r.length - i = d → Ev (fun k => gangsawref24_Same.l0 k r r (i : Int)) true := by
 intro d
 induction d with
 | zero =>
  intro i hd
  refine Ev.step (f := fun _ => some true) (fun k => ?_) (Ev.now _)
  rw [gangsawref24_Same.l0, if_neg (by omega)]
 | succ d ih =>
  intro i hd
  refine Ev.step (fun k => ?_) (ih (i + 1) (by omega))
  rw [gangsawref24_Same.l0, if_pos (by omega), if_pos (by omega), if_pos (by omega), if_neg (by simp), wrap_nat1 (by omega)]
theorem same_f (r : List S59) (hr : r.length ≤ 1000000) : Ev (fun k => gangsawref24_Same.f k r r) true := by
 refine Ev.congr (fun k => ?_) (same_l0 r hr r.length 0 rfl)
 unfold gangsawref24_Same.f
 rw [if_pos rfl]; rfl
theorem chk0 {a0 a1 : Int} {l : List S36} {a3 : Int} (h : checkR a0 a1 l a3 = 0) : (1 ≤ a0 ∧ a0 ≤ 40) ∧ (1 ≤ a1 ∧ a1 ≤ 40) ∧ (0 ≤ a3 ∧ a3 ≤ 40) ∧ l.length ≤ 6 ∧ ∀ x ∈ l, badSize x = false := by
 unfold checkR at h
 by_cases c : sideB a0 = true ∧ sideB a1 = true ∧ ¬ a3 < 0 ∧ ¬ 40 < a3
 ·rw [if_pos c] at h;obtain ⟨c1, c2, c3, c4⟩ := c;simp only [sideB, decide_eq_true_eq] at c1 c2;by_cases h6 : 6 < l.length
  ·rw [if_pos h6] at h; omega
  ·rw [if_neg h6] at h;by_cases h4 : l.any (fun x => !lexName x.f0) = true
   ·rw [if_pos h4] at h; omega
   ·rw [if_neg h4] at h;by_cases hb : l.any badSize = true
    ·rw [if_pos hb] at h; omega
    ·refine ⟨c1, c2, by omega, by omega, fun x hx => ?_⟩
     cases e : badSize x with
     | false => rfl
     | true => exact absurd (List.any_eq_true.2 ⟨x, hx, e⟩) hb
 ·rw [if_neg c] at h; omega
theorem okT_of {a0 a1 : Int} {l : List S36} {a3 : Int} (h : checkR a0 a1 l a3 = 0) : okT a0 a1 l a3 := by
 obtain ⟨h0, h1, h2, h3, h4⟩ := chk0 h
 refine ⟨by omega, by omega, by omega, by omega, by omega, by omega, fun x hx => ?_⟩
 have := h4 x hx
 unfold badSize sideB at this
 simp at this
 omega
theorem part_uniq {ns r s : List S59} {t : List (List Int)} {l : List S36} {kf x y a b : Int} {k : Nat} (h : gangsawref25_part.f k ns t l kf x y a b = some r) (hs : Ev (fun k => gangsawref25_part.f k ns t l kf x y a b) s) : r = s :=
 Ev.uniq (Ev.of (fun k => gangsawref25_part.mono _ _ _ _ _ _ _ _ k) h) hs
theorem planR_of {a0 a1 : Int} {l : List S36} {a3 : Int} {r : List S59} (h : Ev (fun k => gangsawref25_part.f k [] (tableR a0.toNat a1.toNat l a3.toNat) l a3 0 0 a0 a1) r) : planR a0 a1 l a3 = some r := by
 unfold planR
 have hx : ∃ r k, gangsawref25_part.f k [] (tableR a0.toNat a1.toNat l a3.toNat) l a3 0 0 a0 a1 = some r := ⟨r, h.rounds⟩
 rw [dif_pos hx];obtain ⟨k, hk⟩ := Classical.choose_spec hx;rw [part_uniq hk h]
theorem tableF {a0 a1 : Int} {l : List S36} {a3 : Int} (h : checkR a0 a1 l a3 = 0) : flatpack_table.f a0 a1 l a3 = some (tableR a0.toNat a1.toNat l a3.toNat) := by
 unfold flatpack_table.f
 rw [if_pos (okT_of h)]
theorem checkF {a0 a1 : Int} {l : List S36} {a3 : Int} (hM : ∀ x ∈ l, x.f0.size ≤ 100) : flatpack_Check.f a0 a1 l a3 = some (checkR a0 a1 l a3) := by
 unfold flatpack_Check.f
 rw [if_pos (fun x hx => by have := hM x hx; omega)]
theorem plan_f (L Wd kf : Nat) (l : List S36) (h : checkR (L : Int) (Wd : Int) l (kf : Int) = 0) (hM : ∀ x ∈ l, x.f0.size ≤ 100) (hL : L ≤ 14) (hW : Wd ≤ 14) :
  ∃ r, flatpack_Plan.f (L : Int) (Wd : Int) l (kf : Int) = some (r, 0) ∧ Ev (fun k => gangsawref25_part.f k [] (tableR L Wd l kf) l (kf : Int) 0 0 (L : Int) (Wd : Int)) r ∧ r.length ≤ 1000 := by
 obtain ⟨h0, h1, h2, h3, h4⟩ := chk0 h;have hsq : L * Wd ≤ 14 * 14 := Nat.mul_le_mul hL hW;obtain ⟨r, hE, hl1, hl2⟩ := part_ok (val (exactF l) kf) L Wd kf l (by omega) (by omega) (by omega) (by omega) (L + Wd) L Wd (Nat.le_refl _) (Nat.le_refl _) (by omega) (Nat.le_refl _) (by omega) [] 0 0 (by simp; omega)
 simp at hl2
 have hE' : Ev (fun k => gangsawref25_part.f k [] (tableR L Wd l kf) l (kf : Int) 0 0 (L : Int) (Wd : Int)) r := hE
 refine ⟨r, ?_, hE', by omega⟩
 unfold flatpack_Plan.f
 rw [if_pos (fun x hx => by have := hM x hx; omega), if_pos h, if_pos ⟨okT_of h, by omega⟩, planR_of (by simpa using hE'), Option.map_some];rw [if_pos (by omega)]
end Go.Proofs.Ytdnjagfbhppmbaa.Pure
