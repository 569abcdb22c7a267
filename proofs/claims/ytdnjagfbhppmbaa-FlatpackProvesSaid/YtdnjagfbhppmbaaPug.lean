import Derived.Test.YtdnjagfbhppmbaaPuf
import Derived.Test.YtdnjagfbhppmbaaPAx225
namespace Go.Proofs.Ytdnjagfbhppmbaa.Pure
open Go.RowKit Go.Proofs.Ytdnjagfbhppmbaa Go.Proofs.Ytdnjagfbhppmbaa.PA Go.Proofs.YtdnjagfbhppmbaaW.PrintWords Go.Proofs.YtdnjagfbhppmbaaW.PrintLast Go.Proofs.YtdnjagfbhppmbaaW.PrintMore
set_option linter.unusedVariables false
set_option linter.unusedSimpArgs false

/-- g tells in the end whether P holds -/
def Dec (g : Nat → Option Bool) (P : Prop) : Prop := ∃ b, Ev g b ∧ (b = true ↔ P)
theorem Dec.step {f g : Nat → Option Bool} {P : Prop} (h : ∀ k, f (k + 1) = g k) (d : Dec g P) : Dec f P := by
  obtain ⟨b, e, i⟩ := d
  exact ⟨b, Ev.step h e, i⟩
theorem Dec.no {f : Nat → Option Bool} {P : Prop} (h : ∀ k, f (k + 1) = some false) (n : ¬ P) : Dec f P :=
  ⟨false, Ev.step (f := fun _ => some false) h (Ev.now _), by simp [n]⟩
theorem Dec.yes {f : Nat → Option Bool} {P : Prop} (h : ∀ k, f (k + 1) = some true) (n : P) : Dec f P :=
  ⟨true, Ev.step (f := fun _ => some true) h (Ev.now _), by simp [n]⟩
theorem Dec.iff {g : Nat → Option Bool} {P Q : Prop} (d : Dec g P) (h : P ↔ Q) : Dec g Q := by
  obtain ⟨b, e, i⟩ := d
  exact ⟨b, e, i.trans h⟩
theorem Dec.same {f g : Nat → Option Bool} {P : Prop} (d : Dec f P) (e : Dec g P) : ∃ b, Ev f b ∧ Ev g b ∧ (b = true ↔ P) := by
  obtain ⟨b, h1, i1⟩ := d
  obtain ⟨c, h2, i2⟩ := e
  have : b = c := by
    rw [Bool.eq_iff_iff]; exact i1.trans i2.symm
  subst this
  exact ⟨b, h1, h2, i1⟩

theorem proves_f (L Wd kf : Nat) (t : List (List Int)) (items : List S36) (hc : checkR (L : Int) (Wd : Int) items (kf : Int) = 0) (hl : items.length ≤ 1000) (hM : ∀ x ∈ items, x.f0.size ≤ 100) :
    Dec (fun _ => flatpack_Proves.f (L : Int) (Wd : Int) items (kf : Int) t) (sound L Wd kf t items) := by
  refine ⟨@decide (sound L Wd kf t items) (Classical.propDecidable _), Ev.congr (fun k => ?_) (Ev.now _), by simp⟩
  unfold flatpack_Proves.f
  rw [if_pos ⟨fun x hx => by have := hM x hx; omega, hl⟩, if_pos hc]
  simp
theorem proves_bad (a0 a1 a3 : Int) (t : List (List Int)) (items : List S36) (hc : ¬ checkR a0 a1 items a3 = 0) (hl : items.length ≤ 1000) (hM : ∀ x ∈ items, x.f0.size ≤ 100) :
    Ev (fun _ => flatpack_Proves.f a0 a1 items a3 t) false := by
  refine Ev.congr (fun k => ?_) (Ev.now false)
  unfold flatpack_Proves.f
  rw [if_pos ⟨fun x hx => by have := hM x hx; omega, hl⟩, if_neg hc]
/-- what the reference's Few lets in -/
theorem few_l0 (t : List (List Int)) (ht : t.length ≤ 20) : ∀ (d i : Nat), t.length - i = d → ∃ b, Ev (fun k => gangsawref25_Few.l0 k t (i : Int)) b ∧ (b = true → ∀ j, i ≤ j → j < t.length → (rd_L5 t (j : Int)).length ≤ 20) := by
  intro d
  induction d with
  | zero =>
    intro i hd
    refine ⟨true, Ev.step (f := fun _ => some true) (fun k => ?_) (Ev.now _), fun _ j h1 h2 => by omega⟩
    rw [gangsawref25_Few.l0, if_neg (by omega)]
  | succ d ih =>
    intro i hd
    by_cases h : ((rd_L5 t (i : Int)).length : Int) > 20
    · refine ⟨false, Ev.step (f := fun _ => some false) (fun k => ?_) (Ev.now _), fun h => Bool.noConfusion h⟩
      rw [gangsawref25_Few.l0, if_pos (by omega), if_pos (by omega), if_pos h]
    · obtain ⟨b, hb, hp⟩ := ih (i + 1) (by omega)
      refine ⟨b, Ev.step (fun k => ?_) hb, fun hbt j h1 h2 => ?_⟩
      · rw [gangsawref25_Few.l0, if_pos (by omega), if_pos (by omega), if_neg h, wrap_nat1 (by omega)]
      · by_cases e : j = i
        · subst e; omega
        · exact hp hbt j (by omega) h2
theorem few_f (t : List (List Int)) : ∃ b, Ev (fun k => gangsawref25_Few.f k t) b ∧ (b = true → t.length ≤ 20) := by
  by_cases h : (t.length : Int) > 20
  · exact ⟨false, Ev.congr (fun k => by unfold gangsawref25_Few.f; rw [if_pos h]) (Ev.now false), fun h => Bool.noConfusion h⟩
  · obtain ⟨b, hb, _⟩ := few_l0 t (by omega) t.length 0 rfl
    exact ⟨b, Ev.congr (fun k => by unfold gangsawref25_Few.f; rw [if_neg h]; rfl) hb, fun _ => by omega⟩
end Go.Proofs.Ytdnjagfbhppmbaa.Pure
