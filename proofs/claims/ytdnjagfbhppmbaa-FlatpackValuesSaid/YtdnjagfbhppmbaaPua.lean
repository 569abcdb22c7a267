import Derived.Test.YtdnjagfbhppmbaaLey
import Derived.Test.YtdnjagfbhppmbaaPAx3
import Derived.Shelf.Abstract
namespace Go.Proofs.Ytdnjagfbhppmbaa.Pure
open Go.RowKit Go.Proofs.Ytdnjagfbhppmbaa Go.Proofs.Ytdnjagfbhppmbaa.PA Go.Proofs.YtdnjagfbhppmbaaW.PrintWords Go.Proofs.YtdnjagfbhppmbaaW.PrintLast Go.Proofs.YtdnjagfbhppmbaaW.PrintMore
set_option linter.unusedVariables false
set_option linter.unusedSimpArgs false
def upB (c : Int) : Bool := decide (65 ≤ c) && decide (c ≤ 90)
def loB (c : Int) : Bool := decide (97 ≤ c) && decide (c ≤ 122)
def dgB (c : Int) : Bool := decide (48 ≤ c) && decide (c ≤ 57)
theorem letter_f (c : Int) : gangsawref09_letter.f c = some (loB c || upB c) := by
 unfold gangsawref09_letter.f loB upB
 by_cases h1 : 97 ≤ c <;> by_cases h2 : c ≤ 122 <;> by_cases h3 : 65 ≤ c <;> by_cases h4 : c ≤ 90 <;> simp [h1, h2, h3, h4] <;> omega
theorem digit_f (c : Int) : gangsawref09_digit.f c = some (dgB c) := by
 unfold gangsawref09_digit.f dgB
 by_cases h1 : 48 ≤ c <;> simp [h1]
theorem part_f (c : Int) : gangsawref09_part.f c = some (dgB c || (loB c || upB c) || c == 95) := by
 unfold gangsawref09_part.f
 rw [digit_f];simp only [Option.bind_some];rw [letter_f]
 cases dgB c <;> cases (loB c || upB c) <;> simp
theorem isNm_table : ∀ c : Fin 256, isNm (c.val : Int) = ((dgB c.val || (loB c.val || upB c.val) || (c.val : Int) == 95) && !upB c.val) := by decide +kernel
theorem isNm_eq (c : Int) (h0 : 0 ≤ c) (h1 : c ≤ 255) : isNm c = ((dgB c || (loB c || upB c) || c == 95) && !upB c) := by
 have := isNm_table ⟨c.toNat, by omega⟩
 have e : ((c.toNat : Nat) : Int) = c := by omega
 simp only [e] at this;exact this
theorem bt_rng (s : ByteArray) (i : Int) : 0 ≤ bt s i ∧ bt s i ≤ 255 := by
 unfold bt
 split
 ·rename_i h
  have := (s[i.toNat]'h).toNat_lt
  omega
 ·omega
def okAt (s : ByteArray) (j : Nat) : Prop := isNm (bt s j) = true ∧ (j = 0 → loB (bt s j) = true)
theorem wrap_nat1 {n : Nat} (h : n < 9223372036854775807) : wrap64 ((n : Int) + 1) = ((n + 1 : Nat) : Int) := by
 push_cast
 unfold wrap64; omega
theorem name_l0 (s : ByteArray) (hs : s.size ≤ 9223372036854775807) : ∀ (d i k : Nat), s.size - i = d → i ≤ s.size → d < k →
  ∃ b, gangsawref09_Name.l0 k s (i : Int) = some b ∧ (b = true ↔ ((∀ j, i ≤ j → j < s.size → okAt s j) ∧ 1 ≤ s.size ∧ s.size ≤ 24)) := by
 intro d
 induction d with
 | zero =>
  intro i k hd hi hk
  obtain ⟨k, rfl⟩ : ∃ m, k = m + 1 := ⟨k - 1, by omega⟩
  have e : i = s.size := by omega
  subst e;simp only [gangsawref09_Name.l0];rw [if_neg (by omega)];by_cases h1 : (s.size : Int) ≥ 1
  (rw [if_pos h1];refine ⟨_, rfl, ?_⟩;rw [decide_eq_true_iff];exact ⟨fun h => ⟨fun j h1 h2 => by omega, by omega, by omega⟩, fun h => by omega⟩);(rw [if_neg h1];exact ⟨_, rfl, Iff.intro (fun h => Bool.noConfusion h) (fun h => by omega)⟩)
 | succ d ih =>
  intro i k hd hi hk
  obtain ⟨k, rfl⟩ : ∃ m, k = m + 1 := ⟨k - 1, by omega⟩
  obtain ⟨b, hb, hiff⟩ := ih (i + 1) k (by omega) (by omega) (by omega);simp only [gangsawref09_Name.l0];rw [if_pos (by omega), if_pos (by omega), part_f, wrap_nat1 (by omega), letter_f];simp only [Option.bind_some];obtain ⟨h0, h1⟩ := bt_rng s i;have hnm := isNm_eq _ h0 h1
  have bad : ∀ (h : ¬ okAt s i), (false = true ↔ ((∀ j, i ≤ j → j < s.size → okAt s j) ∧ 1 ≤ s.size ∧ s.size ≤ 24)) := fun h => Iff.intro (fun h => Bool.noConfusion h) (fun hj => absurd (hj.1 i (Nat.le_refl _) (by omega)) h)
  have good : okAt s i → (b = true ↔ ((∀ j, i ≤ j → j < s.size → okAt s j) ∧ 1 ≤ s.size ∧ s.size ≤ 24)) := fun h => by
   rw [hiff]
   constructor
   ·rintro ⟨h1, h2⟩
    refine ⟨fun j hj hl => ?_, h2⟩
    by_cases e : j = i
    ·subst e; exact h
    (exact h1 j (by omega) hl)
   (rintro ⟨h1, h2⟩;exact ⟨fun j hj hl => h1 j (by omega) hl, h2⟩)
  generalize hc : bt s (i : Int) = c at *
  have hoki : okAt s i ↔ (isNm c = true ∧ (i = 0 → loB c = true)) := by unfold okAt; rw [hc]
  by_cases hp : (dgB c || (loB c || upB c) || c == 95) = true
  ·rw [if_pos hp];rw [hp, Bool.true_and] at hnm;by_cases hu : upB c = true
   ·have hu' := hu
    unfold upB at hu'
    simp at hu'
    rw [if_pos hu'.1, if_pos hu'.2];exact ⟨_, rfl, bad (fun h => by have := (hoki.1 h).1; rw [hnm, hu] at this; simp at this)⟩
   ·have hu2 : upB c = false := by simpa using hu
    have hnm2 : isNm c = true := by rw [hnm, hu2]; rfl
    have key : ∃ b', (if (i : Int) = 0 then (if (loB c || upB c) = true then gangsawref09_Name.l0 k s ((i + 1 : Nat) : Int) else some false) else gangsawref09_Name.l0 k s ((i + 1 : Nat) : Int)) = some b' ∧ (b' = true ↔ ((∀ j, i ≤ j → j < s.size → okAt s j) ∧ 1 ≤ s.size ∧ s.size ≤ 24)) := by
     by_cases hi0 : (i : Int) = 0
     ·rw [if_pos hi0];by_cases hl : (loB c || upB c) = true
      (rw [if_pos hl];rw [hu2, Bool.or_false] at hl;exact ⟨b, hb, good (hoki.2 ⟨hnm2, fun _ => hl⟩)⟩);(rw [if_neg hl];exact ⟨_, rfl, bad (fun h => hl (by rw [(hoki.1 h).2 (by omega)]; rfl))⟩)
     (rw [if_neg hi0];exact ⟨b, hb, good (hoki.2 ⟨hnm2, fun h => absurd (by omega) hi0⟩)⟩)
    by_cases h65 : c ≥ 65
    ·rw [if_pos h65]
     have h90 : ¬ c ≤ 90 := fun h90 => hu (by unfold upB; simp; omega)
     rw [if_neg h90];exact key
    (rw [if_neg h65];exact key)
  (rw [if_neg hp];exact ⟨_, rfl, bad (fun h => by have := (hoki.1 h).1; rw [hnm, Bool.and_eq_true] at this; exact hp this.1)⟩)
theorem tw_all {α : Type} (p : α → Bool) : ∀ (l : List α) (x : α), x ∈ l.takeWhile p → p x = true
 | [], x, h => by simp at h
 | y :: l, x, h => by
  rw [List.takeWhile_cons] at h
  split at h
  ·rcases List.mem_cons.1 h with rfl | h
   ·assumption
   (exact tw_all p l x h)
  ·simp at h
theorem runOf_all (p : Int → Bool) (s : ByteArray) : runOf p s.data.toList = s.size ↔ ∀ j, j < s.size → p (bt s j) = true := by
 unfold runOf
 have hl : s.data.toList.length = s.size := by simp
 constructor
 ·intro h j hj
  have e : s.data.toList.takeWhile (fun b => p (b.toNat : Int)) = s.data.toList := by
   apply List.IsPrefix.eq_of_length (List.takeWhile_prefix _)
   rw [h, hl]
  have hm : s.data.toList[j]'(by omega) ∈ s.data.toList.takeWhile (fun b => p (b.toNat : Int)) := by rw [e]; exact List.getElem_mem _
  have := tw_all _ _ _ hm
  have eb : bt s j = ((s.data.toList[j]'(by omega)).toNat : Int) := by
   unfold bt
   rw [dif_pos (by simpa using hj)];rfl
  rw [eb]; exact this
 ·intro h;rw [takeWhile_all _ s.data.toList (fun x hx => ?_), hl];obtain ⟨j, hj, rfl⟩ := List.getElem_of_mem hx;have := h j (by omega)
  have eb : bt s j = ((s.data.toList[j]'hj).toNat : Int) := by
   unfold bt
   rw [dif_pos (by simpa using (by omega : j < s.size))];rfl
  rw [eb] at this; exact this
theorem lexName_iff (s : ByteArray) : lexName s = true ↔ ((∀ j, 0 ≤ j → j < s.size → okAt s j) ∧ 1 ≤ s.size ∧ s.size ≤ 24) := by
 unfold lexName
 by_cases h : 0 < s.size
 ·rw [dif_pos h]
  have e0 : bt s 0 = ((s[0]'h).toNat : Int) := by unfold bt; rw [dif_pos (by simpa using h)]; rfl
  simp only [Bool.and_eq_true, decide_eq_true_eq];rw [runOf_all, ← e0]
  constructor
  ·rintro ⟨h1, h2, h3, h4⟩
   refine ⟨fun j _ hj => ⟨h4 j hj, fun e => ?_⟩, by omega, h1⟩
   subst e
   show loB (bt s ((0 : Nat) : Int)) = true
   unfold loB
   simp only [Bool.and_eq_true, decide_eq_true_eq];exact ⟨h2, h3⟩
  ·rintro ⟨h1, h2, h3⟩;have h0 := (h1 0 (Nat.le_refl _) h).2 rfl
   unfold loB at h0
   simp only [Bool.and_eq_true, decide_eq_true_eq] at h0;exact ⟨h3, h0.1, h0.2, fun j hj => (h1 j (Nat.zero_le _) hj).1⟩
 (rw [dif_neg h];exact Iff.intro (fun h => Bool.noConfusion h) (fun h => by omega))
theorem name_f (s : ByteArray) (hs : s.size ≤ 9223372036854775807) (k : Nat) (hk : s.size < k) : gangsawref09_Name.f k s = some (lexName s) := by
 obtain ⟨b, hb, hiff⟩ := name_l0 s hs s.size 0 k (by omega) (by omega) hk
 have : b = lexName s := by rw [Bool.eq_iff_iff, hiff, lexName_iff]
 subst this;exact hb
end Go.Proofs.Ytdnjagfbhppmbaa.Pure
