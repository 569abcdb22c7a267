import Derived.Test.YtdnjagfbhppmbaaGb
import Derived.Test.YtdnjagfbhppmbaaPAx4
import Derived.Test.YtdnjagfbhppmbaaPua
namespace Go.Proofs.Ytdnjagfbhppmbaa.Pure
open Go.RowKit Go.Proofs.Ytdnjagfbhppmbaa Go.Proofs.Ytdnjagfbhppmbaa.PA Go.Proofs.YtdnjagfbhppmbaaW.PrintWords Go.Proofs.YtdnjagfbhppmbaaW.PrintLast Go.Proofs.YtdnjagfbhppmbaaW.PrintMore
set_option linter.unusedVariables false
set_option linter.unusedSimpArgs false
def anyFrom (p : Nat → Bool) (n i : Nat) : Bool := (List.range n).any fun j => decide (i ≤ j) && p j
theorem anyFrom_end (p : Nat → Bool) (n i : Nat) (h : n ≤ i) : anyFrom p n i = false := by
 unfold anyFrom
 rw [List.any_eq_false];intro j hj;have := List.mem_range.1 hj
 simp; omega
theorem anyFrom_step (p : Nat → Bool) (n i : Nat) (h : i < n) : anyFrom p n i = (p i || anyFrom p n (i + 1)) := by
 unfold anyFrom
 rw [Bool.eq_iff_iff, Bool.or_eq_true, List.any_eq_true, List.any_eq_true]
 constructor
 ·rintro ⟨j, hj, h2⟩
  simp at h2
  by_cases e : j = i
  ·subst e; exact .inl h2.2
  (exact .inr ⟨j, hj, by simp; exact ⟨by omega, h2.2⟩⟩)
 ·rintro (h2 | ⟨j, hj, h2⟩);(exact ⟨i, List.mem_range.2 h, by simp [h2]⟩)
  ·simp at h2
   exact ⟨j, hj, by simp; exact ⟨by omega, h2.2⟩⟩
theorem any_from (q : S36 → Bool) (l : List S36) : l.any q = anyFrom (fun j => q (l.getD j z36)) l.length 0 := by
 unfold anyFrom
 rw [Bool.eq_iff_iff, List.any_eq_true, List.any_eq_true]
 constructor
 ·rintro ⟨x, hx, h⟩;obtain ⟨j, hj, rfl⟩ := List.getElem_of_mem hx
  refine ⟨j, List.mem_range.2 hj, ?_⟩
  show (decide (0 ≤ j) && q (l.getD j z36)) = true
  rw [List.getD_eq_getElem?_getD, List.getElem?_eq_getElem hj]
  simpa using h
 ·rintro ⟨j, hj, h⟩;have hj := List.mem_range.1 hj
  change (decide (0 ≤ j) && q (l.getD j z36)) = true at h
  rw [List.getD_eq_getElem?_getD, List.getElem?_eq_getElem hj] at h;exact ⟨l[j], List.getElem_mem hj, by simpa using h⟩
theorem rdT (l : List S36) (i : Nat) : rd_T36 l (i : Int) = l.getD i z36 := by unfold rd_T36; simp
theorem in_f (n a b : Int) : gangsawref25_in.f n a b = some (decide (a ≤ n ∧ n ≤ b)) := by
 unfold gangsawref25_in.f
 by_cases h : n ≥ a
 ·rw [if_pos h]; congr 1; rw [Bool.eq_iff_iff]; simp; omega
 ·rw [if_neg h]; congr 1; rw [Bool.eq_iff_iff]; simp; omega
section
variable (l : List S36) (hl : l.length ≤ 1000)
include hl
theorem chk_l3 : ∀ (d i k : Nat), l.length - i = d → 1 ≤ i → d < k → gangsawref25_Check.l3 k l (i : Int) = some (if anyFrom (dupAt l) l.length i = true then 5 else 0) := by
 intro d
 induction d with
 | zero =>
  intro i k hd hi hk
  obtain ⟨k, rfl⟩ : ∃ m, k = m + 1 := ⟨k - 1, by omega⟩
  rw [gangsawref25_Check.l3, if_neg (by omega), anyFrom_end _ _ _ (by omega)]; rfl
 | succ d ih =>
  intro i k hd hi hk
  obtain ⟨k, rfl⟩ : ∃ m, k = m + 1 := ⟨k - 1, by omega⟩
  have e1 : wrap64 ((i : Int) - 1) = ((i - 1 : Nat) : Int) := by unfold wrap64; omega
  rw [gangsawref25_Check.l3, if_pos (by omega), e1, if_pos (by omega), if_pos (by omega), if_pos (by omega), rdT, rdT, wrap_nat1 (by omega), anyFrom_step _ _ _ (by omega), ih (i + 1) k (by omega) (by omega) (by omega)]
  unfold dupAt
  by_cases hb : (Op.bytesLess (((l.getD (i - 1) z36).f0).toList) (((l.getD i z36).f0).toList)) = true
  ·rw [if_pos hb, hb]; rfl
  ·rw [if_neg hb]
   have hb' : (Op.bytesLess (((l.getD (i - 1) z36).f0).toList) (((l.getD i z36).f0).toList)) = false := by simpa using hb
   rw [hb']; rfl
theorem chk_l2 : ∀ (d i k : Nat), l.length - i = d → d + l.length + 1 < k → gangsawref25_Check.l2 k l (i : Int) = some (if anyFrom (fun j => (l.getD j z36).f1.f2 != 1) l.length i = true then 1 else if anyFrom (dupAt l) l.length 1 = true then 5 else 0) := by
 intro d
 induction d with
 | zero =>
  intro i k hd hk
  obtain ⟨k, rfl⟩ : ∃ m, k = m + 1 := ⟨k - 1, by omega⟩
  rw [gangsawref25_Check.l2, if_neg (by omega), anyFrom_end _ _ _ (by omega)];exact chk_l3 l hl (l.length - 1) 1 k rfl (Nat.le_refl _) (by omega)
 | succ d ih =>
  intro i k hd hk
  obtain ⟨k, rfl⟩ : ∃ m, k = m + 1 := ⟨k - 1, by omega⟩
  rw [gangsawref25_Check.l2, if_pos (by omega), if_pos (by omega), rdT, wrap_nat1 (by omega), anyFrom_step _ _ _ (by omega), ih (i + 1) k (by omega) (by omega)];generalize l.getD i z36 = x;by_cases hb : x.f1.f2 = 1
  ·rw [if_pos hb]; simp [hb]
  ·rw [if_neg hb]; simp [hb]
theorem chk_l1 : ∀ (d i k : Nat), l.length - i = d → d + 2 * l.length + 3 < k → gangsawref25_Check.l1 k l (i : Int) = some (if anyFrom (fun j => badSize (l.getD j z36)) l.length i = true then 6 else if anyFrom (fun j => (l.getD j z36).f1.f2 != 1) l.length 0 = true then 1 else if anyFrom (dupAt l) l.length 1 = true then 5 else 0) := by
 intro d
 induction d with
 | zero =>
  intro i k hd hk
  obtain ⟨k, rfl⟩ : ∃ m, k = m + 1 := ⟨k - 1, by omega⟩
  rw [gangsawref25_Check.l1, if_neg (by omega), anyFrom_end _ _ _ (by omega)];exact chk_l2 l hl l.length 0 k rfl (by omega)
 | succ d ih =>
  intro i k hd hk
  obtain ⟨k, rfl⟩ : ∃ m, k = m + 1 := ⟨k - 1, by omega⟩
  rw [gangsawref25_Check.l1, if_pos (by omega), if_pos (by omega), rdT, wrap_nat1 (by omega), anyFrom_step _ _ _ (by omega), ih (i + 1) k (by omega) (by omega), in_f, in_f];simp only [Option.bind_some, decide_eq_true_eq]
  unfold badSize sideB
  generalize l.getD i z36 = x;by_cases h1 : 1 ≤ x.f1.f0 ∧ x.f1.f0 ≤ 40
  ·rw [if_pos h1];by_cases h2 : 1 ≤ x.f1.f1 ∧ x.f1.f1 ≤ 40
   ·rw [if_pos h2];by_cases h3 : x.f2 < 0
    ·rw [if_pos h3]; simp [h3]
    ·rw [if_neg h3];by_cases h4 : x.f2 > 1000000000
     ·rw [if_pos h4]; simp [show (1000000000 : Int) < x.f2 from h4]
     ·rw [if_neg h4]; simp [h1, h2, h3, show ¬ (1000000000 : Int) < x.f2 from h4]
   ·rw [if_neg h2]; simp [h2]
  ·rw [if_neg h1]; simp [h1]
theorem chk_l0 (M : Nat) (hM : ∀ x ∈ l, x.f0.size ≤ M) (hM2 : M ≤ 9223372036854775807) : ∀ (d i k : Nat), l.length - i = d → d + 3 * l.length + M + 6 < k → gangsawref25_Check.l0 k l (i : Int) = some (if anyFrom (fun j => !lexName (l.getD j z36).f0) l.length i = true then 4 else if anyFrom (fun j => badSize (l.getD j z36)) l.length 0 = true then 6 else if anyFrom (fun j => (l.getD j z36).f1.f2 != 1) l.length 0 = true then 1 else if anyFrom (dupAt l) l.length 1 = true then 5 else 0) := by
 intro d
 induction d with
 | zero =>
  intro i k hd hk
  obtain ⟨k, rfl⟩ : ∃ m, k = m + 1 := ⟨k - 1, by omega⟩
  rw [gangsawref25_Check.l0, if_neg (by omega), anyFrom_end _ _ _ (by omega)];exact chk_l1 l hl l.length 0 k rfl (by omega)
 | succ d ih =>
  intro i k hd hk
  obtain ⟨k, rfl⟩ : ∃ m, k = m + 1 := ⟨k - 1, by omega⟩
  have hi : i < l.length := by omega
  have hsz : (l.getD i z36).f0.size ≤ M := by
   rw [List.getD_eq_getElem?_getD, List.getElem?_eq_getElem hi];exact hM _ (List.getElem_mem hi)
  rw [gangsawref25_Check.l0, if_pos (by omega), if_pos (by omega), rdT, wrap_nat1 (by omega), anyFrom_step _ _ _ hi, ih (i + 1) k (by omega) (by omega), name_f _ (by omega) k (by omega)];simp only [Option.bind_some]
  cases lexName (l.getD i z36).f0 <;> simp
end
theorem check_f (a0 a1 : Int) (l : List S36) (a3 : Int) (hl : l.length ≤ 1000) (M : Nat) (hM : ∀ x ∈ l, x.f0.size ≤ M) (hM2 : M ≤ 9223372036854775807) (k : Nat) (hk : 4 * l.length + M + 8 < k) : gangsawref25_Check.f k a0 a1 l a3 = some (checkR a0 a1 l a3) := by
 unfold gangsawref25_Check.f checkR
 rw [in_f, in_f, in_f];simp only [Option.bind_some]
 obtain ⟨k, rfl⟩ : ∃ m, k = m + 1 := ⟨k - 1, by omega⟩
 simp only [gangsawref25_Check.j0, sideB, decide_eq_true_eq];by_cases h1 : 1 ≤ a0 ∧ a0 ≤ 40
 ·rw [if_pos h1];by_cases h2 : 1 ≤ a1 ∧ a1 ≤ 40
  ·rw [if_pos h2];by_cases h3 : 0 ≤ a3 ∧ a3 ≤ 40
   ·rw [if_neg (by simp [h3]), if_pos (show (1 ≤ a0 ∧ a0 ≤ 40) ∧ (1 ≤ a1 ∧ a1 ≤ 40) ∧ ¬ a3 < 0 ∧ ¬ 40 < a3 from ⟨h1, h2, by omega, by omega⟩)];by_cases h6 : 6 < l.length
    (rw [if_pos (by omega), if_pos h6]);(have h0 := chk_l0 l hl M hM hM2 l.length 0 k rfl (by omega);rw [if_neg (by omega), if_neg h6, any_from, any_from, any_from];exact h0)
   (rw [if_pos (by simp; omega), if_neg (show ¬ ((1 ≤ a0 ∧ a0 ≤ 40) ∧ (1 ≤ a1 ∧ a1 ≤ 40) ∧ ¬ a3 < 0 ∧ ¬ 40 < a3) from by omega)])
  ·rw [if_neg h2, if_neg (show ¬ ((1 ≤ a0 ∧ a0 ≤ 40) ∧ (1 ≤ a1 ∧ a1 ≤ 40) ∧ ¬ a3 < 0 ∧ ¬ 40 < a3) from by omega)]; simp
 ·rw [if_neg h1, if_neg (show ¬ ((1 ≤ a0 ∧ a0 ≤ 40) ∧ (1 ≤ a1 ∧ a1 ≤ 40) ∧ ¬ a3 < 0 ∧ ¬ 40 < a3) from by omega)]; simp
theorem small_l0 (l : List S36) (hl : l.length ≤ 1000) : ∀ (d i k : Nat), l.length - i = d → d < k → ∃ b, gangsawref25_Small.l0 k l (i : Int) = some b ∧ (b = true → ∀ j, i ≤ j → j < l.length → (l.getD j z36).f0.size ≤ 100) := by
 intro d
 induction d with
 | zero =>
  intro i k hd hk
  obtain ⟨k, rfl⟩ : ∃ m, k = m + 1 := ⟨k - 1, by omega⟩
  rw [gangsawref25_Small.l0, if_neg (by omega)];exact ⟨true, rfl, fun _ j h1 h2 => by omega⟩
 | succ d ih =>
  intro i k hd hk
  obtain ⟨k, rfl⟩ : ∃ m, k = m + 1 := ⟨k - 1, by omega⟩
  obtain ⟨b, hb, h⟩ := ih (i + 1) k (by omega) (by omega);rw [gangsawref25_Small.l0, if_pos (by omega), if_pos (by omega), rdT, wrap_nat1 (by omega)];by_cases h1 : ((l.getD i z36).f0.size : Int) > 100
  ·rw [if_pos h1]; exact ⟨false, rfl, fun h => Bool.noConfusion h⟩
  ·rw [if_neg h1]
   refine ⟨b, hb, fun ht j hj hjl => ?_⟩
   by_cases e : j = i
   ·subst e; omega
   (exact h ht j (by omega) hjl)
theorem small_j0 (l : List S36) (b : Bool) (hb : b = false → l.length ≤ 10) (k : Nat) (hk : l.length + 2 < k ∨ 20 < k) : ∃ r, gangsawref25_Small.j0 k l b = some r ∧ (r = true → b = false ∧ l.length ≤ 10 ∧ ∀ x ∈ l, x.f0.size ≤ 100) := by
 obtain ⟨k, rfl⟩ : ∃ m, k = m + 1 := ⟨k - 1, by omega⟩
 rw [gangsawref25_Small.j0]
 cases b with
 | true => exact ⟨false, by simp, fun h => Bool.noConfusion h⟩
 | false =>
  have hl := hb rfl;obtain ⟨r, hr, h⟩ := small_l0 l (by omega) l.length 0 k rfl (by omega)
  refine ⟨r, by rw [if_neg (by simp)]; exact hr, fun ht => ⟨rfl, hl, fun x hx => ?_⟩⟩
  obtain ⟨j, hj, rfl⟩ := List.getElem_of_mem hx;have := h ht j (Nat.zero_le _) hj;rw [List.getD_eq_getElem?_getD, List.getElem?_eq_getElem hj] at this;exact this
theorem small_f (a0 a1 : Int) (l : List S36) (k : Nat) (hk : 20 < k) : ∃ r, gangsawref25_Small.f k a0 a1 l = some r ∧ (r = true → (a0 ≤ 14 ∨ 40 < a0) ∧ (a1 ≤ 14 ∨ 40 < a1) ∧ l.length ≤ 10 ∧ ∀ x ∈ l, x.f0.size ≤ 100) := by
 unfold gangsawref25_Small.f
 have hT := small_j0 l true (fun h => Bool.noConfusion h) k (.inr hk);have hD := small_j0 l (decide ((l.length : Int) > 10)) (fun h => by simp at h; omega) k (.inr hk);obtain ⟨rT, eT, pT⟩ := hT;obtain ⟨rD, eD, pD⟩ := hD;by_cases h1 : a0 > 14
 ·rw [if_pos h1];by_cases h2 : a0 ≤ 40
  ·rw [if_pos h2]; exact ⟨rT, eT, fun h => Bool.noConfusion (pT h).1⟩
  ·rw [if_neg h2];by_cases h3 : a1 > 14
   ·rw [if_pos h3];by_cases h4 : a1 ≤ 40
    ·rw [if_pos h4]; exact ⟨rT, eT, fun h => Bool.noConfusion (pT h).1⟩
    ·rw [if_neg h4]; exact ⟨rD, eD, fun h => ⟨by omega, by omega, (pD h).2⟩⟩
   ·rw [if_neg h3]; exact ⟨rD, eD, fun h => ⟨by omega, by omega, (pD h).2⟩⟩
 ·rw [if_neg h1];by_cases h3 : a1 > 14
  ·rw [if_pos h3];by_cases h4 : a1 ≤ 40
   ·rw [if_pos h4]; exact ⟨rT, eT, fun h => Bool.noConfusion (pT h).1⟩
   ·rw [if_neg h4]; exact ⟨rD, eD, fun h => ⟨by omega, by omega, (pD h).2⟩⟩
  ·rw [if_neg h3]; exact ⟨rD, eD, fun h => ⟨by omega, by omega, (pD h).2⟩⟩
end Go.Proofs.Ytdnjagfbhppmbaa.Pure
