import Derived.Test.YtdnjagfbhppmbaaPAx3
import Derived.Test.YtdnjagfbhppmbaaPua
import Derived.WalkLawsBesides
namespace Go.Proofs.Ytdnjagfbhppmbaa.Pure
open Go.RowKit Go.Proofs.Ytdnjagfbhppmbaa Go.Proofs.Ytdnjagfbhppmbaa.PA Go.Proofs.YtdnjagfbhppmbaaW.PrintWords Go.Proofs.YtdnjagfbhppmbaaW.PrintLast Go.Proofs.YtdnjagfbhppmbaaW.PrintMore
set_option linter.unusedVariables false
set_option linter.unusedSimpArgs false
theorem rdT (l : List S36) (i : Nat) : rd_T36 l (i : Int) = l.getD i z36 := by unfold rd_T36; simp
section
variable (l : List S36) (hl : l.length ≤ 1000)
include hl
end
theorem small_l0 (l : List S36) (hl : l.length ≤ 1000) : ∀ (d i k : Nat), l.length - i = d → d < k → ∃ b, gangsawref25_Small.l0 k l (i : Int) = some b ∧ (b = true → ∀ j, i ≤ j → j < l.length → (l.getD j z36).f0.size ≤ 100) := by
 intro d
 induction d with
 | zero =>
  intro i k hd hk
  obtain ⟨k, rfl⟩ : ∃ m, k = m + 1 := ⟨k - 1, by omega⟩
  rw [gangsawref25_Small.l0, if_neg (by omega)];exact ⟨true, rfl, fun _ j h1 h2 => by omega⟩
 | succ d ih =>
  intro i k hd hk
  obtain ⟨k, rfl⟩ : ∃ m, k = m + 1 := ⟨k - 1, by omega⟩
  obtain ⟨b, hb, h⟩ := ih (i + 1) k (by omega) (by omega);rw [gangsawref25_Small.l0, if_pos (by omega), if_pos (by omega), rdT, wrap_nat1 (by omega)];by_cases h1 : ((l.getD i z36).f0.size : Int) > 100
  ·rw [if_pos h1]; exact ⟨false, rfl, fun h => Bool.noConfusion h⟩
  ·rw [if_neg h1]
   refine ⟨b, hb, fun ht j hj hjl => ?_⟩
   by_cases e : j = i
   ·subst e; omega
   (exact h ht j (by omega) hjl)
theorem small_j0 (l : List S36) (b : Bool) (hb : b = false → l.length ≤ 10) (k : Nat) (hk : l.length + 2 < k ∨ 20 < k) : ∃ r, gangsawref25_Small.j0 k l b = some r ∧ (r = true → b = false ∧ l.length ≤ 10 ∧ ∀ x ∈ l, x.f0.size ≤ 100) := by
 obtain ⟨k, rfl⟩ : ∃ m, k = m + 1 := ⟨k - 1, by omega⟩
 rw [gangsawref25_Small.j0]
 cases b with
 | true => exact ⟨false, by simp, fun h => Bool.noConfusion h⟩
 | false =>
  have hl := hb rfl;obtain ⟨r, hr, h⟩ := small_l0 l (by omega) l.length 0 k rfl (by omega)
  refine ⟨r, by rw [if_neg (by simp)]; exact hr, fun ht => ⟨rfl, hl, fun x hx => ?_⟩⟩
  obtain ⟨j, hj, rfl⟩ := List.getElem_of_mem hx;have := h ht j (Nat.zero_le _) hj;rw [List.getD_eq_getElem?_getD, List.getElem?_eq_getElem hj] at this;exact this
theorem small_f (a0 a1 : Int) (l : List S36) (k : Nat) (hk : 20 < k) : ∃ r, gangsawref25_Small.f k a0 a1 l = some r ∧ (r = true → (a0 ≤ 14 ∨ 40 < a0) ∧ (a1 ≤ 14 ∨ 40 < a1) ∧ l.length ≤ 10 ∧ ∀ x ∈ l, x.f0.size ≤ 100) := by
 unfold gangsawref25_Small.f
 have hT := small_j0 l true (fun h => Bool.noConfusion h) k (.inr hk);have hD := small_j0 l (decide ((l.length : Int) > 10)) (fun h => by simp at h; omega) k (.inr hk);obtain ⟨rT, eT, pT⟩ := hT;obtain ⟨rD, eD, pD⟩ := hD;by_cases h1 : a0 > 14
 ·rw [if_pos h1];by_cases h2 : a0 ≤ 40
  ·rw [if_pos h2]; exact ⟨rT, eT, fun h => Bool.noConfusion (pT h).1⟩
  ·rw [if_neg h2];by_cases h3 : a1 > 14
   ·rw [if_pos h3];by_cases h4 : a1 ≤ 40
    ·rw [if_pos h4]; exact ⟨rT, eT, fun h => Bool.noConfusion (pT h).1⟩
    ·rw [if_neg h4]; exact ⟨rD, eD, fun h => ⟨by omega, by omega, (pD h).2⟩⟩
   ·rw [if_neg h3]; exact ⟨rD, eD, fun h => ⟨by omega, by omega, (pD h).2⟩⟩
 ·rw [if_neg h1];by_cases h3 : a1 > 14
  ·rw [if_pos h3];by_cases h4 : a1 ≤ 40
   ·rw [if_pos h4]; exact ⟨rT, eT, fun h => Bool.noConfusion (pT h).1⟩
   ·rw [if_neg h4]; exact ⟨rD, eD, fun h => ⟨by omega, by omega, (pD h).2⟩⟩
  ·rw [if_neg h3]; exact ⟨rD, eD, fun h => ⟨by omega, by omega, (pD h).2⟩⟩
end Go.Proofs.Ytdnjagfbhppmbaa.Pure
