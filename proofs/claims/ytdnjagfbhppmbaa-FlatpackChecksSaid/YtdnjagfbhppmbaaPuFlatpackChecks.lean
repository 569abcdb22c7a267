import Derived.Test.YtdnjagfbhppmbaaPuf
import Derived.Test.YtdnjagfbhppmbaaPAx19b
import Derived.Test.YtdnjagfbhppmbaaOp
namespace Go.Proofs.Ytdnjagfbhppmbaa.Pure
open Go.RowKit Go.Proofs.Ytdnjagfbhppmbaa Go.Proofs.Ytdnjagfbhppmbaa.PA Go.Proofs.YtdnjagfbhppmbaaW.PrintWords Go.Proofs.YtdnjagfbhppmbaaW.PrintLast Go.Proofs.YtdnjagfbhppmbaaW.PrintMore
set_option linter.unusedVariables false
set_option linter.unusedSimpArgs false

theorem FlatpackChecks (a0 a1 : Int) (l2 : List S36) (a3 : Int) (_ : Rng a0) (_ : Rng a1) (_ : l2.length ≤ maxLen) (_ : ∀ x ∈ l2, Good36 x) (_ : Rng a3) : ∃ k, gangsawlaw25_FlatpackChecks.f k a0 a1 l2 a3 = some true := by
  have key : Ev (fun k => gangsawlaw25_FlatpackChecks.f k a0 a1 l2 a3) true := by
    obtain ⟨s, hs, hsp⟩ : ∃ s, Ev (fun k => gangsawref25_Small.f k a0 a1 l2) s ∧ (s = true → (a0 ≤ 14 ∨ 40 < a0) ∧ (a1 ≤ 14 ∨ 40 < a1) ∧ l2.length ≤ 10 ∧ ∀ x ∈ l2, x.f0.size ≤ 100) := by
      obtain ⟨s, hs, hp⟩ := small_f a0 a1 l2 21 (by omega)
      exact ⟨s, Ev.of (fun k => gangsawref25_Small.mono _ _ _ k) hs, hp⟩
    refine Ev.bind awake_f (Ev.congr (fun k => if_pos rfl) (Ev.bind hs ?_))
    cases s with
    | false => exact Ev.congr (fun k => if_neg (by simp)) (Ev.now true)
    | true =>
      obtain ⟨h0, h1, h2, h3⟩ := hsp rfl
      have C : Ev (fun k => gangsawref25_Check.f k a0 a1 l2 a3) (checkR a0 a1 l2 a3) := ⟨4 * l2.length + 100 + 9, fun k hk => check_f a0 a1 l2 a3 (by omega) 100 h3 (by omega) k (by omega)⟩
      refine Ev.congr (fun k => if_pos rfl) (Ev.bind C (Ev.congr (fun k => ?_) (Ev.now true)))
      rw [checkF h3]
      simp only [Option.bind_some]
      rw [if_pos trivial]
      by_cases hc : checkR a0 a1 l2 a3 = 0
      · rw [if_pos hc]
      · rw [if_neg hc]
        have e1 : flatpack_Best.f a0 a1 l2 a3 = some (0, checkR a0 a1 l2 a3) := by
          unfold flatpack_Best.f
          rw [checkF h3]
          simp only [Option.bind_some]
          rw [if_neg hc]
        have e2 : flatpack_Plan.f a0 a1 l2 a3 = some ([], checkR a0 a1 l2 a3) := by
          unfold flatpack_Plan.f
          rw [if_pos (fun x hx => by have := h3 x hx; omega), if_neg hc]
        have e3 : flatpack_Bounds.f a0 a1 l2 a3 = some ([], checkR a0 a1 l2 a3) := by
          unfold flatpack_Bounds.f
          rw [checkF h3]
          simp only [Option.bind_some]
          rw [if_neg hc]
        have e4 : flatpack_Trim.f k a0 a1 l2 a3 = some (0, 0, checkR a0 a1 l2 a3) := by
          unfold flatpack_Trim.f
          rw [checkF h3]
          simp only [Option.bind_some]
          rw [if_neg hc]
        have e5 : ∀ l4, flatpack_Value.f a0 a1 l2 a3 l4 = some (0, checkR a0 a1 l2 a3) := by
          intro l4
          unfold flatpack_Value.f
          rw [checkF h3]
          simp only [Option.bind_some]
          rw [if_neg hc]
        rw [e1, e2, e3, e4, e5]
        simp
  exact key.rounds
end Go.Proofs.Ytdnjagfbhppmbaa.Pure
