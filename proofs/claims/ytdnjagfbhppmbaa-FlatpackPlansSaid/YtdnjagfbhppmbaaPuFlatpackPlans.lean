import Derived.Test.YtdnjagfbhppmbaaPuf
import Derived.Test.YtdnjagfbhppmbaaOp
namespace Go.Proofs.Ytdnjagfbhppmbaa.Pure
open Go.RowKit Go.Proofs.Ytdnjagfbhppmbaa Go.Proofs.Ytdnjagfbhppmbaa.PA Go.Proofs.YtdnjagfbhppmbaaW.PrintWords Go.Proofs.YtdnjagfbhppmbaaW.PrintLast Go.Proofs.YtdnjagfbhppmbaaW.PrintMore

theorem FlatpackPlans (a0 a1 : Int) (l2 : List S36) (a3 : Int) (_ : Rng a0) (_ : Rng a1) (_ : l2.length ≤ maxLen) (_ : ∀ x ∈ l2, Good36 x) (_ : Rng a3) : ∃ k, gangsawlaw25_FlatpackPlans.f k a0 a1 l2 a3 = some true := by
  have key : Ev (fun k => gangsawlaw25_FlatpackPlans.f k a0 a1 l2 a3) true := by
    obtain ⟨s, hs, hsp⟩ : ∃ s, Ev (fun k => gangsawref25_Small.f k a0 a1 l2) s ∧ (s = true → (a0 ≤ 14 ∨ 40 < a0) ∧ (a1 ≤ 14 ∨ 40 < a1) ∧ l2.length ≤ 10 ∧ ∀ x ∈ l2, x.f0.size ≤ 100) := by
      obtain ⟨s, hs, hp⟩ := small_f a0 a1 l2 21 (by omega)
      exact ⟨s, Ev.of (fun k => gangsawref25_Small.mono _ _ _ k) hs, hp⟩
    refine Ev.congr (fun k => rfl) (?_ : Ev (fun k => (gangsawlaw25_awake.f k).bind fun t241 => (if t241 = true then ((gangsawref25_Small.f k a0 a1 l2).bind fun t242 => (if t242 = true then ((gangsawref25_Check.f k a0 a1 l2 a3).bind fun t243 => (gangsawlaw25_FlatpackPlans.j0 k a0 a1 l2 a3 (t243 != 0))) else (gangsawlaw25_FlatpackPlans.j0 k a0 a1 l2 a3 true))) else (some false))) true)
    refine Ev.bind awake_f (Ev.congr (fun k => if_pos rfl) (Ev.bind hs ?_))
    have yes : Ev (fun k => gangsawlaw25_FlatpackPlans.j0 k a0 a1 l2 a3 true) true := Ev.step (f := fun _ => some true) (fun k => by rw [gangsawlaw25_FlatpackPlans.j0, if_pos rfl]) (Ev.now _)
    cases s with
    | false => exact Ev.congr (fun k => if_neg (by simp)) yes
    | true =>
      obtain ⟨h0, h1, h2, h3⟩ := hsp rfl
      refine Ev.congr (fun k => if_pos rfl) (Ev.bind (⟨4 * l2.length + 100 + 9, fun k hk => check_f a0 a1 l2 a3 (by omega) 100 h3 (by omega) k (by omega)⟩ : Ev (fun k => gangsawref25_Check.f k a0 a1 l2 a3) (checkR a0 a1 l2 a3)) ?_)
      by_cases hc : checkR a0 a1 l2 a3 = 0
      · obtain ⟨g0, g1, g2, g3, g4⟩ := chk0 hc
        obtain ⟨L, rfl⟩ : ∃ n : Nat, a0 = n := ⟨a0.toNat, by omega⟩
        obtain ⟨Wd, rfl⟩ : ∃ n : Nat, a1 = n := ⟨a1.toNat, by omega⟩
        obtain ⟨kf, rfl⟩ : ∃ n : Nat, a3 = n := ⟨a3.toNat, by omega⟩
        obtain ⟨r, e1, e2, e3⟩ := plan_f L Wd kf l2 hc h3 (by omega) (by omega)
        refine Ev.step (f := fun k => (gangsawref25_Plan.f k (L : Int) (Wd : Int) l2 (kf : Int)).bind fun t => (gangsawref24_Same.f k r t).bind fun u => some u) (fun k => ?_) (Ev.bind (f := fun k t => (gangsawref24_Same.f k r t).bind fun u => some u) e2 (Ev.bind (same_f r (by omega)) (Ev.now true)))
        rw [gangsawlaw25_FlatpackPlans.j0, hc, if_neg (by simp), e1]
        simp only [Option.bind_some]
        rw [if_pos trivial]
      · have e : (checkR a0 a1 l2 a3 != 0) = true := by simpa using hc
        rw [e]
        exact yes
  exact key.rounds
end Go.Proofs.Ytdnjagfbhppmbaa.Pure
