import Derived.Test.YtdnjagfbhppmbaaOpn
import Derived.Test.YtdnjagfbhppmbaaPAx205
import Derived.Test.YtdnjagfbhppmbaaPuf
import Derived.Test.YtdnjagfbhppmbaaPuw
namespace Go.Proofs.Ytdnjagfbhppmbaa.Pure
open Go.RowKit Go.Proofs.Ytdnjagfbhppmbaa Go.Proofs.Ytdnjagfbhppmbaa.PA Go.Proofs.YtdnjagfbhppmbaaW.PrintWords Go.Proofs.YtdnjagfbhppmbaaW.PrintLast Go.Proofs.YtdnjagfbhppmbaaW.PrintMore
set_option linter.unusedVariables false
set_option linter.unusedSimpArgs false
theorem FlatpackValues (a0 a1 : Int) (l2 : List S36) (a3 : Int) (l4 : List S59) (_ : Rng a0) (_ : Rng a1) (_ : l2.length ≤ maxLen) (_ : ∀ x ∈ l2, Good36 x) (_ : Rng a3) (_ : l4.length ≤ maxLen) (hg : ∀ x ∈ l4, Good59 x) : ∃ k, gangsawlaw25_FlatpackValues.f k a0 a1 l2 a3 l4 = some true := by
 have hs : ∀ x ∈ l4, x.f1.size ≤ 9223372036854775807 := fun x hx => (hg x hx).1
 have key : Ev (fun k => gangsawlaw25_FlatpackValues.f k a0 a1 l2 a3 l4) true := by
  obtain ⟨s, h1, hsp⟩ : ∃ s, Ev (fun k => gangsawref25_Small.f k a0 a1 l2) s ∧ (s = true → (a0 ≤ 14 ∨ 40 < a0) ∧ (a1 ≤ 14 ∨ 40 < a1) ∧ l2.length ≤ 10 ∧ ∀ x ∈ l2, x.f0.size ≤ 100) := by
   obtain ⟨s, hs, hp⟩ := small_f a0 a1 l2 21 (by omega);exact ⟨s, Ev.of (fun k => gangsawref25_Small.mono _ _ _ k) hs, hp⟩
  obtain ⟨b, hb⟩ := few24_f l4
  unfold gangsawlaw25_FlatpackValues.f
  refine Ev.bind awake_f (Ev.congr (fun k => if_pos rfl) (Ev.bind h1 ?_))
  have yes : Ev (fun k => gangsawlaw25_FlatpackValues.j0 k a0 a1 l2 a3 l4 true) true := Ev.step (f := fun _ => some true) (fun k => by rw [gangsawlaw25_FlatpackValues.j0, if_pos rfl]) (Ev.now _)
  cases s with
  | false => exact Ev.congr (fun k => if_neg (by simp)) yes
  | true =>
   obtain ⟨h0, h1, h2, h3⟩ := hsp rfl
   refine Ev.congr (fun k => if_pos rfl) (Ev.bind hb ?_)
   cases b with
   | false => exact yes
   | true =>
    have hv : flatpack_Value.f a0 a1 l2 a3 l4 = some (valueR a0 a1 l2 a3 l4) := by
     unfold flatpack_Value.f
     rw [if_pos ⟨fun x hx => by have := h3 x hx; omega, hs⟩]
    refine Ev.step (f := fun k => (gangsawref25_Value.f k a0 a1 l2 a3 l4).bind fun t => if (valueR a0 a1 l2 a3 l4).1 = t.1 then some ((valueR a0 a1 l2 a3 l4).2 == t.2) else none) (fun k => ?_) (Ev.bind (value_ev a0 a1 l2 a3 l4 (by omega) h3 hs) (Ev.congr (fun k => by rw [if_pos rfl]; simp) (Ev.now true)))
    rw [gangsawlaw25_FlatpackValues.j0, if_neg (by simp), hv];rfl
 exact key.rounds
end Go.Proofs.Ytdnjagfbhppmbaa.Pure
