import Derived.Test.YtdnjagfbhppmbaaGc
namespace Go.Proofs.Ytdnjagfbhppmbaa.PA
open Go.RowKit Go.Shelf Go.Proofs.YtdnjagfbhppmbaaW.PrintWords Go.Proofs.YtdnjagfbhppmbaaW.PrintLast Go.Proofs.YtdnjagfbhppmbaaW.PrintMore
set_option linter.unusedVariables false
set_option linter.unusedSimpArgs false

/-! flatpack.Value of a problem that is not valid: its error. (Of a valid problem nothing is told here.) -/
def flatpack_Value.f (a0 : Int) (a1 : Int) (l2 : List S36) (a3 : Int) (l4 : List S59) : Option (Int × Int) := (flatpack_Check.f a0 a1 l2 a3).bind fun e => if e = 0 then none else some (0, e)
set_option maxHeartbeats 400000 in
theorem flatpack_Value.calls (a0 : Int) (a1 : Int) (A2 : Option Addr) (c2 : Nat) (l2 : List (S36)) (a3 : Int) (A4 : Option Addr) (c4 : Nat) (l4 : List (S59)) (r1 : Int) (r2 : Int) (w : World) (hr2 : Kd.C k36 w A2 l2.length l2) (hc2 : l2.length ≤ c2) (hr4 : Kd.C k59 w A4 l4.length l4) (hc4 : l4.length ≤ c4) (h : flatpack_Value.f a0 a1 l2 a3 l4 = some (r1, r2)) :
    Calls Try.prog 28 #[.int .i64 a0, .int .i64 a1, .slice A2 l2.length c2, .int .i64 a3, .slice A4 l4.length c4] w fun e w' => e = .returned (.tuple #[.int .i64 r1, .int .i64 r2]) ∧ Below w.heap.size w w' := by
  unfold flatpack_Value.f at h
  cases hf : flatpack_Check.f a0 a1 l2 a3 with
  | none => rw [hf] at h; cases h
  | some r =>
    rw [hf] at h
    simp only [Option.bind_some] at h
    by_cases hz : r = 0
    · rw [if_pos hz] at h; cases h
    · rw [if_neg hz] at h
      obtain ⟨rfl, rfl⟩ := Prod.mk.inj (Option.some.inj h)
      have hb0 : Below w.heap.size w (w.alloc (.cells #[.int .i64 a3] 3)) := (Below.refl _ _).alloc (Nat.le_refl _) _
      have C := flatpack_Check.calls a0 a1 A2 c2 l2 a3 r (w.alloc (.cells #[.int .i64 a3] 3)) (Kd.C_below hr2 hb0) hc2 hf
      have hne : (r != 0) = true := by simpa using hz
      have HC := aside C
      have HB := aside hb0
      clear C hb0 hf hz h hr2 hr4
      go_enter Try.func28, Try.ntmps28
      go_wp2_with (go_at_call 30; refine HC.out.mono ?_; rintro e w1 ⟨rfl, hb⟩)
      go_ret2
      exact ⟨rfl, HB.out.trans (hb.mono HB.out.size)⟩
end Go.Proofs.Ytdnjagfbhppmbaa.PA
