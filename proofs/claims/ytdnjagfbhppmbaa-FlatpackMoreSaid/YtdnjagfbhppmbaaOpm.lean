import Derived.Test.YtdnjagfbhppmbaaOp
namespace Go.Proofs.Ytdnjagfbhppmbaa.PA
open Go.RowKit Go.ChangeShapes Go.WideShapes Go.Deep Go.Proofs.YtdnjagfbhppmbaaW.PrintWords Go.Proofs.YtdnjagfbhppmbaaW.PrintLast Go.Proofs.YtdnjagfbhppmbaaW.PrintMore
set_option linter.unusedVariables false
set_option linter.unusedSimpArgs false
section
variable {H : Type} {enc : TypeId × Value → H} {W : World} {base : Nat} {spare : Nat → Bool} {held : Bool}
set_option maxRecDepth 100000 in
theorem openIt {b0 : Nat} {v : Value} {d : DataW H} {ps : List MemPlace} (hval : Value.okWide Try.prog W .any b0 36 v) (h : DataW.Trod enc Try.prog W base spare held 36 v d ps) :
  ∃ p : S36, v = .agg #[.string p.f0, .int .i64 p.f1.f0, .int .i64 p.f1.f1, .int .i64 p.f1.f2, .int .i64 p.f2, .int .i64 p.f3, .int .i64 p.f4] ∧ Good36 p := by
 obtain ⟨cs, rfl, hs⟩ := okWide_struct Try.underlying36 hval
 have hs2 : cs.size = 7 := by rw [hs]; kernel_rfl
 obtain ⟨fuel, hf⟩ := h;obtain ⟨p, hK, hG⟩ := open36 fuel _ _ (by simp [Value.cells]; exact hs2) hf;have e := k36_open hK
 refine ⟨p, ?_, hG⟩
 have e2 : cs.toList = [.string p.f0, .int .i64 p.f1.f0, .int .i64 p.f1.f1, .int .i64 p.f1.f2, .int .i64 p.f2, .int .i64 p.f3, .int .i64 p.f4] := by simpa [Value.cells] using e
 have e3 : cs = #[.string p.f0, .int .i64 p.f1.f0, .int .i64 p.f1.f1, .int .i64 p.f1.f2, .int .i64 p.f2, .int .i64 p.f3, .int .i64 p.f4] := by rw [← Array.toArray_toList (xs := cs), e2]
 rw [e3]
end
end Go.Proofs.Ytdnjagfbhppmbaa.PA
