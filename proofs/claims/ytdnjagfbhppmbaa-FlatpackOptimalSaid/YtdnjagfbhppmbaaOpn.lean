import Derived.Test.YtdnjagfbhppmbaaOp
namespace Go.Proofs.Ytdnjagfbhppmbaa.PA
open Go.RowKit Go.ChangeShapes Go.WideShapes Go.Deep Go.Proofs.YtdnjagfbhppmbaaW.PrintWords Go.Proofs.YtdnjagfbhppmbaaW.PrintLast Go.Proofs.YtdnjagfbhppmbaaW.PrintMore
set_option linter.unusedVariables false
set_option linter.unusedSimpArgs false
section
variable {H : Type} {enc : TypeId × Value → H} {W : World} {base : Nat} {spare : Nat → Bool} {held : Bool}
def Good59 (p : S59) : Prop := p.f1.size ≤ 9223372036854775807 ∧ Rng p.f0 ∧ Rng p.f2 ∧ Rng p.f3 ∧ Rng p.f4 ∧ Rng p.f5 ∧ Rng p.f6
set_option maxRecDepth 100000 in
theorem open59 (fuel : Nat) (cs : List Value) (x : DataW H × List MemPlace) (hl : cs.length = 7) (h : DataW.trod enc Try.prog W base spare held fuel 59 cs = some x) : ∃ p : S59, k59.K W p cs ∧ Good59 p := by
 obtain ⟨xs, n, _, _, _, hx, hf⟩ := DataW.trod_struct Try.underlying59 h
 match cs, hl with
 | [c0, c1, c2, c3, c4, c5, c6], _ =>
  have hx' : xs.length = 7 := hx
  have hc : Try.prog.cellsOf 3 = 1 := by kernel_rfl
  have hc9 : Try.prog.cellsOf 9 = 1 := by kernel_rfl
  obtain ⟨n0, e0, _, r0⟩ := DataW.trod_int Try.underlying3 (fld hf 0 _ rfl 3 0 1 rfl rfl hc (by omega));obtain ⟨s, e1, _, r1⟩ := DataW.trod_string Try.underlying9 (fld hf 1 _ rfl 9 1 1 rfl rfl hc9 (by omega));obtain ⟨n2, e2, _, r2⟩ := DataW.trod_int Try.underlying3 (fld hf 2 _ rfl 3 2 1 rfl rfl hc (by omega));obtain ⟨n3, e3, _, r3⟩ := DataW.trod_int Try.underlying3 (fld hf 3 _ rfl 3 3 1 rfl rfl hc (by omega));obtain ⟨n4, e4, _, r4⟩ := DataW.trod_int Try.underlying3 (fld hf 4 _ rfl 3 4 1 rfl rfl hc (by omega));obtain ⟨n5, e5, _, r5⟩ := DataW.trod_int Try.underlying3 (fld hf 5 _ rfl 3 5 1 rfl rfl hc (by omega));obtain ⟨n6, e6, _, r6⟩ := DataW.trod_int Try.underlying3 (fld hf 6 _ rfl 3 6 1 rfl rfl hc (by omega))
  simp at e0 e1 e2 e3 e4 e5 e6
  subst e0 e1 e2 e3 e4 e5 e6;exact ⟨⟨n0, s, n2, n3, n4, n5, n6⟩, k59_mk W _, r1, r0, r2, r3, r4, r5, r6⟩
end
end Go.Proofs.Ytdnjagfbhppmbaa.PA
