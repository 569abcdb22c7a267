import Derived.Test.YtnjikioimompnaaPum
import Derived.Test.YtnjikioimompnaaPuf
import Derived.Test.YtnjikioimompnaaPuh
import Derived.Test.YtnjikioimompnaaPAx20
import Derived.Test.YtnjikioimompnaaPun
namespace Go.Proofs.Ytnjikioimompnaa.Pure
open Go.RowKit Go.Proofs.Ytnjikioimompnaa Go.Proofs.Ytnjikioimompnaa.PA Go.Proofs.YtnjikioimompnaaW.PrintWords Go.Proofs.YtnjikioimompnaaW.PrintLast Go.Proofs.YtnjikioimompnaaW.PrintMore
set_option linter.unusedVariables false
set_option linter.unusedSimpArgs false

theorem refstep_l0 : ∀ (k : Nat) (nm : ByteArray) (g r : Int) (x : List S31) (a : Int),gangsawref39_Step.l0 k nm g r x a = profile_Step.l0 k nm g r x a:=by
  intro k
  induction k with
  | zero=>intro nm g r x a;rfl
  | succ k ih =>
    intro nm g r x a
    simp only [gangsawref39_Step.l0,profile_Step.l0,ih]
    by_cases h : a > 0
    · rw [if_pos h,if_pos (by omega)]
    · rw [if_neg h,if_neg (by omega)]
theorem refstep_j0 (k : Nat) (nm : ByteArray) (a g r : Int) (b : Bool) : gangsawref39_Step.j0 k nm a g r b = profile_Step.j0 k nm a g r b:=by
  cases k with
  | zero=>rfl
  | succ k=>simp only [gangsawref39_Step.j0,profile_Step.j0,refstep_l0]
/-- The reference's Step answers as the program's. -/
theorem refstep_f (nm : ByteArray) (hnm : nm.size ≤ 1000000) (a g r : Int) {R : ByteArray × List S31 × Int} (h : Ev (fun k=>profile_Step.f k nm a g r) R) : Ev (fun k=>gangsawref39_Step.f k nm a g r) R:=by
  unfold gangsawref39_Step.f
  refine Ev.bind (name_f nm hnm) (Ev.congr (fun k=>?_) h)
  unfold profile_Step.f lexer_Name.f
  rw [if_pos (show nm.size ≤ 9223372036854775807 by omega)]
  simp only [Option.bind_some,refstep_j0]
theorem ProfileSteps (nm : ByteArray) (a g r : Int) (_ : nm.size ≤ 140737488351232) (wa : (Lit.int .i64 a).wf = true) (_ : (Lit.int .i64 g).wf = true) (_ : (Lit.int .i64 r).wf = true) : ∃ k,gangsawlaw39_ProfileSteps.f k nm a g r = some true:=by
  have wa' : -9223372036854775808 ≤ a ∧ a ≤ 9223372036854775807:=by
    simp only [Lit.wf,IntKind.min,IntKind.max,IntKind.signed,IntKind.bits,Bool.and_eq_true,decide_eq_true_eq,if_true] at wa
    omega
  have key : Ev (fun k=>gangsawlaw39_ProfileSteps.f k nm a g r) true:=by
    unfold gangsawlaw39_ProfileSteps.f
    refine Ev.bind awake_f (Ev.congr (fun k=>if_pos rfl) ?_)
    by_cases hn : (nm.size : Int) > 60
    · exact Ev.congr (fun k=>if_pos hn) (Ev.now _)
    · refine Ev.congr (fun k=>if_neg hn) ?_
      have hs : nm.size ≤ 1000000:=by omega
      rcases Step_f nm hs a g r wa' with ⟨e,he,hE⟩|⟨h0,n,rfl,n1,n2,g1,r1,b1,b2,hE⟩
      · exact Ev.bind hE (Ev.bind (refstep_f nm hs a g r hE) (Ev.congr (fun k=>if_pos rfl) (Ev.bind (same_refl _ _ (by simp)) (Ev.now _))))
      · exact Ev.bind hE (Ev.bind (refstep_f nm hs _ g r hE) (Ev.congr (fun k=>if_pos rfl) (Ev.bind (same_refl _ _ (by rw [stair_len n1];omega)) (Ev.now _))))
  exact key.rounds
end Go.Proofs.Ytnjikioimompnaa.Pure
