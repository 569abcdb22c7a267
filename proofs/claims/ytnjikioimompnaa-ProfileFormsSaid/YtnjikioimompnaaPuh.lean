import Derived.Test.YtnjikioimompnaaPAx8
import Derived.Test.YtnjikioimompnaaPAx9
import Derived.IntWalk
namespace Go.Proofs.Ytnjikioimompnaa.Pure
open Go.RowKit Go.Proofs.Ytnjikioimompnaa Go.Proofs.Ytnjikioimompnaa.PA Go.Proofs.YtnjikioimompnaaW.PrintWords Go.Proofs.YtnjikioimompnaaW.PrintLast Go.Proofs.YtnjikioimompnaaW.PrintMore
set_option linter.unusedVariables false
set_option linter.unusedSimpArgs false
theorem awake_f : Ev (fun k=>gangsawlaw39_awake.f k) true:=Ev.of (fun k=>gangsawlaw39_awake.mono k) (k:=300) (by kernel_rfl)
theorem short_f (nm : ByteArray) (l : List S31) : gangsawref39_Short.f nm l = some false ∨ (gangsawref39_Short.f nm l = some true ∧ l.length ≤ 80 ∧ nm.size ≤ 60):=by
 unfold gangsawref39_Short.f
 by_cases h1 : (l.length : Int) ≤ 80
 ·rw [if_pos h1];by_cases h2 : (nm.size : Int) ≤ 60
  (exact .inr ⟨by rw [decide_eq_true h2],by omega,by omega⟩);(exact .inl (by rw [decide_eq_false h2]))
 (rw [if_neg h1];exact .inl rfl)
end Go.Proofs.Ytnjikioimompnaa.Pure
