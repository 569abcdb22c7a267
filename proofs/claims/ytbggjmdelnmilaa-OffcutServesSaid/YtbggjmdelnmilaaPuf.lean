import Derived.Test.YtbggjmdelnmilaaPAx75
import Derived.IntWalk
namespace Go.Proofs.Ytbggjmdelnmilaa.Pure
open Go.RowKit Go.Proofs.Ytbggjmdelnmilaa Go.Proofs.Ytbggjmdelnmilaa.PA Go.Proofs.YtbggjmdelnmilaaW.PrintWords Go.Proofs.YtbggjmdelnmilaaW.PrintLast Go.Proofs.YtbggjmdelnmilaaW.PrintMore
set_option linter.unusedVariables false
set_option linter.unusedSimpArgs false
set_option maxRecDepth 100000 in
theorem awake_f : Ev (fun k=>gangsawlaw31_awake.f k) true:=Ev.of (fun k=>gangsawlaw31_awake.mono k) (k:=60) (by kernel_rfl)
end Go.Proofs.Ytbggjmdelnmilaa.Pure
