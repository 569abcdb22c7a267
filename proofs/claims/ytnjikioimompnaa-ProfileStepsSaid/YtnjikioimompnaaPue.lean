import Derived.Test.YtnjikioimompnaaPud
namespace Go.Proofs.Ytnjikioimompnaa.Pure
open Go.RowKit Go.Proofs.Ytnjikioimompnaa Go.Proofs.Ytnjikioimompnaa.PA Go.Proofs.YtnjikioimompnaaW.PrintWords Go.Proofs.YtnjikioimompnaaW.PrintLast Go.Proofs.YtnjikioimompnaaW.PrintMore
set_option linter.unusedVariables false
set_option linter.unusedSimpArgs false

/-! The stair is valid;its area,rectangle and directions -/
section
variable {n : Nat} (hn : 1 ≤ n) {g r : Int} (hg : 1 ≤ g) (hr : 1 ≤ r)
include hn hg hr
end
end Go.Proofs.Ytnjikioimompnaa.Pure
