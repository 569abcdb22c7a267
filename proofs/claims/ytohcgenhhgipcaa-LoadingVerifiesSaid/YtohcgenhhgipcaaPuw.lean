import Derived.Test.YtohcgenhhgipcaaPAx9
namespace Go.Proofs.Ytohcgenhhgipcaa.Pure
open Go.RowKit Go.Proofs.Ytohcgenhhgipcaa Go.Proofs.Ytohcgenhhgipcaa.PA Go.Proofs.YtohcgenhhgipcaaW.PrintWords Go.Proofs.YtohcgenhhgipcaaW.PrintLast Go.Proofs.YtohcgenhhgipcaaW.PrintMore
set_option linter.unusedVariables false
set_option linter.unusedSimpArgs false

theorem awake_f : Ev (fun k=>gangsawlaw54_awake.f k) true:=Ev.of (fun k=>gangsawlaw54_awake.mono k) (k:=300) (by kernel_rfl)
end Go.Proofs.Ytohcgenhhgipcaa.Pure
