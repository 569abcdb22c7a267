import Derived.Test.YtohcgenhhgipcaaProg
import Derived.Test.YtohcgenhhgipcaaWWords
namespace Go.Proofs.Ytohcgenhhgipcaa.PA
open Go.RowKit Go.Proofs.YtohcgenhhgipcaaW.PrintWords Go.Proofs.YtohcgenhhgipcaaW.PrintLast Go.Proofs.YtohcgenhhgipcaaW.PrintMore
attribute [local go_sem] max2_int min2_int max_two min_two max_three min_three max_four min_four   -- for this text's walks alone
set_option linter.unusedVariables false
set_option linter.unusedSimpArgs false

theorem eqA64 (d : Nat) (w : World) (x0 y0 : ByteArray) (x1 y1 : Int) (x2 y2 : Int) :
  (Op.equalIn (d + 2) 64 (.agg #[.string x0,.int .i64 x1,.int .i64 x2]) (.agg #[.string y0,.int .i64 y1,.int .i64 y2])).run Try.prog w = .ok (x0.toList == y0.toList && (x1 == y1 && (x2 == y2))) w:=by
 refine eqA_of Try.underlying64 (by kernel_rfl) ?_
 refine eqf_cons (by rfl) (by go_simp;rfl) (by go_simp;rfl) (by go_simp) ?_
 refine eqf_cons (by rfl) (by go_simp;rfl) (by go_simp;rfl) (by go_simp) ?_
 exact eqf_last (by rfl) (by go_simp;rfl) (by go_simp;rfl) (by go_simp)
end Go.Proofs.Ytohcgenhhgipcaa.PA
