import Derived.Test.YtbggjmdelnmilaaPAx0
namespace Go.Proofs.Ytbggjmdelnmilaa.PA
open Go.RowKit Go.Proofs.YtbggjmdelnmilaaW.PrintWords Go.Proofs.YtbggjmdelnmilaaW.PrintLast Go.Proofs.YtbggjmdelnmilaaW.PrintMore
attribute [local go_sem] max2_int min2_int max_two min_two max_three min_three max_four min_four
set_option linter.unusedVariables false
set_option linter.unusedSimpArgs false
theorem eqA24 (d : Nat) (w : World) (x0 y0 : Int) (x1 y1 : Int) (x2 y2 : Int) :
  (Op.equalIn (d + 2) 24 (.agg #[.int .i64 x0,.int .i64 x1,.int .i64 x2]) (.agg #[.int .i64 y0,.int .i64 y1,.int .i64 y2])).run Try.prog w = .ok (x0 == y0 && (x1 == y1 && (x2 == y2))) w:=by
 refine eqA_of Try.underlying24 (by kernel_rfl) ?_
 refine eqf_cons (by rfl) (by go_simp;rfl) (by go_simp;rfl) (by go_simp) ?_
 refine eqf_cons (by rfl) (by go_simp;rfl) (by go_simp;rfl) (by go_simp) ?_
 exact eqf_last (by rfl) (by go_simp;rfl) (by go_simp;rfl) (by go_simp)
theorem eqA39 (d : Nat) (w : World) (x0 y0 : ByteArray) (x1 y1 : Int) (x2 y2 : Int) (x3 y3 : Int) (x4 y4 : Int) (x5 y5 : ByteArray) (x6 y6 : ByteArray) :
  (Op.equalIn (d + 3) 39 (.agg #[.string x0,.int .i64 x1,.int .i64 x2,.int .i64 x3,.int .i64 x4,.string x5,.string x6]) (.agg #[.string y0,.int .i64 y1,.int .i64 y2,.int .i64 y3,.int .i64 y4,.string y5,.string y6])).run Try.prog w = .ok (x0.toList == y0.toList && ((x1 == y1 && (x2 == y2 && (x3 == y3))) && (x4 == y4 && (x5.toList == y5.toList && (x6.toList == y6.toList))))) w:=by
 refine eqA_of Try.underlying39 (by kernel_rfl) ?_
 refine eqf_cons (by rfl) (by go_simp;rfl) (by go_simp;rfl) (by go_simp) ?_
 refine eqf_cons (by rfl) (by go_simp) (by go_simp) (eqA24 (d + 0) w _ _ _ _ _ _) ?_
 refine eqf_cons (by rfl) (by go_simp;rfl) (by go_simp;rfl) (by go_simp) ?_
 refine eqf_cons (by rfl) (by go_simp;rfl) (by go_simp;rfl) (by go_simp) ?_
 exact eqf_last (by rfl) (by go_simp;rfl) (by go_simp;rfl) (by go_simp)
end Go.Proofs.Ytbggjmdelnmilaa.PA
