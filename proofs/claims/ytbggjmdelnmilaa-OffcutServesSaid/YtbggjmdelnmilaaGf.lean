import Derived.Test.YtbggjmdelnmilaaGe
namespace Go.Proofs.Ytbggjmdelnmilaa.PA
open Go.RowKit Go.Proofs.YtbggjmdelnmilaaW.PrintWords Go.Proofs.YtbggjmdelnmilaaW.PrintLast Go.Proofs.YtbggjmdelnmilaaW.PrintMore
theorem rest_any (x : S39) (y : S36) (k : Int) (w : World) (hx : x.f0.size + 1 ≤ 9223372036854775807) : Calls Try.prog 54 #[.agg #[.string x.f0,.int .i64 x.f1.f0,.int .i64 x.f1.f1,.int .i64 x.f1.f2,.int .i64 x.f2,.string x.f3,.string x.f4],.agg #[.string y.f0,.int .i64 y.f1.f0,.int .i64 y.f1.f1,.int .i64 y.f1.f2,.int .i64 y.f2,.string y.f3,.bool y.f4],.int .i64 k] w fun e w'=>∃ v : Value,e = .returned v ∧ Kd.R k39 39 w' w.heap.size (fun k=>w.heap.size ≤ k) v (restR x y k) ∧ Below w.heap.size w w' :=
 rest_walk x.f0 x.f1.f0 x.f1.f1 x.f1.f2 x.f2 x.f3 x.f4 y.f0 y.f1.f0 y.f1.f1 y.f1.f2 y.f2 y.f3 y.f4 k w (fitsB x y) (stoneV x y).f0 (stoneV x y).f1 (stoneV x y).f2 (restR x y k) (fun W=>fits_any x y W) (by unfold stoneV;split <;> rfl) hx rfl
end Go.Proofs.Ytbggjmdelnmilaa.PA
