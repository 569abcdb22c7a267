import Derived.Test.YtnjikioimompnaaGf
import Derived.Test.YtnjikioimompnaaPAx91
namespace Go.Proofs.Ytnjikioimompnaa.PA
open Go.RowKit Go.Shelf Go.Proofs.YtnjikioimompnaaW.PrintWords Go.Proofs.YtnjikioimompnaaW.PrintLast Go.Proofs.YtnjikioimompnaaW.PrintMore
set_option linter.unusedVariables false
set_option linter.unusedSimpArgs false
attribute [local go_sem] max2_int min2_int max_two min_two max_three min_three max_four min_four

abbrev B4:=Int × Int × Int × Int
/-- the world of Bounds: the results' cells in b2,b3,the boxes in b4,b5 -/
structure BW (w W : World) (b2 b3 b4 b5 : Nat) (s : B4) : Prop where
  below : Below w.heap.size w W
  r2 : W.heap[b2]? = some (.cells #[.int .i64 0,.int .i64 0] 31)
  r3 : W.heap[b3]? = some (.cells #[.int .i64 0,.int .i64 0] 31)
  lo : W.heap[b4]? = some (.cells #[.int .i64 s.1,.int .i64 s.2.1] 31)
  hi : W.heap[b5]? = some (.cells #[.int .i64 s.2.2.1,.int .i64 s.2.2.2] 31)
  ne : b4 ≠ b5 ∧ b2 ≠ b3 ∧ b2 ≠ b4 ∧ b2 ≠ b5 ∧ b3 ≠ b4 ∧ b3 ≠ b5
  ge : w.heap.size ≤ b2 ∧ w.heap.size ≤ b3 ∧ w.heap.size ≤ b4 ∧ w.heap.size ≤ b5
end Go.Proofs.Ytnjikioimompnaa.PA
