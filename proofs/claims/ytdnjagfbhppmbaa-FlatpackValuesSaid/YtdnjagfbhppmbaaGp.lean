import Derived.Test.YtdnjagfbhppmbaaPAx0
import Derived.BigRegion
import Derived.Laws.EntriesVeiled
import Derived.Shelf.Abstract
import Derived.StillTailTactics
import Derived.WalkLawsBesides
import Derived.WalkSpells
namespace Go.Proofs.Ytdnjagfbhppmbaa.PA
open Go.RowKit Go.Shelf Go.Proofs.YtdnjagfbhppmbaaW.PrintWords Go.Proofs.YtdnjagfbhppmbaaW.PrintLast Go.Proofs.YtdnjagfbhppmbaaW.PrintMore
set_option linter.unusedVariables false
set_option linter.unusedSimpArgs false
def PredI (l : List Int) (g : Nat) (lb : Array Value) (p : Int → Bool) (w : World) : Prop :=
 ∀ (W : World) (x : Int),x ∈ l → Below w.heap.size w W → Calls Try.prog g (#[.int .i64 x] ++ lb) W fun e w'=>e = .returned (.bool (p x)) ∧ Below W.heap.size W w'
def G (t : List (List Int)) (a b : Nat) : Int:=rd (rd_L5 t (a : Int)) (b : Int)
end Go.Proofs.Ytdnjagfbhppmbaa.PA
