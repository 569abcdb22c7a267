import Derived.Test.YtdnjagfbhppmbaaGv
import Derived.Laws.Pointers
import Derived.Maps.OwnOps
import Derived.Maps.OwnSet
import Derived.StillTactics
namespace Go.Proofs.Ytdnjagfbhppmbaa.Pure
open Go.RowKit Go.Proofs.Ytdnjagfbhppmbaa Go.Proofs.Ytdnjagfbhppmbaa.PA Go.Proofs.YtdnjagfbhppmbaaW.PrintWords Go.Proofs.YtdnjagfbhppmbaaW.PrintLast Go.Proofs.YtdnjagfbhppmbaaW.PrintMore
set_option linter.unusedVariables false
set_option linter.unusedSimpArgs false
theorem parL_len (ns : List S59) : (parL ns).length = ns.length := by simp [parL]
end Go.Proofs.Ytdnjagfbhppmbaa.Pure
