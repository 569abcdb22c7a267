import Derived.Test.YtdnjagfbhppmbaaPAx0
import Derived.BigRegion
import Derived.Shelf.Abstract
import Derived.StillTailTactics
import Derived.WalkLawsBesides
import Derived.WalkSpells
namespace Go.Proofs.Ytdnjagfbhppmbaa.Pure
open Go.RowKit Go.Proofs.Ytdnjagfbhppmbaa Go.Proofs.Ytdnjagfbhppmbaa.PA Go.Proofs.YtdnjagfbhppmbaaW.PrintWords Go.Proofs.YtdnjagfbhppmbaaW.PrintLast Go.Proofs.YtdnjagfbhppmbaaW.PrintMore
set_option linter.unusedVariables false
set_option linter.unusedSimpArgs false
def rowsL (F : Nat → Nat → Int) (wid n : Nat) : List (List Int) := (List.range n).map fun a => (List.range (wid + 1)).map fun b => F a b
section
variable {F : Nat → Nat → Int} {wid n m : Nat}
theorem row_len {a : Nat} : ((List.range (wid + 1)).map fun b => F a b).length = wid + 1 := by simp
theorem rd_row {a b : Nat} (h : b ≤ wid) : rd ((List.range (wid + 1)).map fun b => F a b) (b : Int) = F a b := by
 unfold rd
 rw [Int.toNat_natCast, List.getD_eq_getElem?_getD]
 simp [show b < wid + 1 by omega]
end
section
variable (len wid kf : Nat) (l : List S36) (hlen : len ≤ 1000) (hwid : wid ≤ 1000) (hkf : kf ≤ 1000) (hl : l.length ≤ 1000)
include hlen hwid hkf hl
end
end Go.Proofs.Ytdnjagfbhppmbaa.Pure
