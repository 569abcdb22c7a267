/-
  No cell of these rows narrows 'for every input' (looked for: loops, veiled, ifaces, maps, wideKeys, modest, calm, conditions, laid).
  DERIVED. THE GIVEN ROWS OF THIS SEAT. 8 by the template 'for every input the law returns true; each argument reads behind the call as it read before'; 0 by the template 'total and deterministic' (their statements: YtbggjmdelnmilaaTotals.lean).
  GIVEN WITH THE SEED: the statements are not yours to turn. If you find one false, say at which input.
  Laid BY PROGRAM, IN A SANDBOX (cutbox-rows.mjs): the forced cells as the released guide's own fill.sh prints them over the translation cb75c7fa4c96b62d… (all of the seat's roots in one cut). By AI agents, Wed Nov 11 2026. No macro, syntax, notation, axiom, sorry.
-/
import Derived.Test.YtbggjmdelnmilaaChecked
import GoSem.Claim
import GoSem.ClaimJoined
import GoSem.ClaimMapViews
import Derived.JoinedTies
import Derived.KernelRfl
namespace Go.Proofs.Ytbggjmdelnmilaa
/- THE CELL 'sum', in the pinned program and in every row, IS THE sha256 OF THE DUMP (.gsa) THAT YtbggjmdelnmilaaProg.lean LOADS. Nothing in Lean hashes anything: it is a label: what it is worth is what the hold of that sum in a sandbox is worth. -/
noncomputable def Try.pinned : Pinned := { name := "ytbggjmdelnmilaa", sum := "cb75c7fa4c96b62d974aa5fa698bc096c76459b8c8eb30599b2e205ac5714b92", checked := Try.checked }
namespace Rows
def none {H : Type} : Left H := { results := [], args := [] }

/-- 'gangsawlaw31.OffcutLess': WHATEVER THE INPUT: true; the input reads as it did. -/
def offcutLessSpec : ChangeSpec := { name := "offcutLess", fn := fun _ => fun
  | [d1, d2, d3, d4] => { results := [.lit (.bool true)], args := [d1, d2, d3, d4] }
  | _ => none }
def offcutLessRow : OpenClaim := { program := "ytbggjmdelnmilaa", sum := "cb75c7fa4c96b62d974aa5fa698bc096c76459b8c8eb30599b2e205ac5714b92", func := "gangsaw/gangsawlaw31.OffcutLess", spec := "offcutLess", inPlace := ["slices.overlaps[gangsaw/api.Remnant]"], unfollowed := true, recurses := true, apart := false }
def OffcutLessSaid : Prop := offcutLessRow.holds Try.pinned (OpenSpec.ofChange offcutLessSpec)

/-- ITS FALSE NEIGHBOUR: 'it returns false'. Refute it at one input. -/
def offcutLessWrong : ChangeSpec := { name := "offcutLess", fn := fun _ => fun
  | [d1, d2, d3, d4] => { results := [.lit (.bool false)], args := [d1, d2, d3, d4] }
  | _ => none }
def OffcutLessWrongFalsely : Prop := offcutLessRow.holds Try.pinned (OpenSpec.ofChange offcutLessWrong)

/-- 'gangsawlaw31.OffcutFirst': WHATEVER THE INPUT: true; the input reads as it did. -/
def offcutFirstSpec : ChangeSpec := { name := "offcutFirst", fn := fun _ => fun
  | [d1, d2, d3, d4] => { results := [.lit (.bool true)], args := [d1, d2, d3, d4] }
  | _ => none }
def offcutFirstRow : OpenClaim := { program := "ytbggjmdelnmilaa", sum := "cb75c7fa4c96b62d974aa5fa698bc096c76459b8c8eb30599b2e205ac5714b92", func := "gangsaw/gangsawlaw31.OffcutFirst", spec := "offcutFirst", inPlace := ["slices.overlaps[gangsaw/api.Remnant]"], unfollowed := true, recurses := true, apart := false }
def OffcutFirstSaid : Prop := offcutFirstRow.holds Try.pinned (OpenSpec.ofChange offcutFirstSpec)

/-- ITS FALSE NEIGHBOUR: 'it returns false'. Refute it at one input. -/
def offcutFirstWrong : ChangeSpec := { name := "offcutFirst", fn := fun _ => fun
  | [d1, d2, d3, d4] => { results := [.lit (.bool false)], args := [d1, d2, d3, d4] }
  | _ => none }
def OffcutFirstWrongFalsely : Prop := offcutFirstRow.holds Try.pinned (OpenSpec.ofChange offcutFirstWrong)

/-- 'gangsawlaw31.OffcutStocks': WHATEVER THE INPUT: true; the input reads as it did. -/
def offcutStocksSpec : ChangeSpec := { name := "offcutStocks", fn := fun _ => fun
  | [d] => { results := [.lit (.bool true)], args := [d] }
  | _ => none }
def offcutStocksRow : OpenClaim := { program := "ytbggjmdelnmilaa", sum := "cb75c7fa4c96b62d974aa5fa698bc096c76459b8c8eb30599b2e205ac5714b92", func := "gangsaw/gangsawlaw31.OffcutStocks", spec := "offcutStocks", inPlace := ["slices.overlaps[gangsaw/api.Remnant]"], unfollowed := true, recurses := true, apart := false }
def OffcutStocksSaid : Prop := offcutStocksRow.holds Try.pinned (OpenSpec.ofChange offcutStocksSpec)

/-- ITS FALSE NEIGHBOUR: 'it returns false'. Refute it at one input. -/
def offcutStocksWrong : ChangeSpec := { name := "offcutStocks", fn := fun _ => fun
  | [d] => { results := [.lit (.bool false)], args := [d] }
  | _ => none }
def OffcutStocksWrongFalsely : Prop := offcutStocksRow.holds Try.pinned (OpenSpec.ofChange offcutStocksWrong)

/-- 'gangsawlaw31.OffcutFits': WHATEVER THE INPUT: true; the input reads as it did. -/
def offcutFitsSpec : ChangeSpec := { name := "offcutFits", fn := fun _ => fun
  | [d1, d2, d3] => { results := [.lit (.bool true)], args := [d1, d2, d3] }
  | _ => none }
def offcutFitsRow : OpenClaim := { program := "ytbggjmdelnmilaa", sum := "cb75c7fa4c96b62d974aa5fa698bc096c76459b8c8eb30599b2e205ac5714b92", func := "gangsaw/gangsawlaw31.OffcutFits", spec := "offcutFits", inPlace := ["slices.overlaps[gangsaw/api.Remnant]"], unfollowed := true, recurses := true, apart := false }
def OffcutFitsSaid : Prop := offcutFitsRow.holds Try.pinned (OpenSpec.ofChange offcutFitsSpec)

/-- ITS FALSE NEIGHBOUR: 'it returns false'. Refute it at one input. -/
def offcutFitsWrong : ChangeSpec := { name := "offcutFits", fn := fun _ => fun
  | [d1, d2, d3] => { results := [.lit (.bool false)], args := [d1, d2, d3] }
  | _ => none }
def OffcutFitsWrongFalsely : Prop := offcutFitsRow.holds Try.pinned (OpenSpec.ofChange offcutFitsWrong)

/-- 'gangsawlaw31.OffcutChoices': WHATEVER THE INPUT: true; the input reads as it did. -/
def offcutChoicesSpec : ChangeSpec := { name := "offcutChoices", fn := fun _ => fun
  | [d1, d2, d3] => { results := [.lit (.bool true)], args := [d1, d2, d3] }
  | _ => none }
def offcutChoicesRow : OpenClaim := { program := "ytbggjmdelnmilaa", sum := "cb75c7fa4c96b62d974aa5fa698bc096c76459b8c8eb30599b2e205ac5714b92", func := "gangsaw/gangsawlaw31.OffcutChoices", spec := "offcutChoices", inPlace := ["slices.overlaps[gangsaw/api.Remnant]"], unfollowed := true, recurses := true, apart := false }
def OffcutChoicesSaid : Prop := offcutChoicesRow.holds Try.pinned (OpenSpec.ofChange offcutChoicesSpec)

/-- ITS FALSE NEIGHBOUR: 'it returns false'. Refute it at one input. -/
def offcutChoicesWrong : ChangeSpec := { name := "offcutChoices", fn := fun _ => fun
  | [d1, d2, d3] => { results := [.lit (.bool false)], args := [d1, d2, d3] }
  | _ => none }
def OffcutChoicesWrongFalsely : Prop := offcutChoicesRow.holds Try.pinned (OpenSpec.ofChange offcutChoicesWrong)

/-- 'gangsawlaw31.OffcutTakes': WHATEVER THE INPUT: true; the input reads as it did. -/
def offcutTakesSpec : ChangeSpec := { name := "offcutTakes", fn := fun _ => fun
  | [d1, d2, d3, d4] => { results := [.lit (.bool true)], args := [d1, d2, d3, d4] }
  | _ => none }
def offcutTakesRow : OpenClaim := { program := "ytbggjmdelnmilaa", sum := "cb75c7fa4c96b62d974aa5fa698bc096c76459b8c8eb30599b2e205ac5714b92", func := "gangsaw/gangsawlaw31.OffcutTakes", spec := "offcutTakes", inPlace := ["slices.overlaps[gangsaw/api.Remnant]"], unfollowed := true, recurses := true, apart := false }
def OffcutTakesSaid : Prop := offcutTakesRow.holds Try.pinned (OpenSpec.ofChange offcutTakesSpec)

/-- ITS FALSE NEIGHBOUR: 'it returns false'. Refute it at one input. -/
def offcutTakesWrong : ChangeSpec := { name := "offcutTakes", fn := fun _ => fun
  | [d1, d2, d3, d4] => { results := [.lit (.bool false)], args := [d1, d2, d3, d4] }
  | _ => none }
def OffcutTakesWrongFalsely : Prop := offcutTakesRow.holds Try.pinned (OpenSpec.ofChange offcutTakesWrong)

/-- 'gangsawlaw31.OffcutServes': WHATEVER THE INPUT: true; the input reads as it did. -/
def offcutServesSpec : ChangeSpec := { name := "offcutServes", fn := fun _ => fun
  | [d1, d2, d3, d4] => { results := [.lit (.bool true)], args := [d1, d2, d3, d4] }
  | _ => none }
def offcutServesRow : OpenClaim := { program := "ytbggjmdelnmilaa", sum := "cb75c7fa4c96b62d974aa5fa698bc096c76459b8c8eb30599b2e205ac5714b92", func := "gangsaw/gangsawlaw31.OffcutServes", spec := "offcutServes", inPlace := ["slices.overlaps[gangsaw/api.Remnant]"], unfollowed := true, recurses := true, apart := false }
def OffcutServesSaid : Prop := offcutServesRow.holds Try.pinned (OpenSpec.ofChange offcutServesSpec)

/-- ITS FALSE NEIGHBOUR: 'it returns false'. Refute it at one input. -/
def offcutServesWrong : ChangeSpec := { name := "offcutServes", fn := fun _ => fun
  | [d1, d2, d3, d4] => { results := [.lit (.bool false)], args := [d1, d2, d3, d4] }
  | _ => none }
def OffcutServesWrongFalsely : Prop := offcutServesRow.holds Try.pinned (OpenSpec.ofChange offcutServesWrong)

/-- 'gangsawlaw31.OffcutRests': WHATEVER THE INPUT: true; the input reads as it did. -/
def offcutRestsSpec : ChangeSpec := { name := "offcutRests", fn := fun _ => fun
  | [d1, d2, d3] => { results := [.lit (.bool true)], args := [d1, d2, d3] }
  | _ => none }
def offcutRestsRow : OpenClaim := { program := "ytbggjmdelnmilaa", sum := "cb75c7fa4c96b62d974aa5fa698bc096c76459b8c8eb30599b2e205ac5714b92", func := "gangsaw/gangsawlaw31.OffcutRests", spec := "offcutRests", inPlace := ["slices.overlaps[gangsaw/api.Remnant]"], unfollowed := true, recurses := true, apart := false }
def OffcutRestsSaid : Prop := offcutRestsRow.holds Try.pinned (OpenSpec.ofChange offcutRestsSpec)

/-- ITS FALSE NEIGHBOUR: 'it returns false'. Refute it at one input. -/
def offcutRestsWrong : ChangeSpec := { name := "offcutRests", fn := fun _ => fun
  | [d1, d2, d3] => { results := [.lit (.bool false)], args := [d1, d2, d3] }
  | _ => none }
def OffcutRestsWrongFalsely : Prop := offcutRestsRow.holds Try.pinned (OpenSpec.ofChange offcutRestsWrong)

/- THE SECOND FORM. 'bulk': how many values and letters a reading holds, each counted each time it is reached (what is shared counts as often as it is met; a slice's spare places count too). A statement '..UptoSaid' is the law's where the arguments, and the package variables that the reading takes, are together of bulk at most 1048576: NARROWER than '..Said'. Prove '..Said' where nothing that the law and all that it calls make is longer than what came in: it says more and counts as full. Else prove '..UptoSaid'. A law counts once. -/
mutual
def uptoBulk {H : Type} : DataW H → Nat
  | .lit (.string bytes) => bytes.length + 1
  | .lit _ => 1
  | .nil => 1
  | .ptr d => uptoBulk d + 1
  | .slice elems spare => uptoBulkAll elems + uptoBulkAll spare + 1
  | .agg parts => uptoBulkAll parts + 1
  | .iface _ d => uptoBulk d + 1
  | .map entries => uptoBulkEntries entries + 1
  | .held _ => 1
def uptoBulkAll {H : Type} : List (DataW H) → Nat
  | [] => 0
  | d :: r => uptoBulk d + uptoBulkAll r
def uptoBulkEntries {H : Type} : List (Lit × DataW H) → Nat
  | [] => 0
  | x :: r => uptoBulkEntry x + uptoBulkEntries r
def uptoBulkEntry {H : Type} : Lit × DataW H → Nat
  | (.string bytes, d) => bytes.length + uptoBulk d + 1
  | (_, d) => uptoBulk d + 1
 end
def uptoSmall : (H : Type) → List (DataW H) → Bool := fun _ ds => decide (uptoBulkAll ds ≤ 1048576)
def OpenSpec.upto (s : _root_.Go.ChangeSpec) : _root_.Go.OpenSpec := { _root_.Go.OpenSpec.ofChange s with cond := some uptoSmall }

/-- 'gangsawlaw31.OffcutLess', WHERE WHAT IT READS IS OF BULK AT MOST 1048576: true; the input reads as it did. -/
def offcutLessUptoRow : OpenClaim := { program := "ytbggjmdelnmilaa", sum := "cb75c7fa4c96b62d974aa5fa698bc096c76459b8c8eb30599b2e205ac5714b92", func := "gangsaw/gangsawlaw31.OffcutLess", spec := "offcutLess", inPlace := ["slices.overlaps[gangsaw/api.Remnant]"], unfollowed := true, recurses := true, apart := false, narrowed := true }
def OffcutLessUptoSaid : Prop := offcutLessUptoRow.holds Try.pinned (OpenSpec.upto offcutLessSpec)

/-- 'gangsawlaw31.OffcutFirst', WHERE WHAT IT READS IS OF BULK AT MOST 1048576: true; the input reads as it did. -/
def offcutFirstUptoRow : OpenClaim := { program := "ytbggjmdelnmilaa", sum := "cb75c7fa4c96b62d974aa5fa698bc096c76459b8c8eb30599b2e205ac5714b92", func := "gangsaw/gangsawlaw31.OffcutFirst", spec := "offcutFirst", inPlace := ["slices.overlaps[gangsaw/api.Remnant]"], unfollowed := true, recurses := true, apart := false, narrowed := true }
def OffcutFirstUptoSaid : Prop := offcutFirstUptoRow.holds Try.pinned (OpenSpec.upto offcutFirstSpec)

/-- 'gangsawlaw31.OffcutStocks', WHERE WHAT IT READS IS OF BULK AT MOST 1048576: true; the input reads as it did. -/
def offcutStocksUptoRow : OpenClaim := { program := "ytbggjmdelnmilaa", sum := "cb75c7fa4c96b62d974aa5fa698bc096c76459b8c8eb30599b2e205ac5714b92", func := "gangsaw/gangsawlaw31.OffcutStocks", spec := "offcutStocks", inPlace := ["slices.overlaps[gangsaw/api.Remnant]"], unfollowed := true, recurses := true, apart := false, narrowed := true }
def OffcutStocksUptoSaid : Prop := offcutStocksUptoRow.holds Try.pinned (OpenSpec.upto offcutStocksSpec)

/-- 'gangsawlaw31.OffcutFits', WHERE WHAT IT READS IS OF BULK AT MOST 1048576: true; the input reads as it did. -/
def offcutFitsUptoRow : OpenClaim := { program := "ytbggjmdelnmilaa", sum := "cb75c7fa4c96b62d974aa5fa698bc096c76459b8c8eb30599b2e205ac5714b92", func := "gangsaw/gangsawlaw31.OffcutFits", spec := "offcutFits", inPlace := ["slices.overlaps[gangsaw/api.Remnant]"], unfollowed := true, recurses := true, apart := false, narrowed := true }
def OffcutFitsUptoSaid : Prop := offcutFitsUptoRow.holds Try.pinned (OpenSpec.upto offcutFitsSpec)

/-- 'gangsawlaw31.OffcutChoices', WHERE WHAT IT READS IS OF BULK AT MOST 1048576: true; the input reads as it did. -/
def offcutChoicesUptoRow : OpenClaim := { program := "ytbggjmdelnmilaa", sum := "cb75c7fa4c96b62d974aa5fa698bc096c76459b8c8eb30599b2e205ac5714b92", func := "gangsaw/gangsawlaw31.OffcutChoices", spec := "offcutChoices", inPlace := ["slices.overlaps[gangsaw/api.Remnant]"], unfollowed := true, recurses := true, apart := false, narrowed := true }
def OffcutChoicesUptoSaid : Prop := offcutChoicesUptoRow.holds Try.pinned (OpenSpec.upto offcutChoicesSpec)

/-- 'gangsawlaw31.OffcutTakes', WHERE WHAT IT READS IS OF BULK AT MOST 1048576: true; the input reads as it did. -/
def offcutTakesUptoRow : OpenClaim := { program := "ytbggjmdelnmilaa", sum := "cb75c7fa4c96b62d974aa5fa698bc096c76459b8c8eb30599b2e205ac5714b92", func := "gangsaw/gangsawlaw31.OffcutTakes", spec := "offcutTakes", inPlace := ["slices.overlaps[gangsaw/api.Remnant]"], unfollowed := true, recurses := true, apart := false, narrowed := true }
def OffcutTakesUptoSaid : Prop := offcutTakesUptoRow.holds Try.pinned (OpenSpec.upto offcutTakesSpec)

/-- 'gangsawlaw31.OffcutServes', WHERE WHAT IT READS IS OF BULK AT MOST 1048576: true; the input reads as it did. -/
def offcutServesUptoRow : OpenClaim := { program := "ytbggjmdelnmilaa", sum := "cb75c7fa4c96b62d974aa5fa698bc096c76459b8c8eb30599b2e205ac5714b92", func := "gangsaw/gangsawlaw31.OffcutServes", spec := "offcutServes", inPlace := ["slices.overlaps[gangsaw/api.Remnant]"], unfollowed := true, recurses := true, apart := false, narrowed := true }
def OffcutServesUptoSaid : Prop := offcutServesUptoRow.holds Try.pinned (OpenSpec.upto offcutServesSpec)

/-- 'gangsawlaw31.OffcutRests', WHERE WHAT IT READS IS OF BULK AT MOST 1048576: true; the input reads as it did. -/
def offcutRestsUptoRow : OpenClaim := { program := "ytbggjmdelnmilaa", sum := "cb75c7fa4c96b62d974aa5fa698bc096c76459b8c8eb30599b2e205ac5714b92", func := "gangsaw/gangsawlaw31.OffcutRests", spec := "offcutRests", inPlace := ["slices.overlaps[gangsaw/api.Remnant]"], unfollowed := true, recurses := true, apart := false, narrowed := true }
def OffcutRestsUptoSaid : Prop := offcutRestsUptoRow.holds Try.pinned (OpenSpec.upto offcutRestsSpec)

end Rows
end Go.Proofs.Ytbggjmdelnmilaa
