/-
  No cell of these rows narrows 'for every input' (looked for: loops, veiled, ifaces, maps, wideKeys, modest, calm, conditions, laid).
  DERIVED. THE GIVEN ROWS OF THIS SEAT. 7 by the template 'for every input the law returns true; each argument reads behind the call as it read before'; 0 by the template 'total and deterministic' (their statements: YtohcgenhhgipcaaTotals.lean).
  GIVEN WITH THE SEED: the statements are not yours to turn. If you find one false, say at which input.
  Laid BY PROGRAM, IN A SANDBOX (cutbox-rows.mjs): the forced cells as the released guide's own fill.sh prints them over the translation 370993aa17cb1608… (all of the seat's roots in one cut). By AI agents, Wed Nov 11 2026. No macro, syntax, notation, axiom, sorry.
-/
import Derived.Test.YtohcgenhhgipcaaChecked
import GoSem.Claim
import GoSem.ClaimJoined
import GoSem.ClaimMapViews
import Derived.JoinedTies
import Derived.KernelRfl
namespace Go.Proofs.Ytohcgenhhgipcaa
/- THE CELL 'sum', in the pinned program and in every row, IS THE sha256 OF THE DUMP (.gsa) THAT YtohcgenhhgipcaaProg.lean LOADS. Nothing in Lean hashes anything: it is a label: what it is worth is what the hold of that sum in a sandbox is worth. -/
noncomputable def Try.pinned : Pinned := { name := "ytohcgenhhgipcaa", sum := "370993aa17cb1608b4340f48441b1d29bb64b44ed19f3bb9368ad23db7c03c3b", checked := Try.checked }
namespace Rows
def none {H : Type} : Left H := { results := [], args := [] }

/-- 'gangsawlaw54.LoadingChecks': WHATEVER THE INPUT: true; the input reads as it did. -/
def loadingChecksSpec : ChangeSpec := { name := "loadingChecks", fn := fun _ => fun
  | [d1, d2] => { results := [.lit (.bool true)], args := [d1, d2] }
  | _ => none }
def loadingChecksRow : OpenClaim := { program := "ytohcgenhhgipcaa", sum := "370993aa17cb1608b4340f48441b1d29bb64b44ed19f3bb9368ad23db7c03c3b", func := "gangsaw/gangsawlaw54.LoadingChecks", spec := "loadingChecks", unfollowed := true, recurses := true, apart := false }
def LoadingChecksSaid : Prop := loadingChecksRow.holds Try.pinned (OpenSpec.ofChange loadingChecksSpec)

/-- ITS FALSE NEIGHBOUR: 'it returns false'. Refute it at one input. -/
def loadingChecksWrong : ChangeSpec := { name := "loadingChecks", fn := fun _ => fun
  | [d1, d2] => { results := [.lit (.bool false)], args := [d1, d2] }
  | _ => none }
def LoadingChecksWrongFalsely : Prop := loadingChecksRow.holds Try.pinned (OpenSpec.ofChange loadingChecksWrong)

/-- 'gangsawlaw54.LoadingPlans': WHATEVER THE INPUT: true; the input reads as it did. -/
def loadingPlansSpec : ChangeSpec := { name := "loadingPlans", fn := fun _ => fun
  | [d1, d2] => { results := [.lit (.bool true)], args := [d1, d2] }
  | _ => none }
def loadingPlansRow : OpenClaim := { program := "ytohcgenhhgipcaa", sum := "370993aa17cb1608b4340f48441b1d29bb64b44ed19f3bb9368ad23db7c03c3b", func := "gangsaw/gangsawlaw54.LoadingPlans", spec := "loadingPlans", unfollowed := true, recurses := true, apart := false }
def LoadingPlansSaid : Prop := loadingPlansRow.holds Try.pinned (OpenSpec.ofChange loadingPlansSpec)

/-- ITS FALSE NEIGHBOUR: 'it returns false'. Refute it at one input. -/
def loadingPlansWrong : ChangeSpec := { name := "loadingPlans", fn := fun _ => fun
  | [d1, d2] => { results := [.lit (.bool false)], args := [d1, d2] }
  | _ => none }
def LoadingPlansWrongFalsely : Prop := loadingPlansRow.holds Try.pinned (OpenSpec.ofChange loadingPlansWrong)

/-- 'gangsawlaw54.LoadingVerifies': WHATEVER THE INPUT: true; the input reads as it did. -/
def loadingVerifiesSpec : ChangeSpec := { name := "loadingVerifies", fn := fun _ => fun
  | [d1, d2, d3] => { results := [.lit (.bool true)], args := [d1, d2, d3] }
  | _ => none }
def loadingVerifiesRow : OpenClaim := { program := "ytohcgenhhgipcaa", sum := "370993aa17cb1608b4340f48441b1d29bb64b44ed19f3bb9368ad23db7c03c3b", func := "gangsaw/gangsawlaw54.LoadingVerifies", spec := "loadingVerifies", unfollowed := true, recurses := true, apart := false }
def LoadingVerifiesSaid : Prop := loadingVerifiesRow.holds Try.pinned (OpenSpec.ofChange loadingVerifiesSpec)

/-- ITS FALSE NEIGHBOUR: 'it returns false'. Refute it at one input. -/
def loadingVerifiesWrong : ChangeSpec := { name := "loadingVerifies", fn := fun _ => fun
  | [d1, d2, d3] => { results := [.lit (.bool false)], args := [d1, d2, d3] }
  | _ => none }
def LoadingVerifiesWrongFalsely : Prop := loadingVerifiesRow.holds Try.pinned (OpenSpec.ofChange loadingVerifiesWrong)

/-- 'gangsawlaw54.LoadingMoments': WHATEVER THE INPUT: true; the input reads as it did. -/
def loadingMomentsSpec : ChangeSpec := { name := "loadingMoments", fn := fun _ => fun
  | [d1, d2, d3] => { results := [.lit (.bool true)], args := [d1, d2, d3] }
  | _ => none }
def loadingMomentsRow : OpenClaim := { program := "ytohcgenhhgipcaa", sum := "370993aa17cb1608b4340f48441b1d29bb64b44ed19f3bb9368ad23db7c03c3b", func := "gangsaw/gangsawlaw54.LoadingMoments", spec := "loadingMoments", unfollowed := true, recurses := true, apart := false }
def LoadingMomentsSaid : Prop := loadingMomentsRow.holds Try.pinned (OpenSpec.ofChange loadingMomentsSpec)

/-- ITS FALSE NEIGHBOUR: 'it returns false'. Refute it at one input. -/
def loadingMomentsWrong : ChangeSpec := { name := "loadingMoments", fn := fun _ => fun
  | [d1, d2, d3] => { results := [.lit (.bool false)], args := [d1, d2, d3] }
  | _ => none }
def LoadingMomentsWrongFalsely : Prop := loadingMomentsRow.holds Try.pinned (OpenSpec.ofChange loadingMomentsWrong)

/-- 'gangsawlaw54.LoadingBest': WHATEVER THE INPUT: true; the input reads as it did. -/
def loadingBestSpec : ChangeSpec := { name := "loadingBest", fn := fun _ => fun
  | [d1, d2] => { results := [.lit (.bool true)], args := [d1, d2] }
  | _ => none }
def loadingBestRow : OpenClaim := { program := "ytohcgenhhgipcaa", sum := "370993aa17cb1608b4340f48441b1d29bb64b44ed19f3bb9368ad23db7c03c3b", func := "gangsaw/gangsawlaw54.LoadingBest", spec := "loadingBest", unfollowed := true, recurses := true, apart := false }
def LoadingBestSaid : Prop := loadingBestRow.holds Try.pinned (OpenSpec.ofChange loadingBestSpec)

/-- ITS FALSE NEIGHBOUR: 'it returns false'. Refute it at one input. -/
def loadingBestWrong : ChangeSpec := { name := "loadingBest", fn := fun _ => fun
  | [d1, d2] => { results := [.lit (.bool false)], args := [d1, d2] }
  | _ => none }
def LoadingBestWrongFalsely : Prop := loadingBestRow.holds Try.pinned (OpenSpec.ofChange loadingBestWrong)

/-- 'gangsawlaw54.LoadingRight': WHATEVER THE INPUT: true; the input reads as it did. -/
def loadingRightSpec : ChangeSpec := { name := "loadingRight", fn := fun _ => fun
  | [d1, d2] => { results := [.lit (.bool true)], args := [d1, d2] }
  | _ => none }
def loadingRightRow : OpenClaim := { program := "ytohcgenhhgipcaa", sum := "370993aa17cb1608b4340f48441b1d29bb64b44ed19f3bb9368ad23db7c03c3b", func := "gangsaw/gangsawlaw54.LoadingRight", spec := "loadingRight", unfollowed := true, recurses := true, apart := false }
def LoadingRightSaid : Prop := loadingRightRow.holds Try.pinned (OpenSpec.ofChange loadingRightSpec)

/-- ITS FALSE NEIGHBOUR: 'it returns false'. Refute it at one input. -/
def loadingRightWrong : ChangeSpec := { name := "loadingRight", fn := fun _ => fun
  | [d1, d2] => { results := [.lit (.bool false)], args := [d1, d2] }
  | _ => none }
def LoadingRightWrongFalsely : Prop := loadingRightRow.holds Try.pinned (OpenSpec.ofChange loadingRightWrong)

/-- 'gangsawlaw54.LoadingBalance': WHATEVER THE INPUT: true; the input reads as it did. -/
def loadingBalanceSpec : ChangeSpec := { name := "loadingBalance", fn := fun _ => fun
  | [d1, d2] => { results := [.lit (.bool true)], args := [d1, d2] }
  | _ => none }
def loadingBalanceRow : OpenClaim := { program := "ytohcgenhhgipcaa", sum := "370993aa17cb1608b4340f48441b1d29bb64b44ed19f3bb9368ad23db7c03c3b", func := "gangsaw/gangsawlaw54.LoadingBalance", spec := "loadingBalance", unfollowed := true, recurses := true, apart := false }
def LoadingBalanceSaid : Prop := loadingBalanceRow.holds Try.pinned (OpenSpec.ofChange loadingBalanceSpec)

/-- ITS FALSE NEIGHBOUR: 'it returns false'. Refute it at one input. -/
def loadingBalanceWrong : ChangeSpec := { name := "loadingBalance", fn := fun _ => fun
  | [d1, d2] => { results := [.lit (.bool false)], args := [d1, d2] }
  | _ => none }
def LoadingBalanceWrongFalsely : Prop := loadingBalanceRow.holds Try.pinned (OpenSpec.ofChange loadingBalanceWrong)

/- THE SECOND FORM. 'bulk': how many values and letters a reading holds, each counted each time it is reached (what is shared counts as often as it is met; a slice's spare places count too). A statement '..UptoSaid' is the law's where the arguments, and the package variables that the reading takes, are together of bulk at most 1048576: NARROWER than '..Said'. Prove '..Said' where nothing that the law and all that it calls make is longer than what came in: it says more and counts as full. Else prove '..UptoSaid'. A law counts once. -/
mutual
def uptoBulk {H : Type} : DataW H → Nat
  | .lit (.string bytes) => bytes.length + 1
  | .lit _ => 1
  | .nil => 1
  | .ptr d => uptoBulk d + 1
  | .slice elems spare => uptoBulkAll elems + uptoBulkAll spare + 1
  | .agg parts => uptoBulkAll parts + 1
  | .iface _ d => uptoBulk d + 1
  | .map entries => uptoBulkEntries entries + 1
  | .held _ => 1
def uptoBulkAll {H : Type} : List (DataW H) → Nat
  | [] => 0
  | d :: r => uptoBulk d + uptoBulkAll r
def uptoBulkEntries {H : Type} : List (Lit × DataW H) → Nat
  | [] => 0
  | x :: r => uptoBulkEntry x + uptoBulkEntries r
def uptoBulkEntry {H : Type} : Lit × DataW H → Nat
  | (.string bytes, d) => bytes.length + uptoBulk d + 1
  | (_, d) => uptoBulk d + 1
 end
def uptoSmall : (H : Type) → List (DataW H) → Bool := fun _ ds => decide (uptoBulkAll ds ≤ 1048576)
def OpenSpec.upto (s : _root_.Go.ChangeSpec) : _root_.Go.OpenSpec := { _root_.Go.OpenSpec.ofChange s with cond := some uptoSmall }

/-- 'gangsawlaw54.LoadingChecks', WHERE WHAT IT READS IS OF BULK AT MOST 1048576: true; the input reads as it did. -/
def loadingChecksUptoRow : OpenClaim := { program := "ytohcgenhhgipcaa", sum := "370993aa17cb1608b4340f48441b1d29bb64b44ed19f3bb9368ad23db7c03c3b", func := "gangsaw/gangsawlaw54.LoadingChecks", spec := "loadingChecks", unfollowed := true, recurses := true, apart := false, narrowed := true }
def LoadingChecksUptoSaid : Prop := loadingChecksUptoRow.holds Try.pinned (OpenSpec.upto loadingChecksSpec)

/-- 'gangsawlaw54.LoadingPlans', WHERE WHAT IT READS IS OF BULK AT MOST 1048576: true; the input reads as it did. -/
def loadingPlansUptoRow : OpenClaim := { program := "ytohcgenhhgipcaa", sum := "370993aa17cb1608b4340f48441b1d29bb64b44ed19f3bb9368ad23db7c03c3b", func := "gangsaw/gangsawlaw54.LoadingPlans", spec := "loadingPlans", unfollowed := true, recurses := true, apart := false, narrowed := true }
def LoadingPlansUptoSaid : Prop := loadingPlansUptoRow.holds Try.pinned (OpenSpec.upto loadingPlansSpec)

/-- 'gangsawlaw54.LoadingVerifies', WHERE WHAT IT READS IS OF BULK AT MOST 1048576: true; the input reads as it did. -/
def loadingVerifiesUptoRow : OpenClaim := { program := "ytohcgenhhgipcaa", sum := "370993aa17cb1608b4340f48441b1d29bb64b44ed19f3bb9368ad23db7c03c3b", func := "gangsaw/gangsawlaw54.LoadingVerifies", spec := "loadingVerifies", unfollowed := true, recurses := true, apart := false, narrowed := true }
def LoadingVerifiesUptoSaid : Prop := loadingVerifiesUptoRow.holds Try.pinned (OpenSpec.upto loadingVerifiesSpec)

/-- 'gangsawlaw54.LoadingMoments', WHERE WHAT IT READS IS OF BULK AT MOST 1048576: true; the input reads as it did. -/
def loadingMomentsUptoRow : OpenClaim := { program := "ytohcgenhhgipcaa", sum := "370993aa17cb1608b4340f48441b1d29bb64b44ed19f3bb9368ad23db7c03c3b", func := "gangsaw/gangsawlaw54.LoadingMoments", spec := "loadingMoments", unfollowed := true, recurses := true, apart := false, narrowed := true }
def LoadingMomentsUptoSaid : Prop := loadingMomentsUptoRow.holds Try.pinned (OpenSpec.upto loadingMomentsSpec)

/-- 'gangsawlaw54.LoadingBest', WHERE WHAT IT READS IS OF BULK AT MOST 1048576: true; the input reads as it did. -/
def loadingBestUptoRow : OpenClaim := { program := "ytohcgenhhgipcaa", sum := "370993aa17cb1608b4340f48441b1d29bb64b44ed19f3bb9368ad23db7c03c3b", func := "gangsaw/gangsawlaw54.LoadingBest", spec := "loadingBest", unfollowed := true, recurses := true, apart := false, narrowed := true }
def LoadingBestUptoSaid : Prop := loadingBestUptoRow.holds Try.pinned (OpenSpec.upto loadingBestSpec)

/-- 'gangsawlaw54.LoadingRight', WHERE WHAT IT READS IS OF BULK AT MOST 1048576: true; the input reads as it did. -/
def loadingRightUptoRow : OpenClaim := { program := "ytohcgenhhgipcaa", sum := "370993aa17cb1608b4340f48441b1d29bb64b44ed19f3bb9368ad23db7c03c3b", func := "gangsaw/gangsawlaw54.LoadingRight", spec := "loadingRight", unfollowed := true, recurses := true, apart := false, narrowed := true }
def LoadingRightUptoSaid : Prop := loadingRightUptoRow.holds Try.pinned (OpenSpec.upto loadingRightSpec)

/-- 'gangsawlaw54.LoadingBalance', WHERE WHAT IT READS IS OF BULK AT MOST 1048576: true; the input reads as it did. -/
def loadingBalanceUptoRow : OpenClaim := { program := "ytohcgenhhgipcaa", sum := "370993aa17cb1608b4340f48441b1d29bb64b44ed19f3bb9368ad23db7c03c3b", func := "gangsaw/gangsawlaw54.LoadingBalance", spec := "loadingBalance", unfollowed := true, recurses := true, apart := false, narrowed := true }
def LoadingBalanceUptoSaid : Prop := loadingBalanceUptoRow.holds Try.pinned (OpenSpec.upto loadingBalanceSpec)

end Rows
end Go.Proofs.Ytohcgenhhgipcaa
