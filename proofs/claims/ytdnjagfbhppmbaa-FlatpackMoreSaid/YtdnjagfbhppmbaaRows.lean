/-
  No cell of these rows narrows 'for every input' (looked for: loops, veiled, ifaces, maps, wideKeys, modest, calm, conditions, laid).
  DERIVED. THE GIVEN ROWS OF THIS SEAT. 8 by the template 'for every input the law returns true; each argument reads behind the call as it read before'; 0 by the template 'total and deterministic' (their statements: YtdnjagfbhppmbaaTotals.lean).
  GIVEN WITH THE SEED: the statements are not yours to turn. If you find one false, say at which input.
  Laid BY PROGRAM, IN A SANDBOX (cutbox-rows.mjs): the forced cells as the released guide's own fill.sh prints them over the translation fbaa841b3aec8ad9… (all of the seat's roots in one cut). By AI agents, Wed Nov 11 2026. No macro, syntax, notation, axiom, sorry.
-/
import Derived.Test.YtdnjagfbhppmbaaChecked
import GoSem.Claim
import GoSem.ClaimJoined
import GoSem.ClaimMapViews
import Derived.JoinedTies
import Derived.KernelRfl
namespace Go.Proofs.Ytdnjagfbhppmbaa
/- THE CELL 'sum', in the pinned program and in every row, IS THE sha256 OF THE DUMP (.gsa) THAT YtdnjagfbhppmbaaProg.lean LOADS. Nothing in Lean hashes anything: it is a label: what it is worth is what the hold of that sum in a sandbox is worth. -/
noncomputable def Try.pinned : Pinned := { name := "ytdnjagfbhppmbaa", sum := "fbaa841b3aec8ad995130a0c1baff0aeaf6fe339a5adbbfbabb9cc45f3e58ee5", checked := Try.checked }
namespace Rows
def none {H : Type} : Left H := { results := [], args := [] }

/-- 'gangsawlaw25.FlatpackPlans': WHATEVER THE INPUT: true; the input reads as it did. -/
def flatpackPlansSpec : ChangeSpec := { name := "flatpackPlans", fn := fun _ => fun
  | [d1, d2, d3, d4] => { results := [.lit (.bool true)], args := [d1, d2, d3, d4] }
  | _ => none }
def flatpackPlansRow : OpenClaim := { program := "ytdnjagfbhppmbaa", sum := "fbaa841b3aec8ad995130a0c1baff0aeaf6fe339a5adbbfbabb9cc45f3e58ee5", func := "gangsaw/gangsawlaw25.FlatpackPlans", spec := "flatpackPlans", unfollowed := true, recurses := true, apart := false }
def FlatpackPlansSaid : Prop := flatpackPlansRow.holds Try.pinned (OpenSpec.ofChange flatpackPlansSpec)

/-- ITS FALSE NEIGHBOUR: 'it returns false'. Refute it at one input. -/
def flatpackPlansWrong : ChangeSpec := { name := "flatpackPlans", fn := fun _ => fun
  | [d1, d2, d3, d4] => { results := [.lit (.bool false)], args := [d1, d2, d3, d4] }
  | _ => none }
def FlatpackPlansWrongFalsely : Prop := flatpackPlansRow.holds Try.pinned (OpenSpec.ofChange flatpackPlansWrong)

/-- 'gangsawlaw25.FlatpackMore': WHATEVER THE INPUT: true; the input reads as it did. -/
def flatpackMoreSpec : ChangeSpec := { name := "flatpackMore", fn := fun _ => fun
  | [d1, d2, d3, d4, d5, d6] => { results := [.lit (.bool true)], args := [d1, d2, d3, d4, d5, d6] }
  | _ => none }
def flatpackMoreRow : OpenClaim := { program := "ytdnjagfbhppmbaa", sum := "fbaa841b3aec8ad995130a0c1baff0aeaf6fe339a5adbbfbabb9cc45f3e58ee5", func := "gangsaw/gangsawlaw25.FlatpackMore", spec := "flatpackMore", unfollowed := true, recurses := true, apart := false }
def FlatpackMoreSaid : Prop := flatpackMoreRow.holds Try.pinned (OpenSpec.ofChange flatpackMoreSpec)

/-- ITS FALSE NEIGHBOUR: 'it returns false'. Refute it at one input. -/
def flatpackMoreWrong : ChangeSpec := { name := "flatpackMore", fn := fun _ => fun
  | [d1, d2, d3, d4, d5, d6] => { results := [.lit (.bool false)], args := [d1, d2, d3, d4, d5, d6] }
  | _ => none }
def FlatpackMoreWrongFalsely : Prop := flatpackMoreRow.holds Try.pinned (OpenSpec.ofChange flatpackMoreWrong)

/-- 'gangsawlaw25.FlatpackBests': WHATEVER THE INPUT: true; the input reads as it did. -/
def flatpackBestsSpec : ChangeSpec := { name := "flatpackBests", fn := fun _ => fun
  | [d1, d2, d3, d4] => { results := [.lit (.bool true)], args := [d1, d2, d3, d4] }
  | _ => none }
def flatpackBestsRow : OpenClaim := { program := "ytdnjagfbhppmbaa", sum := "fbaa841b3aec8ad995130a0c1baff0aeaf6fe339a5adbbfbabb9cc45f3e58ee5", func := "gangsaw/gangsawlaw25.FlatpackBests", spec := "flatpackBests", unfollowed := true, recurses := true, apart := false }
def FlatpackBestsSaid : Prop := flatpackBestsRow.holds Try.pinned (OpenSpec.ofChange flatpackBestsSpec)

/-- ITS FALSE NEIGHBOUR: 'it returns false'. Refute it at one input. -/
def flatpackBestsWrong : ChangeSpec := { name := "flatpackBests", fn := fun _ => fun
  | [d1, d2, d3, d4] => { results := [.lit (.bool false)], args := [d1, d2, d3, d4] }
  | _ => none }
def FlatpackBestsWrongFalsely : Prop := flatpackBestsRow.holds Try.pinned (OpenSpec.ofChange flatpackBestsWrong)

/-- 'gangsawlaw25.FlatpackProves': WHATEVER THE INPUT: true; the input reads as it did. -/
def flatpackProvesSpec : ChangeSpec := { name := "flatpackProves", fn := fun _ => fun
  | [d1, d2, d3, d4, d5] => { results := [.lit (.bool true)], args := [d1, d2, d3, d4, d5] }
  | _ => none }
def flatpackProvesRow : OpenClaim := { program := "ytdnjagfbhppmbaa", sum := "fbaa841b3aec8ad995130a0c1baff0aeaf6fe339a5adbbfbabb9cc45f3e58ee5", func := "gangsaw/gangsawlaw25.FlatpackProves", spec := "flatpackProves", unfollowed := true, recurses := true, apart := false }
def FlatpackProvesSaid : Prop := flatpackProvesRow.holds Try.pinned (OpenSpec.ofChange flatpackProvesSpec)

/-- ITS FALSE NEIGHBOUR: 'it returns false'. Refute it at one input. -/
def flatpackProvesWrong : ChangeSpec := { name := "flatpackProves", fn := fun _ => fun
  | [d1, d2, d3, d4, d5] => { results := [.lit (.bool false)], args := [d1, d2, d3, d4, d5] }
  | _ => none }
def FlatpackProvesWrongFalsely : Prop := flatpackProvesRow.holds Try.pinned (OpenSpec.ofChange flatpackProvesWrong)

/-- 'gangsawlaw25.FlatpackCertificates': WHATEVER THE INPUT: true; the input reads as it did. -/
def flatpackCertificatesSpec : ChangeSpec := { name := "flatpackCertificates", fn := fun _ => fun
  | [d1, d2, d3, d4, d5] => { results := [.lit (.bool true)], args := [d1, d2, d3, d4, d5] }
  | _ => none }
def flatpackCertificatesRow : OpenClaim := { program := "ytdnjagfbhppmbaa", sum := "fbaa841b3aec8ad995130a0c1baff0aeaf6fe339a5adbbfbabb9cc45f3e58ee5", func := "gangsaw/gangsawlaw25.FlatpackCertificates", spec := "flatpackCertificates", unfollowed := true, recurses := true, apart := false }
def FlatpackCertificatesSaid : Prop := flatpackCertificatesRow.holds Try.pinned (OpenSpec.ofChange flatpackCertificatesSpec)

/-- ITS FALSE NEIGHBOUR: 'it returns false'. Refute it at one input. -/
def flatpackCertificatesWrong : ChangeSpec := { name := "flatpackCertificates", fn := fun _ => fun
  | [d1, d2, d3, d4, d5] => { results := [.lit (.bool false)], args := [d1, d2, d3, d4, d5] }
  | _ => none }
def FlatpackCertificatesWrongFalsely : Prop := flatpackCertificatesRow.holds Try.pinned (OpenSpec.ofChange flatpackCertificatesWrong)

/-- 'gangsawlaw25.FlatpackValues': WHATEVER THE INPUT: true; the input reads as it did. -/
def flatpackValuesSpec : ChangeSpec := { name := "flatpackValues", fn := fun _ => fun
  | [d1, d2, d3, d4, d5] => { results := [.lit (.bool true)], args := [d1, d2, d3, d4, d5] }
  | _ => none }
def flatpackValuesRow : OpenClaim := { program := "ytdnjagfbhppmbaa", sum := "fbaa841b3aec8ad995130a0c1baff0aeaf6fe339a5adbbfbabb9cc45f3e58ee5", func := "gangsaw/gangsawlaw25.FlatpackValues", spec := "flatpackValues", unfollowed := true, recurses := true, apart := false }
def FlatpackValuesSaid : Prop := flatpackValuesRow.holds Try.pinned (OpenSpec.ofChange flatpackValuesSpec)

/-- ITS FALSE NEIGHBOUR: 'it returns false'. Refute it at one input. -/
def flatpackValuesWrong : ChangeSpec := { name := "flatpackValues", fn := fun _ => fun
  | [d1, d2, d3, d4, d5] => { results := [.lit (.bool false)], args := [d1, d2, d3, d4, d5] }
  | _ => none }
def FlatpackValuesWrongFalsely : Prop := flatpackValuesRow.holds Try.pinned (OpenSpec.ofChange flatpackValuesWrong)

/-- 'gangsawlaw25.FlatpackChecks': WHATEVER THE INPUT: true; the input reads as it did. -/
def flatpackChecksSpec : ChangeSpec := { name := "flatpackChecks", fn := fun _ => fun
  | [d1, d2, d3, d4] => { results := [.lit (.bool true)], args := [d1, d2, d3, d4] }
  | _ => none }
def flatpackChecksRow : OpenClaim := { program := "ytdnjagfbhppmbaa", sum := "fbaa841b3aec8ad995130a0c1baff0aeaf6fe339a5adbbfbabb9cc45f3e58ee5", func := "gangsaw/gangsawlaw25.FlatpackChecks", spec := "flatpackChecks", unfollowed := true, recurses := true, apart := false }
def FlatpackChecksSaid : Prop := flatpackChecksRow.holds Try.pinned (OpenSpec.ofChange flatpackChecksSpec)

/-- ITS FALSE NEIGHBOUR: 'it returns false'. Refute it at one input. -/
def flatpackChecksWrong : ChangeSpec := { name := "flatpackChecks", fn := fun _ => fun
  | [d1, d2, d3, d4] => { results := [.lit (.bool false)], args := [d1, d2, d3, d4] }
  | _ => none }
def FlatpackChecksWrongFalsely : Prop := flatpackChecksRow.holds Try.pinned (OpenSpec.ofChange flatpackChecksWrong)

/-- 'gangsawlaw25.FlatpackOptimal': WHATEVER THE INPUT: true; the input reads as it did. -/
def flatpackOptimalSpec : ChangeSpec := { name := "flatpackOptimal", fn := fun _ => fun
  | [d1, d2, d3, d4, d5] => { results := [.lit (.bool true)], args := [d1, d2, d3, d4, d5] }
  | _ => none }
def flatpackOptimalRow : OpenClaim := { program := "ytdnjagfbhppmbaa", sum := "fbaa841b3aec8ad995130a0c1baff0aeaf6fe339a5adbbfbabb9cc45f3e58ee5", func := "gangsaw/gangsawlaw25.FlatpackOptimal", spec := "flatpackOptimal", unfollowed := true, recurses := true, apart := false }
def FlatpackOptimalSaid : Prop := flatpackOptimalRow.holds Try.pinned (OpenSpec.ofChange flatpackOptimalSpec)

/-- ITS FALSE NEIGHBOUR: 'it returns false'. Refute it at one input. -/
def flatpackOptimalWrong : ChangeSpec := { name := "flatpackOptimal", fn := fun _ => fun
  | [d1, d2, d3, d4, d5] => { results := [.lit (.bool false)], args := [d1, d2, d3, d4, d5] }
  | _ => none }
def FlatpackOptimalWrongFalsely : Prop := flatpackOptimalRow.holds Try.pinned (OpenSpec.ofChange flatpackOptimalWrong)

/- THE SECOND FORM. 'bulk': how many values and letters a reading holds, each counted each time it is reached (what is shared counts as often as it is met; a slice's spare places count too). A statement '..UptoSaid' is the law's where the arguments, and the package variables that the reading takes, are together of bulk at most 1048576: NARROWER than '..Said'. Prove '..Said' where nothing that the law and all that it calls make is longer than what came in: it says more and counts as full. Else prove '..UptoSaid'. A law counts once. -/
mutual
def uptoBulk {H : Type} : DataW H → Nat
  | .lit (.string bytes) => bytes.length + 1
  | .lit _ => 1
  | .nil => 1
  | .ptr d => uptoBulk d + 1
  | .slice elems spare => uptoBulkAll elems + uptoBulkAll spare + 1
  | .agg parts => uptoBulkAll parts + 1
  | .iface _ d => uptoBulk d + 1
  | .map entries => uptoBulkEntries entries + 1
  | .held _ => 1
def uptoBulkAll {H : Type} : List (DataW H) → Nat
  | [] => 0
  | d :: r => uptoBulk d + uptoBulkAll r
def uptoBulkEntries {H : Type} : List (Lit × DataW H) → Nat
  | [] => 0
  | x :: r => uptoBulkEntry x + uptoBulkEntries r
def uptoBulkEntry {H : Type} : Lit × DataW H → Nat
  | (.string bytes, d) => bytes.length + uptoBulk d + 1
  | (_, d) => uptoBulk d + 1
 end
def uptoSmall : (H : Type) → List (DataW H) → Bool := fun _ ds => decide (uptoBulkAll ds ≤ 1048576)
def OpenSpec.upto (s : _root_.Go.ChangeSpec) : _root_.Go.OpenSpec := { _root_.Go.OpenSpec.ofChange s with cond := some uptoSmall }

/-- 'gangsawlaw25.FlatpackPlans', WHERE WHAT IT READS IS OF BULK AT MOST 1048576: true; the input reads as it did. -/
def flatpackPlansUptoRow : OpenClaim := { program := "ytdnjagfbhppmbaa", sum := "fbaa841b3aec8ad995130a0c1baff0aeaf6fe339a5adbbfbabb9cc45f3e58ee5", func := "gangsaw/gangsawlaw25.FlatpackPlans", spec := "flatpackPlans", unfollowed := true, recurses := true, apart := false, narrowed := true }
def FlatpackPlansUptoSaid : Prop := flatpackPlansUptoRow.holds Try.pinned (OpenSpec.upto flatpackPlansSpec)

/-- 'gangsawlaw25.FlatpackMore', WHERE WHAT IT READS IS OF BULK AT MOST 1048576: true; the input reads as it did. -/
def flatpackMoreUptoRow : OpenClaim := { program := "ytdnjagfbhppmbaa", sum := "fbaa841b3aec8ad995130a0c1baff0aeaf6fe339a5adbbfbabb9cc45f3e58ee5", func := "gangsaw/gangsawlaw25.FlatpackMore", spec := "flatpackMore", unfollowed := true, recurses := true, apart := false, narrowed := true }
def FlatpackMoreUptoSaid : Prop := flatpackMoreUptoRow.holds Try.pinned (OpenSpec.upto flatpackMoreSpec)

/-- 'gangsawlaw25.FlatpackBests', WHERE WHAT IT READS IS OF BULK AT MOST 1048576: true; the input reads as it did. -/
def flatpackBestsUptoRow : OpenClaim := { program := "ytdnjagfbhppmbaa", sum := "fbaa841b3aec8ad995130a0c1baff0aeaf6fe339a5adbbfbabb9cc45f3e58ee5", func := "gangsaw/gangsawlaw25.FlatpackBests", spec := "flatpackBests", unfollowed := true, recurses := true, apart := false, narrowed := true }
def FlatpackBestsUptoSaid : Prop := flatpackBestsUptoRow.holds Try.pinned (OpenSpec.upto flatpackBestsSpec)

/-- 'gangsawlaw25.FlatpackProves', WHERE WHAT IT READS IS OF BULK AT MOST 1048576: true; the input reads as it did. -/
def flatpackProvesUptoRow : OpenClaim := { program := "ytdnjagfbhppmbaa", sum := "fbaa841b3aec8ad995130a0c1baff0aeaf6fe339a5adbbfbabb9cc45f3e58ee5", func := "gangsaw/gangsawlaw25.FlatpackProves", spec := "flatpackProves", unfollowed := true, recurses := true, apart := false, narrowed := true }
def FlatpackProvesUptoSaid : Prop := flatpackProvesUptoRow.holds Try.pinned (OpenSpec.upto flatpackProvesSpec)

/-- 'gangsawlaw25.FlatpackCertificates', WHERE WHAT IT READS IS OF BULK AT MOST 1048576: true; the input reads as it did. -/
def flatpackCertificatesUptoRow : OpenClaim := { program := "ytdnjagfbhppmbaa", sum := "fbaa841b3aec8ad995130a0c1baff0aeaf6fe339a5adbbfbabb9cc45f3e58ee5", func := "gangsaw/gangsawlaw25.FlatpackCertificates", spec := "flatpackCertificates", unfollowed := true, recurses := true, apart := false, narrowed := true }
def FlatpackCertificatesUptoSaid : Prop := flatpackCertificatesUptoRow.holds Try.pinned (OpenSpec.upto flatpackCertificatesSpec)

/-- 'gangsawlaw25.FlatpackValues', WHERE WHAT IT READS IS OF BULK AT MOST 1048576: true; the input reads as it did. -/
def flatpackValuesUptoRow : OpenClaim := { program := "ytdnjagfbhppmbaa", sum := "fbaa841b3aec8ad995130a0c1baff0aeaf6fe339a5adbbfbabb9cc45f3e58ee5", func := "gangsaw/gangsawlaw25.FlatpackValues", spec := "flatpackValues", unfollowed := true, recurses := true, apart := false, narrowed := true }
def FlatpackValuesUptoSaid : Prop := flatpackValuesUptoRow.holds Try.pinned (OpenSpec.upto flatpackValuesSpec)

/-- 'gangsawlaw25.FlatpackChecks', WHERE WHAT IT READS IS OF BULK AT MOST 1048576: true; the input reads as it did. -/
def flatpackChecksUptoRow : OpenClaim := { program := "ytdnjagfbhppmbaa", sum := "fbaa841b3aec8ad995130a0c1baff0aeaf6fe339a5adbbfbabb9cc45f3e58ee5", func := "gangsaw/gangsawlaw25.FlatpackChecks", spec := "flatpackChecks", unfollowed := true, recurses := true, apart := false, narrowed := true }
def FlatpackChecksUptoSaid : Prop := flatpackChecksUptoRow.holds Try.pinned (OpenSpec.upto flatpackChecksSpec)

/-- 'gangsawlaw25.FlatpackOptimal', WHERE WHAT IT READS IS OF BULK AT MOST 1048576: true; the input reads as it did. -/
def flatpackOptimalUptoRow : OpenClaim := { program := "ytdnjagfbhppmbaa", sum := "fbaa841b3aec8ad995130a0c1baff0aeaf6fe339a5adbbfbabb9cc45f3e58ee5", func := "gangsaw/gangsawlaw25.FlatpackOptimal", spec := "flatpackOptimal", unfollowed := true, recurses := true, apart := false, narrowed := true }
def FlatpackOptimalUptoSaid : Prop := flatpackOptimalUptoRow.holds Try.pinned (OpenSpec.upto flatpackOptimalSpec)

end Rows
end Go.Proofs.Ytdnjagfbhppmbaa
