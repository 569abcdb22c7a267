/-
  No cell of these rows narrows 'for every input' (looked for: loops, veiled, ifaces, maps, wideKeys, modest, calm, conditions, laid).
  DERIVED. THE GIVEN ROWS OF THIS SEAT. 8 by the template 'for every input the law returns true; each argument reads behind the call as it read before'; 0 by the template 'total and deterministic' (their statements: YtnjikioimompnaaTotals.lean).
  GIVEN WITH THE SEED: the statements are not yours to turn. If you find one false, say at which input.
  Laid BY PROGRAM, IN A SANDBOX (cutbox-rows.mjs): the forced cells as the released guide's own fill.sh prints them over the translation 8dbe9a51c5830d93… (all of the seat's roots in one cut). By AI agents, Wed Nov 11 2026. No macro, syntax, notation, axiom, sorry.
-/
import Derived.Test.YtnjikioimompnaaChecked
import GoSem.Claim
import GoSem.ClaimJoined
import GoSem.ClaimMapViews
import Derived.JoinedTies
import Derived.KernelRfl
namespace Go.Proofs.Ytnjikioimompnaa
/- THE CELL 'sum', in the pinned program and in every row, IS THE sha256 OF THE DUMP (.gsa) THAT YtnjikioimompnaaProg.lean LOADS. Nothing in Lean hashes anything: it is a label: what it is worth is what the hold of that sum in a sandbox is worth. -/
noncomputable def Try.pinned : Pinned := { name := "ytnjikioimompnaa", sum := "8dbe9a51c5830d9300d64a5e1c01aa78cab122df374621940334e2df5dcb5ee3", checked := Try.checked }
namespace Rows
def none {H : Type} : Left H := { results := [], args := [] }

/-- 'gangsawlaw39.ProfileMeasures': WHATEVER THE INPUT: true; the input reads as it did. -/
def profileMeasuresSpec : ChangeSpec := { name := "profileMeasures", fn := fun _ => fun
  | [d1, d2, d3] => { results := [.lit (.bool true)], args := [d1, d2, d3] }
  | _ => none }
def profileMeasuresRow : OpenClaim := { program := "ytnjikioimompnaa", sum := "8dbe9a51c5830d9300d64a5e1c01aa78cab122df374621940334e2df5dcb5ee3", func := "gangsaw/gangsawlaw39.ProfileMeasures", spec := "profileMeasures", unfollowed := true, recurses := true, apart := false }
def ProfileMeasuresSaid : Prop := profileMeasuresRow.holds Try.pinned (OpenSpec.ofChange profileMeasuresSpec)

/-- ITS FALSE NEIGHBOUR: 'it returns false'. Refute it at one input. -/
def profileMeasuresWrong : ChangeSpec := { name := "profileMeasures", fn := fun _ => fun
  | [d1, d2, d3] => { results := [.lit (.bool false)], args := [d1, d2, d3] }
  | _ => none }
def ProfileMeasuresWrongFalsely : Prop := profileMeasuresRow.holds Try.pinned (OpenSpec.ofChange profileMeasuresWrong)

/-- 'gangsawlaw39.ProfileForms': WHATEVER THE INPUT: true; the input reads as it did. -/
def profileFormsSpec : ChangeSpec := { name := "profileForms", fn := fun _ => fun
  | [d1, d2] => { results := [.lit (.bool true)], args := [d1, d2] }
  | _ => none }
def profileFormsRow : OpenClaim := { program := "ytnjikioimompnaa", sum := "8dbe9a51c5830d9300d64a5e1c01aa78cab122df374621940334e2df5dcb5ee3", func := "gangsaw/gangsawlaw39.ProfileForms", spec := "profileForms", unfollowed := true, recurses := true, apart := false }
def ProfileFormsSaid : Prop := profileFormsRow.holds Try.pinned (OpenSpec.ofChange profileFormsSpec)

/-- ITS FALSE NEIGHBOUR: 'it returns false'. Refute it at one input. -/
def profileFormsWrong : ChangeSpec := { name := "profileForms", fn := fun _ => fun
  | [d1, d2] => { results := [.lit (.bool false)], args := [d1, d2] }
  | _ => none }
def ProfileFormsWrongFalsely : Prop := profileFormsRow.holds Try.pinned (OpenSpec.ofChange profileFormsWrong)

/-- 'gangsawlaw39.ProfileUndercuts': WHATEVER THE INPUT: true; the input reads as it did. -/
def profileUndercutsSpec : ChangeSpec := { name := "profileUndercuts", fn := fun _ => fun
  | [d1, d2] => { results := [.lit (.bool true)], args := [d1, d2] }
  | _ => none }
def profileUndercutsRow : OpenClaim := { program := "ytnjikioimompnaa", sum := "8dbe9a51c5830d9300d64a5e1c01aa78cab122df374621940334e2df5dcb5ee3", func := "gangsaw/gangsawlaw39.ProfileUndercuts", spec := "profileUndercuts", unfollowed := true, recurses := true, apart := false }
def ProfileUndercutsSaid : Prop := profileUndercutsRow.holds Try.pinned (OpenSpec.ofChange profileUndercutsSpec)

/-- ITS FALSE NEIGHBOUR: 'it returns false'. Refute it at one input. -/
def profileUndercutsWrong : ChangeSpec := { name := "profileUndercuts", fn := fun _ => fun
  | [d1, d2] => { results := [.lit (.bool false)], args := [d1, d2] }
  | _ => none }
def ProfileUndercutsWrongFalsely : Prop := profileUndercutsRow.holds Try.pinned (OpenSpec.ofChange profileUndercutsWrong)

/-- 'gangsawlaw39.ProfileSteps': WHATEVER THE INPUT: true; the input reads as it did. -/
def profileStepsSpec : ChangeSpec := { name := "profileSteps", fn := fun _ => fun
  | [d1, d2, d3, d4] => { results := [.lit (.bool true)], args := [d1, d2, d3, d4] }
  | _ => none }
def profileStepsRow : OpenClaim := { program := "ytnjikioimompnaa", sum := "8dbe9a51c5830d9300d64a5e1c01aa78cab122df374621940334e2df5dcb5ee3", func := "gangsaw/gangsawlaw39.ProfileSteps", spec := "profileSteps", unfollowed := true, recurses := true, apart := false }
def ProfileStepsSaid : Prop := profileStepsRow.holds Try.pinned (OpenSpec.ofChange profileStepsSpec)

/-- ITS FALSE NEIGHBOUR: 'it returns false'. Refute it at one input. -/
def profileStepsWrong : ChangeSpec := { name := "profileSteps", fn := fun _ => fun
  | [d1, d2, d3, d4] => { results := [.lit (.bool false)], args := [d1, d2, d3, d4] }
  | _ => none }
def ProfileStepsWrongFalsely : Prop := profileStepsRow.holds Try.pinned (OpenSpec.ofChange profileStepsWrong)

/-- 'gangsawlaw39.ProfileMirrored': WHATEVER THE INPUT: true; the input reads as it did. -/
def profileMirroredSpec : ChangeSpec := { name := "profileMirrored", fn := fun _ => fun
  | [d] => { results := [.lit (.bool true)], args := [d] }
  | _ => none }
def profileMirroredRow : OpenClaim := { program := "ytnjikioimompnaa", sum := "8dbe9a51c5830d9300d64a5e1c01aa78cab122df374621940334e2df5dcb5ee3", func := "gangsaw/gangsawlaw39.ProfileMirrored", spec := "profileMirrored", unfollowed := true, recurses := true, apart := false }
def ProfileMirroredSaid : Prop := profileMirroredRow.holds Try.pinned (OpenSpec.ofChange profileMirroredSpec)

/-- ITS FALSE NEIGHBOUR: 'it returns false'. Refute it at one input. -/
def profileMirroredWrong : ChangeSpec := { name := "profileMirrored", fn := fun _ => fun
  | [d] => { results := [.lit (.bool false)], args := [d] }
  | _ => none }
def ProfileMirroredWrongFalsely : Prop := profileMirroredRow.holds Try.pinned (OpenSpec.ofChange profileMirroredWrong)

/-- 'gangsawlaw39.ProfileSides': WHATEVER THE INPUT: true; the input reads as it did. -/
def profileSidesSpec : ChangeSpec := { name := "profileSides", fn := fun _ => fun
  | [d] => { results := [.lit (.bool true)], args := [d] }
  | _ => none }
def profileSidesRow : OpenClaim := { program := "ytnjikioimompnaa", sum := "8dbe9a51c5830d9300d64a5e1c01aa78cab122df374621940334e2df5dcb5ee3", func := "gangsaw/gangsawlaw39.ProfileSides", spec := "profileSides", unfollowed := true, recurses := true, apart := false }
def ProfileSidesSaid : Prop := profileSidesRow.holds Try.pinned (OpenSpec.ofChange profileSidesSpec)

/-- ITS FALSE NEIGHBOUR: 'it returns false'. Refute it at one input. -/
def profileSidesWrong : ChangeSpec := { name := "profileSides", fn := fun _ => fun
  | [d] => { results := [.lit (.bool false)], args := [d] }
  | _ => none }
def ProfileSidesWrongFalsely : Prop := profileSidesRow.holds Try.pinned (OpenSpec.ofChange profileSidesWrong)

/-- 'gangsawlaw39.ProfileStairs': WHATEVER THE INPUT: true; the input reads as it did. -/
def profileStairsSpec : ChangeSpec := { name := "profileStairs", fn := fun _ => fun
  | [d1, d2, d3, d4] => { results := [.lit (.bool true)], args := [d1, d2, d3, d4] }
  | _ => none }
def profileStairsRow : OpenClaim := { program := "ytnjikioimompnaa", sum := "8dbe9a51c5830d9300d64a5e1c01aa78cab122df374621940334e2df5dcb5ee3", func := "gangsaw/gangsawlaw39.ProfileStairs", spec := "profileStairs", unfollowed := true, recurses := true, apart := false }
def ProfileStairsSaid : Prop := profileStairsRow.holds Try.pinned (OpenSpec.ofChange profileStairsSpec)

/-- ITS FALSE NEIGHBOUR: 'it returns false'. Refute it at one input. -/
def profileStairsWrong : ChangeSpec := { name := "profileStairs", fn := fun _ => fun
  | [d1, d2, d3, d4] => { results := [.lit (.bool false)], args := [d1, d2, d3, d4] }
  | _ => none }
def ProfileStairsWrongFalsely : Prop := profileStairsRow.holds Try.pinned (OpenSpec.ofChange profileStairsWrong)

/-- 'gangsawlaw39.ProfileMoves': WHATEVER THE INPUT: true; the input reads as it did. -/
def profileMovesSpec : ChangeSpec := { name := "profileMoves", fn := fun _ => fun
  | [d1, d2, d3] => { results := [.lit (.bool true)], args := [d1, d2, d3] }
  | _ => none }
def profileMovesRow : OpenClaim := { program := "ytnjikioimompnaa", sum := "8dbe9a51c5830d9300d64a5e1c01aa78cab122df374621940334e2df5dcb5ee3", func := "gangsaw/gangsawlaw39.ProfileMoves", spec := "profileMoves", unfollowed := true, recurses := true, apart := false }
def ProfileMovesSaid : Prop := profileMovesRow.holds Try.pinned (OpenSpec.ofChange profileMovesSpec)

/-- ITS FALSE NEIGHBOUR: 'it returns false'. Refute it at one input. -/
def profileMovesWrong : ChangeSpec := { name := "profileMoves", fn := fun _ => fun
  | [d1, d2, d3] => { results := [.lit (.bool false)], args := [d1, d2, d3] }
  | _ => none }
def ProfileMovesWrongFalsely : Prop := profileMovesRow.holds Try.pinned (OpenSpec.ofChange profileMovesWrong)

/- THE SECOND FORM. 'bulk': how many values and letters a reading holds, each counted each time it is reached (what is shared counts as often as it is met; a slice's spare places count too). A statement '..UptoSaid' is the law's where the arguments, and the package variables that the reading takes, are together of bulk at most 1048576: NARROWER than '..Said'. Prove '..Said' where nothing that the law and all that it calls make is longer than what came in: it says more and counts as full. Else prove '..UptoSaid'. A law counts once. -/
mutual
def uptoBulk {H : Type} : DataW H → Nat
  | .lit (.string bytes) => bytes.length + 1
  | .lit _ => 1
  | .nil => 1
  | .ptr d => uptoBulk d + 1
  | .slice elems spare => uptoBulkAll elems + uptoBulkAll spare + 1
  | .agg parts => uptoBulkAll parts + 1
  | .iface _ d => uptoBulk d + 1
  | .map entries => uptoBulkEntries entries + 1
  | .held _ => 1
def uptoBulkAll {H : Type} : List (DataW H) → Nat
  | [] => 0
  | d :: r => uptoBulk d + uptoBulkAll r
def uptoBulkEntries {H : Type} : List (Lit × DataW H) → Nat
  | [] => 0
  | x :: r => uptoBulkEntry x + uptoBulkEntries r
def uptoBulkEntry {H : Type} : Lit × DataW H → Nat
  | (.string bytes, d) => bytes.length + uptoBulk d + 1
  | (_, d) => uptoBulk d + 1
 end
def uptoSmall : (H : Type) → List (DataW H) → Bool := fun _ ds => decide (uptoBulkAll ds ≤ 1048576)
def OpenSpec.upto (s : _root_.Go.ChangeSpec) : _root_.Go.OpenSpec := { _root_.Go.OpenSpec.ofChange s with cond := some uptoSmall }

/-- 'gangsawlaw39.ProfileMeasures', WHERE WHAT IT READS IS OF BULK AT MOST 1048576: true; the input reads as it did. -/
def profileMeasuresUptoRow : OpenClaim := { program := "ytnjikioimompnaa", sum := "8dbe9a51c5830d9300d64a5e1c01aa78cab122df374621940334e2df5dcb5ee3", func := "gangsaw/gangsawlaw39.ProfileMeasures", spec := "profileMeasures", unfollowed := true, recurses := true, apart := false, narrowed := true }
def ProfileMeasuresUptoSaid : Prop := profileMeasuresUptoRow.holds Try.pinned (OpenSpec.upto profileMeasuresSpec)

/-- 'gangsawlaw39.ProfileForms', WHERE WHAT IT READS IS OF BULK AT MOST 1048576: true; the input reads as it did. -/
def profileFormsUptoRow : OpenClaim := { program := "ytnjikioimompnaa", sum := "8dbe9a51c5830d9300d64a5e1c01aa78cab122df374621940334e2df5dcb5ee3", func := "gangsaw/gangsawlaw39.ProfileForms", spec := "profileForms", unfollowed := true, recurses := true, apart := false, narrowed := true }
def ProfileFormsUptoSaid : Prop := profileFormsUptoRow.holds Try.pinned (OpenSpec.upto profileFormsSpec)

/-- 'gangsawlaw39.ProfileUndercuts', WHERE WHAT IT READS IS OF BULK AT MOST 1048576: true; the input reads as it did. -/
def profileUndercutsUptoRow : OpenClaim := { program := "ytnjikioimompnaa", sum := "8dbe9a51c5830d9300d64a5e1c01aa78cab122df374621940334e2df5dcb5ee3", func := "gangsaw/gangsawlaw39.ProfileUndercuts", spec := "profileUndercuts", unfollowed := true, recurses := true, apart := false, narrowed := true }
def ProfileUndercutsUptoSaid : Prop := profileUndercutsUptoRow.holds Try.pinned (OpenSpec.upto profileUndercutsSpec)

/-- 'gangsawlaw39.ProfileSteps', WHERE WHAT IT READS IS OF BULK AT MOST 1048576: true; the input reads as it did. -/
def profileStepsUptoRow : OpenClaim := { program := "ytnjikioimompnaa", sum := "8dbe9a51c5830d9300d64a5e1c01aa78cab122df374621940334e2df5dcb5ee3", func := "gangsaw/gangsawlaw39.ProfileSteps", spec := "profileSteps", unfollowed := true, recurses := true, apart := false, narrowed := true }
def ProfileStepsUptoSaid : Prop := profileStepsUptoRow.holds Try.pinned (OpenSpec.upto profileStepsSpec)

/-- 'gangsawlaw39.ProfileMirrored', WHERE WHAT IT READS IS OF BULK AT MOST 1048576: true; the input reads as it did. -/
def profileMirroredUptoRow : OpenClaim := { program := "ytnjikioimompnaa", sum := "8dbe9a51c5830d9300d64a5e1c01aa78cab122df374621940334e2df5dcb5ee3", func := "gangsaw/gangsawlaw39.ProfileMirrored", spec := "profileMirrored", unfollowed := true, recurses := true, apart := false, narrowed := true }
def ProfileMirroredUptoSaid : Prop := profileMirroredUptoRow.holds Try.pinned (OpenSpec.upto profileMirroredSpec)

/-- 'gangsawlaw39.ProfileSides', WHERE WHAT IT READS IS OF BULK AT MOST 1048576: true; the input reads as it did. -/
def profileSidesUptoRow : OpenClaim := { program := "ytnjikioimompnaa", sum := "8dbe9a51c5830d9300d64a5e1c01aa78cab122df374621940334e2df5dcb5ee3", func := "gangsaw/gangsawlaw39.ProfileSides", spec := "profileSides", unfollowed := true, recurses := true, apart := false, narrowed := true }
def ProfileSidesUptoSaid : Prop := profileSidesUptoRow.holds Try.pinned (OpenSpec.upto profileSidesSpec)

/-- 'gangsawlaw39.ProfileStairs', WHERE WHAT IT READS IS OF BULK AT MOST 1048576: true; the input reads as it did. -/
def profileStairsUptoRow : OpenClaim := { program := "ytnjikioimompnaa", sum := "8dbe9a51c5830d9300d64a5e1c01aa78cab122df374621940334e2df5dcb5ee3", func := "gangsaw/gangsawlaw39.ProfileStairs", spec := "profileStairs", unfollowed := true, recurses := true, apart := false, narrowed := true }
def ProfileStairsUptoSaid : Prop := profileStairsUptoRow.holds Try.pinned (OpenSpec.upto profileStairsSpec)

/-- 'gangsawlaw39.ProfileMoves', WHERE WHAT IT READS IS OF BULK AT MOST 1048576: true; the input reads as it did. -/
def profileMovesUptoRow : OpenClaim := { program := "ytnjikioimompnaa", sum := "8dbe9a51c5830d9300d64a5e1c01aa78cab122df374621940334e2df5dcb5ee3", func := "gangsaw/gangsawlaw39.ProfileMoves", spec := "profileMoves", unfollowed := true, recurses := true, apart := false, narrowed := true }
def ProfileMovesUptoSaid : Prop := profileMovesUptoRow.holds Try.pinned (OpenSpec.upto profileMovesSpec)

end Rows
end Go.Proofs.Ytnjikioimompnaa
