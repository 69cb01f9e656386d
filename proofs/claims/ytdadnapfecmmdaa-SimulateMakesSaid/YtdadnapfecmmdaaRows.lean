/-
  No cell of these rows narrows 'for every input' (looked for: loops, veiled, ifaces, maps, wideKeys, modest, calm, conditions, laid).
  DERIVED. THE GIVEN ROWS OF THIS SEAT. 6 by the template 'for every input the law returns true; each argument reads behind the call as it read before'; 0 by the template 'total and deterministic' (their statements: YtdadnapfecmmdaaTotals.lean).
  GIVEN WITH THE SEED: the statements are not yours to turn. If you find one false, say at which input.
  Laid BY PROGRAM, IN A SANDBOX (cutbox-rows.mjs): the forced cells as the released guide's own fill.sh prints them over the translation cec3d9c80936dacb… (all of the seat's roots in one cut). By AI agents, Wed Nov 11 2026. No macro, syntax, notation, axiom, sorry.
-/
import Derived.Test.YtdadnapfecmmdaaChecked
import GoSem.Claim
import GoSem.ClaimJoined
import GoSem.ClaimMapViews
import Derived.JoinedTies
import Derived.KernelRfl
namespace Go.Proofs.Ytdadnapfecmmdaa
/- THE CELL 'sum', in the pinned program and in every row, IS THE sha256 OF THE DUMP (.gsa) THAT YtdadnapfecmmdaaProg.lean LOADS. Nothing in Lean hashes anything: it is a label: what it is worth is what the hold of that sum in a sandbox is worth. -/
noncomputable def Try.pinned : Pinned := { name := "ytdadnapfecmmdaa", sum := "cec3d9c80936dacb2b65100ef3cb409cf2a23a2eaa1f8fa47fc894793a9425e9", checked := Try.checked }
namespace Rows
def none {H : Type} : Left H := { results := [], args := [] }

/-- 'sleuthlaw55.SimulateRolls': WHATEVER THE INPUT: true; the input reads as it did. -/
def simulateRollsSpec : ChangeSpec := { name := "simulateRolls", fn := fun _ => fun
  | [d1, d2, d3] => { results := [.lit (.bool true)], args := [d1, d2, d3] }
  | _ => none }
def simulateRollsRow : OpenClaim := { program := "ytdadnapfecmmdaa", sum := "cec3d9c80936dacb2b65100ef3cb409cf2a23a2eaa1f8fa47fc894793a9425e9", func := "sleuth/sleuthlaw55.SimulateRolls", spec := "simulateRolls", unfollowed := true, recurses := true, apart := false }
def SimulateRollsSaid : Prop := simulateRollsRow.holds Try.pinned (OpenSpec.ofChange simulateRollsSpec)

/-- ITS FALSE NEIGHBOUR: 'it returns false'. Refute it at one input. -/
def simulateRollsWrong : ChangeSpec := { name := "simulateRolls", fn := fun _ => fun
  | [d1, d2, d3] => { results := [.lit (.bool false)], args := [d1, d2, d3] }
  | _ => none }
def SimulateRollsWrongFalsely : Prop := simulateRollsRow.holds Try.pinned (OpenSpec.ofChange simulateRollsWrong)

/-- 'sleuthlaw55.SimulateVersions': WHATEVER THE INPUT: true; the input reads as it did. -/
def simulateVersionsSpec : ChangeSpec := { name := "simulateVersions", fn := fun _ => fun
  | [d] => { results := [.lit (.bool true)], args := [d] }
  | _ => none }
def simulateVersionsRow : OpenClaim := { program := "ytdadnapfecmmdaa", sum := "cec3d9c80936dacb2b65100ef3cb409cf2a23a2eaa1f8fa47fc894793a9425e9", func := "sleuth/sleuthlaw55.SimulateVersions", spec := "simulateVersions", unfollowed := true, recurses := true, apart := false }
def SimulateVersionsSaid : Prop := simulateVersionsRow.holds Try.pinned (OpenSpec.ofChange simulateVersionsSpec)

/-- ITS FALSE NEIGHBOUR: 'it returns false'. Refute it at one input. -/
def simulateVersionsWrong : ChangeSpec := { name := "simulateVersions", fn := fun _ => fun
  | [d] => { results := [.lit (.bool false)], args := [d] }
  | _ => none }
def SimulateVersionsWrongFalsely : Prop := simulateVersionsRow.holds Try.pinned (OpenSpec.ofChange simulateVersionsWrong)

/-- 'sleuthlaw55.SimulateFaults': WHATEVER THE INPUT: true; the input reads as it did. -/
def simulateFaultsSpec : ChangeSpec := { name := "simulateFaults", fn := fun _ => fun
  | [d1, d2] => { results := [.lit (.bool true)], args := [d1, d2] }
  | _ => none }
def simulateFaultsRow : OpenClaim := { program := "ytdadnapfecmmdaa", sum := "cec3d9c80936dacb2b65100ef3cb409cf2a23a2eaa1f8fa47fc894793a9425e9", func := "sleuth/sleuthlaw55.SimulateFaults", spec := "simulateFaults", unfollowed := true, recurses := true, apart := false }
def SimulateFaultsSaid : Prop := simulateFaultsRow.holds Try.pinned (OpenSpec.ofChange simulateFaultsSpec)

/-- ITS FALSE NEIGHBOUR: 'it returns false'. Refute it at one input. -/
def simulateFaultsWrong : ChangeSpec := { name := "simulateFaults", fn := fun _ => fun
  | [d1, d2] => { results := [.lit (.bool false)], args := [d1, d2] }
  | _ => none }
def SimulateFaultsWrongFalsely : Prop := simulateFaultsRow.holds Try.pinned (OpenSpec.ofChange simulateFaultsWrong)

/-- 'sleuthlaw55.SimulateMakes': WHATEVER THE INPUT: true; the input reads as it did. -/
def simulateMakesSpec : ChangeSpec := { name := "simulateMakes", fn := fun _ => fun
  | [d] => { results := [.lit (.bool true)], args := [d] }
  | _ => none }
def simulateMakesRow : OpenClaim := { program := "ytdadnapfecmmdaa", sum := "cec3d9c80936dacb2b65100ef3cb409cf2a23a2eaa1f8fa47fc894793a9425e9", func := "sleuth/sleuthlaw55.SimulateMakes", spec := "simulateMakes", unfollowed := true, recurses := true, apart := false }
def SimulateMakesSaid : Prop := simulateMakesRow.holds Try.pinned (OpenSpec.ofChange simulateMakesSpec)

/-- ITS FALSE NEIGHBOUR: 'it returns false'. Refute it at one input. -/
def simulateMakesWrong : ChangeSpec := { name := "simulateMakes", fn := fun _ => fun
  | [d] => { results := [.lit (.bool false)], args := [d] }
  | _ => none }
def SimulateMakesWrongFalsely : Prop := simulateMakesRow.holds Try.pinned (OpenSpec.ofChange simulateMakesWrong)

/-- 'sleuthlaw55.SimulateErrors': WHATEVER THE INPUT: true; the input reads as it did. -/
def simulateErrorsSpec : ChangeSpec := { name := "simulateErrors", fn := fun _ => fun
  | [d] => { results := [.lit (.bool true)], args := [d] }
  | _ => none }
def simulateErrorsRow : OpenClaim := { program := "ytdadnapfecmmdaa", sum := "cec3d9c80936dacb2b65100ef3cb409cf2a23a2eaa1f8fa47fc894793a9425e9", func := "sleuth/sleuthlaw55.SimulateErrors", spec := "simulateErrors", unfollowed := true, recurses := true, apart := false }
def SimulateErrorsSaid : Prop := simulateErrorsRow.holds Try.pinned (OpenSpec.ofChange simulateErrorsSpec)

/-- ITS FALSE NEIGHBOUR: 'it returns false'. Refute it at one input. -/
def simulateErrorsWrong : ChangeSpec := { name := "simulateErrors", fn := fun _ => fun
  | [d] => { results := [.lit (.bool false)], args := [d] }
  | _ => none }
def SimulateErrorsWrongFalsely : Prop := simulateErrorsRow.holds Try.pinned (OpenSpec.ofChange simulateErrorsWrong)

/-- 'sleuthlaw55.SimulateChecks': WHATEVER THE INPUT: true; the input reads as it did. -/
def simulateChecksSpec : ChangeSpec := { name := "simulateChecks", fn := fun _ => fun
  | [d1, d2] => { results := [.lit (.bool true)], args := [d1, d2] }
  | _ => none }
def simulateChecksRow : OpenClaim := { program := "ytdadnapfecmmdaa", sum := "cec3d9c80936dacb2b65100ef3cb409cf2a23a2eaa1f8fa47fc894793a9425e9", func := "sleuth/sleuthlaw55.SimulateChecks", spec := "simulateChecks", unfollowed := true, recurses := true, apart := false }
def SimulateChecksSaid : Prop := simulateChecksRow.holds Try.pinned (OpenSpec.ofChange simulateChecksSpec)

/-- ITS FALSE NEIGHBOUR: 'it returns false'. Refute it at one input. -/
def simulateChecksWrong : ChangeSpec := { name := "simulateChecks", fn := fun _ => fun
  | [d1, d2] => { results := [.lit (.bool false)], args := [d1, d2] }
  | _ => none }
def SimulateChecksWrongFalsely : Prop := simulateChecksRow.holds Try.pinned (OpenSpec.ofChange simulateChecksWrong)

/- THE SECOND FORM. 'bulk': how many values and letters a reading holds, each counted each time it is reached (what is shared counts as often as it is met; a slice's spare places count too). A statement '..UptoSaid' is the law's where the arguments, and the package variables that the reading takes, are together of bulk at most 1048576: NARROWER than '..Said'. Prove '..Said' where nothing that the law and all that it calls make is longer than what came in: it says more and counts as full. Else prove '..UptoSaid'. A law counts once. -/
mutual
def uptoBulk {H : Type} : DataW H → Nat
  | .lit (.string bytes) => bytes.length + 1
  | .lit _ => 1
  | .nil => 1
  | .ptr d => uptoBulk d + 1
  | .slice elems spare => uptoBulkAll elems + uptoBulkAll spare + 1
  | .agg parts => uptoBulkAll parts + 1
  | .iface _ d => uptoBulk d + 1
  | .map entries => uptoBulkEntries entries + 1
  | .held _ => 1
def uptoBulkAll {H : Type} : List (DataW H) → Nat
  | [] => 0
  | d :: r => uptoBulk d + uptoBulkAll r
def uptoBulkEntries {H : Type} : List (Lit × DataW H) → Nat
  | [] => 0
  | x :: r => uptoBulkEntry x + uptoBulkEntries r
def uptoBulkEntry {H : Type} : Lit × DataW H → Nat
  | (.string bytes, d) => bytes.length + uptoBulk d + 1
  | (_, d) => uptoBulk d + 1
 end
def uptoSmall : (H : Type) → List (DataW H) → Bool := fun _ ds => decide (uptoBulkAll ds ≤ 1048576)
def OpenSpec.upto (s : _root_.Go.ChangeSpec) : _root_.Go.OpenSpec := { _root_.Go.OpenSpec.ofChange s with cond := some uptoSmall }

/-- 'sleuthlaw55.SimulateRolls', WHERE WHAT IT READS IS OF BULK AT MOST 1048576: true; the input reads as it did. -/
def simulateRollsUptoRow : OpenClaim := { program := "ytdadnapfecmmdaa", sum := "cec3d9c80936dacb2b65100ef3cb409cf2a23a2eaa1f8fa47fc894793a9425e9", func := "sleuth/sleuthlaw55.SimulateRolls", spec := "simulateRolls", unfollowed := true, recurses := true, apart := false, narrowed := true }
def SimulateRollsUptoSaid : Prop := simulateRollsUptoRow.holds Try.pinned (OpenSpec.upto simulateRollsSpec)

/-- 'sleuthlaw55.SimulateVersions', WHERE WHAT IT READS IS OF BULK AT MOST 1048576: true; the input reads as it did. -/
def simulateVersionsUptoRow : OpenClaim := { program := "ytdadnapfecmmdaa", sum := "cec3d9c80936dacb2b65100ef3cb409cf2a23a2eaa1f8fa47fc894793a9425e9", func := "sleuth/sleuthlaw55.SimulateVersions", spec := "simulateVersions", unfollowed := true, recurses := true, apart := false, narrowed := true }
def SimulateVersionsUptoSaid : Prop := simulateVersionsUptoRow.holds Try.pinned (OpenSpec.upto simulateVersionsSpec)

/-- 'sleuthlaw55.SimulateFaults', WHERE WHAT IT READS IS OF BULK AT MOST 1048576: true; the input reads as it did. -/
def simulateFaultsUptoRow : OpenClaim := { program := "ytdadnapfecmmdaa", sum := "cec3d9c80936dacb2b65100ef3cb409cf2a23a2eaa1f8fa47fc894793a9425e9", func := "sleuth/sleuthlaw55.SimulateFaults", spec := "simulateFaults", unfollowed := true, recurses := true, apart := false, narrowed := true }
def SimulateFaultsUptoSaid : Prop := simulateFaultsUptoRow.holds Try.pinned (OpenSpec.upto simulateFaultsSpec)

/-- 'sleuthlaw55.SimulateMakes', WHERE WHAT IT READS IS OF BULK AT MOST 1048576: true; the input reads as it did. -/
def simulateMakesUptoRow : OpenClaim := { program := "ytdadnapfecmmdaa", sum := "cec3d9c80936dacb2b65100ef3cb409cf2a23a2eaa1f8fa47fc894793a9425e9", func := "sleuth/sleuthlaw55.SimulateMakes", spec := "simulateMakes", unfollowed := true, recurses := true, apart := false, narrowed := true }
def SimulateMakesUptoSaid : Prop := simulateMakesUptoRow.holds Try.pinned (OpenSpec.upto simulateMakesSpec)

/-- 'sleuthlaw55.SimulateErrors', WHERE WHAT IT READS IS OF BULK AT MOST 1048576: true; the input reads as it did. -/
def simulateErrorsUptoRow : OpenClaim := { program := "ytdadnapfecmmdaa", sum := "cec3d9c80936dacb2b65100ef3cb409cf2a23a2eaa1f8fa47fc894793a9425e9", func := "sleuth/sleuthlaw55.SimulateErrors", spec := "simulateErrors", unfollowed := true, recurses := true, apart := false, narrowed := true }
def SimulateErrorsUptoSaid : Prop := simulateErrorsUptoRow.holds Try.pinned (OpenSpec.upto simulateErrorsSpec)

/-- 'sleuthlaw55.SimulateChecks', WHERE WHAT IT READS IS OF BULK AT MOST 1048576: true; the input reads as it did. -/
def simulateChecksUptoRow : OpenClaim := { program := "ytdadnapfecmmdaa", sum := "cec3d9c80936dacb2b65100ef3cb409cf2a23a2eaa1f8fa47fc894793a9425e9", func := "sleuth/sleuthlaw55.SimulateChecks", spec := "simulateChecks", unfollowed := true, recurses := true, apart := false, narrowed := true }
def SimulateChecksUptoSaid : Prop := simulateChecksUptoRow.holds Try.pinned (OpenSpec.upto simulateChecksSpec)

end Rows
end Go.Proofs.Ytdadnapfecmmdaa
