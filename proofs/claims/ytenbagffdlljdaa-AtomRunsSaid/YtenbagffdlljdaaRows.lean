/-
  No cell of these rows narrows 'for every input' (looked for: loops, veiled, ifaces, maps, wideKeys, modest, calm, conditions, laid).
  DERIVED. THE GIVEN ROWS OF THIS SEAT. 4 by the template 'for every input the law returns true; each argument reads behind the call as it read before'; 0 by the template 'total and deterministic' (their statements: YtenbagffdlljdaaTotals.lean).
  GIVEN WITH THE SEED: the statements are not yours to turn. If you find one false, say at which input.
  Laid BY PROGRAM, IN A SANDBOX (cutbox-rows.mjs): the forced cells as the released guide's own fill.sh prints them over the translation 867fb851c4d3fe5d… (all of the seat's roots in one cut). By AI agents, Wed Nov 11 2026. No macro, syntax, notation, axiom, sorry.
-/
import Derived.Test.YtenbagffdlljdaaChecked
import GoSem.Claim
import GoSem.ClaimJoined
import GoSem.ClaimMapViews
import Derived.JoinedTies
import Derived.KernelRfl
namespace Go.Proofs.Ytenbagffdlljdaa
/- THE CELL 'sum', in the pinned program and in every row, IS THE sha256 OF THE DUMP (.gsa) THAT YtenbagffdlljdaaProg.lean LOADS. Nothing in Lean hashes anything: it is a label: what it is worth is what the hold of that sum in a sandbox is worth. -/
noncomputable def Try.pinned : Pinned := { name := "ytenbagffdlljdaa", sum := "867fb851c4d3fe5d99d43e9678f4f02253d787a6d90ded86d4f3e5200cdd8a55", checked := Try.checked }
namespace Rows
def none {H : Type} : Left H := { results := [], args := [] }

/-- 'simulcastlaw06.MachineRefuses': WHATEVER THE INPUT: true; the input reads as it did. -/
def machineRefusesSpec : ChangeSpec := { name := "machineRefuses", fn := fun _ => fun
  | [d1, d2, d3] => { results := [.lit (.bool true)], args := [d1, d2, d3] }
  | _ => none }
def machineRefusesRow : OpenClaim := { program := "ytenbagffdlljdaa", sum := "867fb851c4d3fe5d99d43e9678f4f02253d787a6d90ded86d4f3e5200cdd8a55", func := "simulcast/simulcastlaw06.MachineRefuses", spec := "machineRefuses", inPlace := ["maps.clone"], unfollowed := true, recurses := true, apart := false }
def MachineRefusesSaid : Prop := machineRefusesRow.holds Try.pinned (OpenSpec.ofChange machineRefusesSpec)

/-- ITS FALSE NEIGHBOUR: 'it returns false'. Refute it at one input. -/
def machineRefusesWrong : ChangeSpec := { name := "machineRefuses", fn := fun _ => fun
  | [d1, d2, d3] => { results := [.lit (.bool false)], args := [d1, d2, d3] }
  | _ => none }
def MachineRefusesWrongFalsely : Prop := machineRefusesRow.holds Try.pinned (OpenSpec.ofChange machineRefusesWrong)

/-- 'simulcastlaw06.MachineDoes': WHATEVER THE INPUT: true; the input reads as it did. -/
def machineDoesSpec : ChangeSpec := { name := "machineDoes", fn := fun _ => fun
  | [d1, d2, d3] => { results := [.lit (.bool true)], args := [d1, d2, d3] }
  | _ => none }
def machineDoesRow : OpenClaim := { program := "ytenbagffdlljdaa", sum := "867fb851c4d3fe5d99d43e9678f4f02253d787a6d90ded86d4f3e5200cdd8a55", func := "simulcast/simulcastlaw06.MachineDoes", spec := "machineDoes", inPlace := ["maps.clone"], unfollowed := true, recurses := true, apart := false }
def MachineDoesSaid : Prop := machineDoesRow.holds Try.pinned (OpenSpec.ofChange machineDoesSpec)

/-- ITS FALSE NEIGHBOUR: 'it returns false'. Refute it at one input. -/
def machineDoesWrong : ChangeSpec := { name := "machineDoes", fn := fun _ => fun
  | [d1, d2, d3] => { results := [.lit (.bool false)], args := [d1, d2, d3] }
  | _ => none }
def MachineDoesWrongFalsely : Prop := machineDoesRow.holds Try.pinned (OpenSpec.ofChange machineDoesWrong)

/-- 'simulcastlaw10.AtomRuns': WHATEVER THE INPUT: true; the input reads as it did. -/
def atomRunsSpec : ChangeSpec := { name := "atomRuns", fn := fun _ => fun
  | [d] => { results := [.lit (.bool true)], args := [d] }
  | _ => none }
def atomRunsRow : OpenClaim := { program := "ytenbagffdlljdaa", sum := "867fb851c4d3fe5d99d43e9678f4f02253d787a6d90ded86d4f3e5200cdd8a55", func := "simulcast/simulcastlaw10.AtomRuns", spec := "atomRuns", inPlace := ["maps.clone"], unfollowed := true, recurses := true, apart := false }
def AtomRunsSaid : Prop := atomRunsRow.holds Try.pinned (OpenSpec.ofChange atomRunsSpec)

/-- ITS FALSE NEIGHBOUR: 'it returns false'. Refute it at one input. -/
def atomRunsWrong : ChangeSpec := { name := "atomRuns", fn := fun _ => fun
  | [d] => { results := [.lit (.bool false)], args := [d] }
  | _ => none }
def AtomRunsWrongFalsely : Prop := atomRunsRow.holds Try.pinned (OpenSpec.ofChange atomRunsWrong)

/-- 'simulcasttop.TopSnapshot': WHATEVER THE INPUT: true; the input reads as it did. -/
def topSnapshotSpec : ChangeSpec := { name := "topSnapshot", fn := fun _ => fun
  | [d] => { results := [.lit (.bool true)], args := [d] }
  | _ => none }
def topSnapshotRow : OpenClaim := { program := "ytenbagffdlljdaa", sum := "867fb851c4d3fe5d99d43e9678f4f02253d787a6d90ded86d4f3e5200cdd8a55", func := "simulcast/simulcasttop.TopSnapshot", spec := "topSnapshot", unfollowed := true, recurses := true, apart := false }
def TopSnapshotSaid : Prop := topSnapshotRow.holds Try.pinned (OpenSpec.ofChange topSnapshotSpec)

/-- ITS FALSE NEIGHBOUR: 'it returns false'. Refute it at one input. -/
def topSnapshotWrong : ChangeSpec := { name := "topSnapshot", fn := fun _ => fun
  | [d] => { results := [.lit (.bool false)], args := [d] }
  | _ => none }
def TopSnapshotWrongFalsely : Prop := topSnapshotRow.holds Try.pinned (OpenSpec.ofChange topSnapshotWrong)

/- THE SECOND FORM. 'bulk': how many values and letters a reading holds, each counted each time it is reached (what is shared counts as often as it is met; a slice's spare places count too). A statement '..UptoSaid' is the law's where the arguments, and the package variables that the reading takes, are together of bulk at most 1048576: NARROWER than '..Said'. Prove '..Said' where nothing that the law and all that it calls make is longer than what came in: it says more and counts as full. Else prove '..UptoSaid'. A law counts once. -/
mutual
def uptoBulk {H : Type} : DataW H → Nat
  | .lit (.string bytes) => bytes.length + 1
  | .lit _ => 1
  | .nil => 1
  | .ptr d => uptoBulk d + 1
  | .slice elems spare => uptoBulkAll elems + uptoBulkAll spare + 1
  | .agg parts => uptoBulkAll parts + 1
  | .iface _ d => uptoBulk d + 1
  | .map entries => uptoBulkEntries entries + 1
  | .held _ => 1
def uptoBulkAll {H : Type} : List (DataW H) → Nat
  | [] => 0
  | d :: r => uptoBulk d + uptoBulkAll r
def uptoBulkEntries {H : Type} : List (Lit × DataW H) → Nat
  | [] => 0
  | x :: r => uptoBulkEntry x + uptoBulkEntries r
def uptoBulkEntry {H : Type} : Lit × DataW H → Nat
  | (.string bytes, d) => bytes.length + uptoBulk d + 1
  | (_, d) => uptoBulk d + 1
 end
def uptoSmall : (H : Type) → List (DataW H) → Bool := fun _ ds => decide (uptoBulkAll ds ≤ 1048576)
def OpenSpec.upto (s : _root_.Go.ChangeSpec) : _root_.Go.OpenSpec := { _root_.Go.OpenSpec.ofChange s with cond := some uptoSmall }

/-- 'simulcastlaw06.MachineRefuses', WHERE WHAT IT READS IS OF BULK AT MOST 1048576: true; the input reads as it did. -/
def machineRefusesUptoRow : OpenClaim := { program := "ytenbagffdlljdaa", sum := "867fb851c4d3fe5d99d43e9678f4f02253d787a6d90ded86d4f3e5200cdd8a55", func := "simulcast/simulcastlaw06.MachineRefuses", spec := "machineRefuses", inPlace := ["maps.clone"], unfollowed := true, recurses := true, apart := false, narrowed := true }
def MachineRefusesUptoSaid : Prop := machineRefusesUptoRow.holds Try.pinned (OpenSpec.upto machineRefusesSpec)

/-- 'simulcastlaw06.MachineDoes', WHERE WHAT IT READS IS OF BULK AT MOST 1048576: true; the input reads as it did. -/
def machineDoesUptoRow : OpenClaim := { program := "ytenbagffdlljdaa", sum := "867fb851c4d3fe5d99d43e9678f4f02253d787a6d90ded86d4f3e5200cdd8a55", func := "simulcast/simulcastlaw06.MachineDoes", spec := "machineDoes", inPlace := ["maps.clone"], unfollowed := true, recurses := true, apart := false, narrowed := true }
def MachineDoesUptoSaid : Prop := machineDoesUptoRow.holds Try.pinned (OpenSpec.upto machineDoesSpec)

/-- 'simulcastlaw10.AtomRuns', WHERE WHAT IT READS IS OF BULK AT MOST 1048576: true; the input reads as it did. -/
def atomRunsUptoRow : OpenClaim := { program := "ytenbagffdlljdaa", sum := "867fb851c4d3fe5d99d43e9678f4f02253d787a6d90ded86d4f3e5200cdd8a55", func := "simulcast/simulcastlaw10.AtomRuns", spec := "atomRuns", inPlace := ["maps.clone"], unfollowed := true, recurses := true, apart := false, narrowed := true }
def AtomRunsUptoSaid : Prop := atomRunsUptoRow.holds Try.pinned (OpenSpec.upto atomRunsSpec)

/-- 'simulcasttop.TopSnapshot', WHERE WHAT IT READS IS OF BULK AT MOST 1048576: true; the input reads as it did. -/
def topSnapshotUptoRow : OpenClaim := { program := "ytenbagffdlljdaa", sum := "867fb851c4d3fe5d99d43e9678f4f02253d787a6d90ded86d4f3e5200cdd8a55", func := "simulcast/simulcasttop.TopSnapshot", spec := "topSnapshot", unfollowed := true, recurses := true, apart := false, narrowed := true }
def TopSnapshotUptoSaid : Prop := topSnapshotUptoRow.holds Try.pinned (OpenSpec.upto topSnapshotSpec)

end Rows
end Go.Proofs.Ytenbagffdlljdaa
