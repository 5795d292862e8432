/-
  No cell of these rows narrows 'for every input' (looked for: loops, veiled, ifaces, maps, wideKeys, modest, calm, conditions, laid).
  DERIVED. THE GIVEN ROWS OF THIS SEAT. 12 by the template 'for every input the law returns true; each argument reads behind the call as it read before'; 0 by the template 'total and deterministic' (their statements: YtfcjkchpldfamaaTotals.lean).
  GIVEN WITH THE SEED: the statements are not yours to turn. If you find one false, say at which input.
  Laid BY PROGRAM, IN A SANDBOX (cutbox-rows.mjs): the forced cells as the released guide's own fill.sh prints them over the translation 3e9cfdac22172060… (all of the seat's roots in one cut). By AI agents, Wed Nov 11 2026. No macro, syntax, notation, axiom, sorry.
-/
import Derived.Test.YtfcjkchpldfamaaChecked
import GoSem.Claim
import GoSem.ClaimJoined
import GoSem.ClaimMapViews
import Derived.JoinedTies
import Derived.KernelRfl
namespace Go.Proofs.Ytfcjkchpldfamaa
/- THE CELL 'sum', in the pinned program and in every row, IS THE sha256 OF THE DUMP (.gsa) THAT YtfcjkchpldfamaaProg.lean LOADS. Nothing in Lean hashes anything: it is a label: what it is worth is what the hold of that sum in a sandbox is worth. -/
noncomputable def Try.pinned : Pinned := { name := "ytfcjkchpldfamaa", sum := "3e9cfdac221720600497c27501819858a523f44e0a2bd2451798a39ef111ea1d", checked := Try.checked }
namespace Rows
def none {H : Type} : Left H := { results := [], args := [] }

/-- 'simulcastlaw04.MemoryCoheres': WHATEVER THE INPUT: true; the input reads as it did. -/
def memoryCoheresSpec : ChangeSpec := { name := "memoryCoheres", fn := fun _ => fun
  | [d1, d2] => { results := [.lit (.bool true)], args := [d1, d2] }
  | _ => none }
def memoryCoheresRow : OpenClaim := { program := "ytfcjkchpldfamaa", sum := "3e9cfdac221720600497c27501819858a523f44e0a2bd2451798a39ef111ea1d", func := "simulcast/simulcastlaw04.MemoryCoheres", spec := "memoryCoheres", inPlace := ["maps.clone"], unfollowed := true, recurses := true, apart := false }
def MemoryCoheresSaid : Prop := memoryCoheresRow.holds Try.pinned (OpenSpec.ofChange memoryCoheresSpec)

/-- ITS FALSE NEIGHBOUR: 'it returns false'. Refute it at one input. -/
def memoryCoheresWrong : ChangeSpec := { name := "memoryCoheres", fn := fun _ => fun
  | [d1, d2] => { results := [.lit (.bool false)], args := [d1, d2] }
  | _ => none }
def MemoryCoheresWrongFalsely : Prop := memoryCoheresRow.holds Try.pinned (OpenSpec.ofChange memoryCoheresWrong)

/-- 'simulcastlaw04.MemoryPlays': WHATEVER THE INPUT: true; the input reads as it did. -/
def memoryPlaysSpec : ChangeSpec := { name := "memoryPlays", fn := fun _ => fun
  | [d] => { results := [.lit (.bool true)], args := [d] }
  | _ => none }
def memoryPlaysRow : OpenClaim := { program := "ytfcjkchpldfamaa", sum := "3e9cfdac221720600497c27501819858a523f44e0a2bd2451798a39ef111ea1d", func := "simulcast/simulcastlaw04.MemoryPlays", spec := "memoryPlays", inPlace := ["maps.clone"], unfollowed := true, recurses := true, apart := false }
def MemoryPlaysSaid : Prop := memoryPlaysRow.holds Try.pinned (OpenSpec.ofChange memoryPlaysSpec)

/-- ITS FALSE NEIGHBOUR: 'it returns false'. Refute it at one input. -/
def memoryPlaysWrong : ChangeSpec := { name := "memoryPlays", fn := fun _ => fun
  | [d] => { results := [.lit (.bool false)], args := [d] }
  | _ => none }
def MemoryPlaysWrongFalsely : Prop := memoryPlaysRow.holds Try.pinned (OpenSpec.ofChange memoryPlaysWrong)

/-- 'simulcastlaw04.MemoryPasses': WHATEVER THE INPUT: true; the input reads as it did. -/
def memoryPassesSpec : ChangeSpec := { name := "memoryPasses", fn := fun _ => fun
  | [d1, d2] => { results := [.lit (.bool true)], args := [d1, d2] }
  | _ => none }
def memoryPassesRow : OpenClaim := { program := "ytfcjkchpldfamaa", sum := "3e9cfdac221720600497c27501819858a523f44e0a2bd2451798a39ef111ea1d", func := "simulcast/simulcastlaw04.MemoryPasses", spec := "memoryPasses", inPlace := ["maps.clone"], unfollowed := true, recurses := true, apart := false }
def MemoryPassesSaid : Prop := memoryPassesRow.holds Try.pinned (OpenSpec.ofChange memoryPassesSpec)

/-- ITS FALSE NEIGHBOUR: 'it returns false'. Refute it at one input. -/
def memoryPassesWrong : ChangeSpec := { name := "memoryPasses", fn := fun _ => fun
  | [d1, d2] => { results := [.lit (.bool false)], args := [d1, d2] }
  | _ => none }
def MemoryPassesWrongFalsely : Prop := memoryPassesRow.holds Try.pinned (OpenSpec.ofChange memoryPassesWrong)

/-- 'simulcastlaw04.MemoryNewest': WHATEVER THE INPUT: true; the input reads as it did. -/
def memoryNewestSpec : ChangeSpec := { name := "memoryNewest", fn := fun _ => fun
  | [d1, d2, d3] => { results := [.lit (.bool true)], args := [d1, d2, d3] }
  | _ => none }
def memoryNewestRow : OpenClaim := { program := "ytfcjkchpldfamaa", sum := "3e9cfdac221720600497c27501819858a523f44e0a2bd2451798a39ef111ea1d", func := "simulcast/simulcastlaw04.MemoryNewest", spec := "memoryNewest", inPlace := ["maps.clone"], unfollowed := true, recurses := true, apart := false }
def MemoryNewestSaid : Prop := memoryNewestRow.holds Try.pinned (OpenSpec.ofChange memoryNewestSpec)

/-- ITS FALSE NEIGHBOUR: 'it returns false'. Refute it at one input. -/
def memoryNewestWrong : ChangeSpec := { name := "memoryNewest", fn := fun _ => fun
  | [d1, d2, d3] => { results := [.lit (.bool false)], args := [d1, d2, d3] }
  | _ => none }
def MemoryNewestWrongFalsely : Prop := memoryNewestRow.holds Try.pinned (OpenSpec.ofChange memoryNewestWrong)

/-- 'simulcastlaw04.MemoryCounts': WHATEVER THE INPUT: true; the input reads as it did. -/
def memoryCountsSpec : ChangeSpec := { name := "memoryCounts", fn := fun _ => fun
  | [d1, d2] => { results := [.lit (.bool true)], args := [d1, d2] }
  | _ => none }
def memoryCountsRow : OpenClaim := { program := "ytfcjkchpldfamaa", sum := "3e9cfdac221720600497c27501819858a523f44e0a2bd2451798a39ef111ea1d", func := "simulcast/simulcastlaw04.MemoryCounts", spec := "memoryCounts", inPlace := ["maps.clone"], unfollowed := true, recurses := true, apart := false }
def MemoryCountsSaid : Prop := memoryCountsRow.holds Try.pinned (OpenSpec.ofChange memoryCountsSpec)

/-- ITS FALSE NEIGHBOUR: 'it returns false'. Refute it at one input. -/
def memoryCountsWrong : ChangeSpec := { name := "memoryCounts", fn := fun _ => fun
  | [d1, d2] => { results := [.lit (.bool false)], args := [d1, d2] }
  | _ => none }
def MemoryCountsWrongFalsely : Prop := memoryCountsRow.holds Try.pinned (OpenSpec.ofChange memoryCountsWrong)

/-- 'simulcastlaw04.MemoryRefuses': WHATEVER THE INPUT: true; the input reads as it did. -/
def memoryRefusesSpec : ChangeSpec := { name := "memoryRefuses", fn := fun _ => fun
  | [d1, d2, d3] => { results := [.lit (.bool true)], args := [d1, d2, d3] }
  | _ => none }
def memoryRefusesRow : OpenClaim := { program := "ytfcjkchpldfamaa", sum := "3e9cfdac221720600497c27501819858a523f44e0a2bd2451798a39ef111ea1d", func := "simulcast/simulcastlaw04.MemoryRefuses", spec := "memoryRefuses", inPlace := ["maps.clone"], unfollowed := true, recurses := true, apart := false }
def MemoryRefusesSaid : Prop := memoryRefusesRow.holds Try.pinned (OpenSpec.ofChange memoryRefusesSpec)

/-- ITS FALSE NEIGHBOUR: 'it returns false'. Refute it at one input. -/
def memoryRefusesWrong : ChangeSpec := { name := "memoryRefuses", fn := fun _ => fun
  | [d1, d2, d3] => { results := [.lit (.bool false)], args := [d1, d2, d3] }
  | _ => none }
def MemoryRefusesWrongFalsely : Prop := memoryRefusesRow.holds Try.pinned (OpenSpec.ofChange memoryRefusesWrong)

/-- 'simulcastlaw06.MachineFinds': WHATEVER THE INPUT: true; the input reads as it did. -/
def machineFindsSpec : ChangeSpec := { name := "machineFinds", fn := fun _ => fun
  | [d1, d2, d3] => { results := [.lit (.bool true)], args := [d1, d2, d3] }
  | _ => none }
def machineFindsRow : OpenClaim := { program := "ytfcjkchpldfamaa", sum := "3e9cfdac221720600497c27501819858a523f44e0a2bd2451798a39ef111ea1d", func := "simulcast/simulcastlaw06.MachineFinds", spec := "machineFinds", inPlace := ["maps.clone"], unfollowed := true, recurses := true, apart := false }
def MachineFindsSaid : Prop := machineFindsRow.holds Try.pinned (OpenSpec.ofChange machineFindsSpec)

/-- ITS FALSE NEIGHBOUR: 'it returns false'. Refute it at one input. -/
def machineFindsWrong : ChangeSpec := { name := "machineFinds", fn := fun _ => fun
  | [d1, d2, d3] => { results := [.lit (.bool false)], args := [d1, d2, d3] }
  | _ => none }
def MachineFindsWrongFalsely : Prop := machineFindsRow.holds Try.pinned (OpenSpec.ofChange machineFindsWrong)

/-- 'simulcastlaw06.MachineChanges': WHATEVER THE INPUT: true; the input reads as it did. -/
def machineChangesSpec : ChangeSpec := { name := "machineChanges", fn := fun _ => fun
  | [d] => { results := [.lit (.bool true)], args := [d] }
  | _ => none }
def machineChangesRow : OpenClaim := { program := "ytfcjkchpldfamaa", sum := "3e9cfdac221720600497c27501819858a523f44e0a2bd2451798a39ef111ea1d", func := "simulcast/simulcastlaw06.MachineChanges", spec := "machineChanges", inPlace := ["maps.clone"], unfollowed := true, recurses := true, apart := false }
def MachineChangesSaid : Prop := machineChangesRow.holds Try.pinned (OpenSpec.ofChange machineChangesSpec)

/-- ITS FALSE NEIGHBOUR: 'it returns false'. Refute it at one input. -/
def machineChangesWrong : ChangeSpec := { name := "machineChanges", fn := fun _ => fun
  | [d] => { results := [.lit (.bool false)], args := [d] }
  | _ => none }
def MachineChangesWrongFalsely : Prop := machineChangesRow.holds Try.pinned (OpenSpec.ofChange machineChangesWrong)

/-- 'simulcastlaw06.MachineNew': WHATEVER THE INPUT: true; the input reads as it did. -/
def machineNewSpec : ChangeSpec := { name := "machineNew", fn := fun _ => fun
  | [d1, d2] => { results := [.lit (.bool true)], args := [d1, d2] }
  | _ => none }
def machineNewRow : OpenClaim := { program := "ytfcjkchpldfamaa", sum := "3e9cfdac221720600497c27501819858a523f44e0a2bd2451798a39ef111ea1d", func := "simulcast/simulcastlaw06.MachineNew", spec := "machineNew", inPlace := ["maps.clone"], unfollowed := true, recurses := true, apart := false }
def MachineNewSaid : Prop := machineNewRow.holds Try.pinned (OpenSpec.ofChange machineNewSpec)

/-- ITS FALSE NEIGHBOUR: 'it returns false'. Refute it at one input. -/
def machineNewWrong : ChangeSpec := { name := "machineNew", fn := fun _ => fun
  | [d1, d2] => { results := [.lit (.bool false)], args := [d1, d2] }
  | _ => none }
def MachineNewWrongFalsely : Prop := machineNewRow.holds Try.pinned (OpenSpec.ofChange machineNewWrong)

/-- 'simulcastlaw06.MachineRefuses': WHATEVER THE INPUT: true; the input reads as it did. -/
def machineRefusesSpec : ChangeSpec := { name := "machineRefuses", fn := fun _ => fun
  | [d1, d2, d3] => { results := [.lit (.bool true)], args := [d1, d2, d3] }
  | _ => none }
def machineRefusesRow : OpenClaim := { program := "ytfcjkchpldfamaa", sum := "3e9cfdac221720600497c27501819858a523f44e0a2bd2451798a39ef111ea1d", func := "simulcast/simulcastlaw06.MachineRefuses", spec := "machineRefuses", inPlace := ["maps.clone"], unfollowed := true, recurses := true, apart := false }
def MachineRefusesSaid : Prop := machineRefusesRow.holds Try.pinned (OpenSpec.ofChange machineRefusesSpec)

/-- ITS FALSE NEIGHBOUR: 'it returns false'. Refute it at one input. -/
def machineRefusesWrong : ChangeSpec := { name := "machineRefuses", fn := fun _ => fun
  | [d1, d2, d3] => { results := [.lit (.bool false)], args := [d1, d2, d3] }
  | _ => none }
def MachineRefusesWrongFalsely : Prop := machineRefusesRow.holds Try.pinned (OpenSpec.ofChange machineRefusesWrong)

/-- 'simulcastlaw06.MachineDoes': WHATEVER THE INPUT: true; the input reads as it did. -/
def machineDoesSpec : ChangeSpec := { name := "machineDoes", fn := fun _ => fun
  | [d1, d2, d3] => { results := [.lit (.bool true)], args := [d1, d2, d3] }
  | _ => none }
def machineDoesRow : OpenClaim := { program := "ytfcjkchpldfamaa", sum := "3e9cfdac221720600497c27501819858a523f44e0a2bd2451798a39ef111ea1d", func := "simulcast/simulcastlaw06.MachineDoes", spec := "machineDoes", inPlace := ["maps.clone"], unfollowed := true, recurses := true, apart := false }
def MachineDoesSaid : Prop := machineDoesRow.holds Try.pinned (OpenSpec.ofChange machineDoesSpec)

/-- ITS FALSE NEIGHBOUR: 'it returns false'. Refute it at one input. -/
def machineDoesWrong : ChangeSpec := { name := "machineDoes", fn := fun _ => fun
  | [d1, d2, d3] => { results := [.lit (.bool false)], args := [d1, d2, d3] }
  | _ => none }
def MachineDoesWrongFalsely : Prop := machineDoesRow.holds Try.pinned (OpenSpec.ofChange machineDoesWrong)

/-- 'simulcastlaw06.MachineKeeps': WHATEVER THE INPUT: true; the input reads as it did. -/
def machineKeepsSpec : ChangeSpec := { name := "machineKeeps", fn := fun _ => fun
  | [d1, d2, d3] => { results := [.lit (.bool true)], args := [d1, d2, d3] }
  | _ => none }
def machineKeepsRow : OpenClaim := { program := "ytfcjkchpldfamaa", sum := "3e9cfdac221720600497c27501819858a523f44e0a2bd2451798a39ef111ea1d", func := "simulcast/simulcastlaw06.MachineKeeps", spec := "machineKeeps", inPlace := ["maps.clone"], unfollowed := true, recurses := true, apart := false }
def MachineKeepsSaid : Prop := machineKeepsRow.holds Try.pinned (OpenSpec.ofChange machineKeepsSpec)

/-- ITS FALSE NEIGHBOUR: 'it returns false'. Refute it at one input. -/
def machineKeepsWrong : ChangeSpec := { name := "machineKeeps", fn := fun _ => fun
  | [d1, d2, d3] => { results := [.lit (.bool false)], args := [d1, d2, d3] }
  | _ => none }
def MachineKeepsWrongFalsely : Prop := machineKeepsRow.holds Try.pinned (OpenSpec.ofChange machineKeepsWrong)

/- THE SECOND FORM. 'bulk': how many values and letters a reading holds, each counted each time it is reached (what is shared counts as often as it is met; a slice's spare places count too). A statement '..UptoSaid' is the law's where the arguments, and the package variables that the reading takes, are together of bulk at most 1048576: NARROWER than '..Said'. Prove '..Said' where nothing that the law and all that it calls make is longer than what came in: it says more and counts as full. Else prove '..UptoSaid'. A law counts once. -/
mutual
def uptoBulk {H : Type} : DataW H → Nat
  | .lit (.string bytes) => bytes.length + 1
  | .lit _ => 1
  | .nil => 1
  | .ptr d => uptoBulk d + 1
  | .slice elems spare => uptoBulkAll elems + uptoBulkAll spare + 1
  | .agg parts => uptoBulkAll parts + 1
  | .iface _ d => uptoBulk d + 1
  | .map entries => uptoBulkEntries entries + 1
  | .held _ => 1
def uptoBulkAll {H : Type} : List (DataW H) → Nat
  | [] => 0
  | d :: r => uptoBulk d + uptoBulkAll r
def uptoBulkEntries {H : Type} : List (Lit × DataW H) → Nat
  | [] => 0
  | x :: r => uptoBulkEntry x + uptoBulkEntries r
def uptoBulkEntry {H : Type} : Lit × DataW H → Nat
  | (.string bytes, d) => bytes.length + uptoBulk d + 1
  | (_, d) => uptoBulk d + 1
 end
def uptoSmall : (H : Type) → List (DataW H) → Bool := fun _ ds => decide (uptoBulkAll ds ≤ 1048576)
def OpenSpec.upto (s : _root_.Go.ChangeSpec) : _root_.Go.OpenSpec := { _root_.Go.OpenSpec.ofChange s with cond := some uptoSmall }

/-- 'simulcastlaw04.MemoryCoheres', WHERE WHAT IT READS IS OF BULK AT MOST 1048576: true; the input reads as it did. -/
def memoryCoheresUptoRow : OpenClaim := { program := "ytfcjkchpldfamaa", sum := "3e9cfdac221720600497c27501819858a523f44e0a2bd2451798a39ef111ea1d", func := "simulcast/simulcastlaw04.MemoryCoheres", spec := "memoryCoheres", inPlace := ["maps.clone"], unfollowed := true, recurses := true, apart := false, narrowed := true }
def MemoryCoheresUptoSaid : Prop := memoryCoheresUptoRow.holds Try.pinned (OpenSpec.upto memoryCoheresSpec)

/-- 'simulcastlaw04.MemoryPlays', WHERE WHAT IT READS IS OF BULK AT MOST 1048576: true; the input reads as it did. -/
def memoryPlaysUptoRow : OpenClaim := { program := "ytfcjkchpldfamaa", sum := "3e9cfdac221720600497c27501819858a523f44e0a2bd2451798a39ef111ea1d", func := "simulcast/simulcastlaw04.MemoryPlays", spec := "memoryPlays", inPlace := ["maps.clone"], unfollowed := true, recurses := true, apart := false, narrowed := true }
def MemoryPlaysUptoSaid : Prop := memoryPlaysUptoRow.holds Try.pinned (OpenSpec.upto memoryPlaysSpec)

/-- 'simulcastlaw04.MemoryPasses', WHERE WHAT IT READS IS OF BULK AT MOST 1048576: true; the input reads as it did. -/
def memoryPassesUptoRow : OpenClaim := { program := "ytfcjkchpldfamaa", sum := "3e9cfdac221720600497c27501819858a523f44e0a2bd2451798a39ef111ea1d", func := "simulcast/simulcastlaw04.MemoryPasses", spec := "memoryPasses", inPlace := ["maps.clone"], unfollowed := true, recurses := true, apart := false, narrowed := true }
def MemoryPassesUptoSaid : Prop := memoryPassesUptoRow.holds Try.pinned (OpenSpec.upto memoryPassesSpec)

/-- 'simulcastlaw04.MemoryNewest', WHERE WHAT IT READS IS OF BULK AT MOST 1048576: true; the input reads as it did. -/
def memoryNewestUptoRow : OpenClaim := { program := "ytfcjkchpldfamaa", sum := "3e9cfdac221720600497c27501819858a523f44e0a2bd2451798a39ef111ea1d", func := "simulcast/simulcastlaw04.MemoryNewest", spec := "memoryNewest", inPlace := ["maps.clone"], unfollowed := true, recurses := true, apart := false, narrowed := true }
def MemoryNewestUptoSaid : Prop := memoryNewestUptoRow.holds Try.pinned (OpenSpec.upto memoryNewestSpec)

/-- 'simulcastlaw04.MemoryCounts', WHERE WHAT IT READS IS OF BULK AT MOST 1048576: true; the input reads as it did. -/
def memoryCountsUptoRow : OpenClaim := { program := "ytfcjkchpldfamaa", sum := "3e9cfdac221720600497c27501819858a523f44e0a2bd2451798a39ef111ea1d", func := "simulcast/simulcastlaw04.MemoryCounts", spec := "memoryCounts", inPlace := ["maps.clone"], unfollowed := true, recurses := true, apart := false, narrowed := true }
def MemoryCountsUptoSaid : Prop := memoryCountsUptoRow.holds Try.pinned (OpenSpec.upto memoryCountsSpec)

/-- 'simulcastlaw04.MemoryRefuses', WHERE WHAT IT READS IS OF BULK AT MOST 1048576: true; the input reads as it did. -/
def memoryRefusesUptoRow : OpenClaim := { program := "ytfcjkchpldfamaa", sum := "3e9cfdac221720600497c27501819858a523f44e0a2bd2451798a39ef111ea1d", func := "simulcast/simulcastlaw04.MemoryRefuses", spec := "memoryRefuses", inPlace := ["maps.clone"], unfollowed := true, recurses := true, apart := false, narrowed := true }
def MemoryRefusesUptoSaid : Prop := memoryRefusesUptoRow.holds Try.pinned (OpenSpec.upto memoryRefusesSpec)

/-- 'simulcastlaw06.MachineFinds', WHERE WHAT IT READS IS OF BULK AT MOST 1048576: true; the input reads as it did. -/
def machineFindsUptoRow : OpenClaim := { program := "ytfcjkchpldfamaa", sum := "3e9cfdac221720600497c27501819858a523f44e0a2bd2451798a39ef111ea1d", func := "simulcast/simulcastlaw06.MachineFinds", spec := "machineFinds", inPlace := ["maps.clone"], unfollowed := true, recurses := true, apart := false, narrowed := true }
def MachineFindsUptoSaid : Prop := machineFindsUptoRow.holds Try.pinned (OpenSpec.upto machineFindsSpec)

/-- 'simulcastlaw06.MachineChanges', WHERE WHAT IT READS IS OF BULK AT MOST 1048576: true; the input reads as it did. -/
def machineChangesUptoRow : OpenClaim := { program := "ytfcjkchpldfamaa", sum := "3e9cfdac221720600497c27501819858a523f44e0a2bd2451798a39ef111ea1d", func := "simulcast/simulcastlaw06.MachineChanges", spec := "machineChanges", inPlace := ["maps.clone"], unfollowed := true, recurses := true, apart := false, narrowed := true }
def MachineChangesUptoSaid : Prop := machineChangesUptoRow.holds Try.pinned (OpenSpec.upto machineChangesSpec)

/-- 'simulcastlaw06.MachineNew', WHERE WHAT IT READS IS OF BULK AT MOST 1048576: true; the input reads as it did. -/
def machineNewUptoRow : OpenClaim := { program := "ytfcjkchpldfamaa", sum := "3e9cfdac221720600497c27501819858a523f44e0a2bd2451798a39ef111ea1d", func := "simulcast/simulcastlaw06.MachineNew", spec := "machineNew", inPlace := ["maps.clone"], unfollowed := true, recurses := true, apart := false, narrowed := true }
def MachineNewUptoSaid : Prop := machineNewUptoRow.holds Try.pinned (OpenSpec.upto machineNewSpec)

/-- 'simulcastlaw06.MachineRefuses', WHERE WHAT IT READS IS OF BULK AT MOST 1048576: true; the input reads as it did. -/
def machineRefusesUptoRow : OpenClaim := { program := "ytfcjkchpldfamaa", sum := "3e9cfdac221720600497c27501819858a523f44e0a2bd2451798a39ef111ea1d", func := "simulcast/simulcastlaw06.MachineRefuses", spec := "machineRefuses", inPlace := ["maps.clone"], unfollowed := true, recurses := true, apart := false, narrowed := true }
def MachineRefusesUptoSaid : Prop := machineRefusesUptoRow.holds Try.pinned (OpenSpec.upto machineRefusesSpec)

/-- 'simulcastlaw06.MachineDoes', WHERE WHAT IT READS IS OF BULK AT MOST 1048576: true; the input reads as it did. -/
def machineDoesUptoRow : OpenClaim := { program := "ytfcjkchpldfamaa", sum := "3e9cfdac221720600497c27501819858a523f44e0a2bd2451798a39ef111ea1d", func := "simulcast/simulcastlaw06.MachineDoes", spec := "machineDoes", inPlace := ["maps.clone"], unfollowed := true, recurses := true, apart := false, narrowed := true }
def MachineDoesUptoSaid : Prop := machineDoesUptoRow.holds Try.pinned (OpenSpec.upto machineDoesSpec)

/-- 'simulcastlaw06.MachineKeeps', WHERE WHAT IT READS IS OF BULK AT MOST 1048576: true; the input reads as it did. -/
def machineKeepsUptoRow : OpenClaim := { program := "ytfcjkchpldfamaa", sum := "3e9cfdac221720600497c27501819858a523f44e0a2bd2451798a39ef111ea1d", func := "simulcast/simulcastlaw06.MachineKeeps", spec := "machineKeeps", inPlace := ["maps.clone"], unfollowed := true, recurses := true, apart := false, narrowed := true }
def MachineKeepsUptoSaid : Prop := machineKeepsUptoRow.holds Try.pinned (OpenSpec.upto machineKeepsSpec)

end Rows
end Go.Proofs.Ytfcjkchpldfamaa
