/-
  No cell of these rows narrows 'for every input' (looked for: loops, veiled, ifaces, maps, wideKeys, modest, calm, conditions, laid).
  DERIVED. THE GIVEN ROWS OF THIS SEAT. 12 by the template 'for every input the law returns true; each argument reads behind the call as it read before'; 0 by the template 'total and deterministic' (their statements: YtcbdgnjdpfgobaaTotals.lean).
  GIVEN WITH THE SEED: the statements are not yours to turn. If you find one false, say at which input.
  Laid BY PROGRAM, IN A SANDBOX (cutbox-rows.mjs): the forced cells as the released guide's own fill.sh prints them over the translation 792dd47a1e467661… (all of the seat's roots in one cut). By AI agents, Wed Nov 11 2026. No macro, syntax, notation, axiom, sorry.
-/
import Derived.Test.YtcbdgnjdpfgobaaChecked
import GoSem.Claim
import GoSem.ClaimJoined
import GoSem.ClaimMapViews
import Derived.JoinedTies
import Derived.KernelRfl
namespace Go.Proofs.Ytcbdgnjdpfgobaa
/- THE CELL 'sum', in the pinned program and in every row, IS THE sha256 OF THE DUMP (.gsa) THAT YtcbdgnjdpfgobaaProg.lean LOADS. Nothing in Lean hashes anything: it is a label: what it is worth is what the hold of that sum in a sandbox is worth. -/
noncomputable def Try.pinned : Pinned := { name := "ytcbdgnjdpfgobaa", sum := "792dd47a1e467661f3fc1a9ffb3419200bc68799eb887cb6440a9358fa8f45c3", checked := Try.checked }
namespace Rows
def none {H : Type} : Left H := { results := [], args := [] }

/-- 'simulcastlaw08.TaskMakes': WHATEVER THE INPUT: true; the input reads as it did. -/
def taskMakesSpec : ChangeSpec := { name := "taskMakes", fn := fun _ => fun
  | [d] => { results := [.lit (.bool true)], args := [d] }
  | _ => none }
def taskMakesRow : OpenClaim := { program := "ytcbdgnjdpfgobaa", sum := "792dd47a1e467661f3fc1a9ffb3419200bc68799eb887cb6440a9358fa8f45c3", func := "simulcast/simulcastlaw08.TaskMakes", spec := "taskMakes", inPlace := ["maps.clone"], unfollowed := true, recurses := true, apart := false }
def TaskMakesSaid : Prop := taskMakesRow.holds Try.pinned (OpenSpec.ofChange taskMakesSpec)

/-- ITS FALSE NEIGHBOUR: 'it returns false'. Refute it at one input. -/
def taskMakesWrong : ChangeSpec := { name := "taskMakes", fn := fun _ => fun
  | [d] => { results := [.lit (.bool false)], args := [d] }
  | _ => none }
def TaskMakesWrongFalsely : Prop := taskMakesRow.holds Try.pinned (OpenSpec.ofChange taskMakesWrong)

/-- 'simulcastlaw08.TaskGives': WHATEVER THE INPUT: true; the input reads as it did. -/
def taskGivesSpec : ChangeSpec := { name := "taskGives", fn := fun _ => fun
  | [d1, d2] => { results := [.lit (.bool true)], args := [d1, d2] }
  | _ => none }
def taskGivesRow : OpenClaim := { program := "ytcbdgnjdpfgobaa", sum := "792dd47a1e467661f3fc1a9ffb3419200bc68799eb887cb6440a9358fa8f45c3", func := "simulcast/simulcastlaw08.TaskGives", spec := "taskGives", inPlace := ["maps.clone"], unfollowed := true, recurses := true, apart := false }
def TaskGivesSaid : Prop := taskGivesRow.holds Try.pinned (OpenSpec.ofChange taskGivesSpec)

/-- ITS FALSE NEIGHBOUR: 'it returns false'. Refute it at one input. -/
def taskGivesWrong : ChangeSpec := { name := "taskGives", fn := fun _ => fun
  | [d1, d2] => { results := [.lit (.bool false)], args := [d1, d2] }
  | _ => none }
def TaskGivesWrongFalsely : Prop := taskGivesRow.holds Try.pinned (OpenSpec.ofChange taskGivesWrong)

/-- 'simulcastlaw08.TaskRuns': WHATEVER THE INPUT: true; the input reads as it did. -/
def taskRunsSpec : ChangeSpec := { name := "taskRuns", fn := fun _ => fun
  | [d1, d2, d3] => { results := [.lit (.bool true)], args := [d1, d2, d3] }
  | _ => none }
def taskRunsRow : OpenClaim := { program := "ytcbdgnjdpfgobaa", sum := "792dd47a1e467661f3fc1a9ffb3419200bc68799eb887cb6440a9358fa8f45c3", func := "simulcast/simulcastlaw08.TaskRuns", spec := "taskRuns", inPlace := ["maps.clone"], unfollowed := true, recurses := true, apart := false }
def TaskRunsSaid : Prop := taskRunsRow.holds Try.pinned (OpenSpec.ofChange taskRunsSpec)

/-- ITS FALSE NEIGHBOUR: 'it returns false'. Refute it at one input. -/
def taskRunsWrong : ChangeSpec := { name := "taskRuns", fn := fun _ => fun
  | [d1, d2, d3] => { results := [.lit (.bool false)], args := [d1, d2, d3] }
  | _ => none }
def TaskRunsWrongFalsely : Prop := taskRunsRow.holds Try.pinned (OpenSpec.ofChange taskRunsWrong)

/-- 'simulcastlaw08.TaskAlone': WHATEVER THE INPUT: true; the input reads as it did. -/
def taskAloneSpec : ChangeSpec := { name := "taskAlone", fn := fun _ => fun
  | [d1, d2, d3] => { results := [.lit (.bool true)], args := [d1, d2, d3] }
  | _ => none }
def taskAloneRow : OpenClaim := { program := "ytcbdgnjdpfgobaa", sum := "792dd47a1e467661f3fc1a9ffb3419200bc68799eb887cb6440a9358fa8f45c3", func := "simulcast/simulcastlaw08.TaskAlone", spec := "taskAlone", inPlace := ["maps.clone"], unfollowed := true, recurses := true, apart := false }
def TaskAloneSaid : Prop := taskAloneRow.holds Try.pinned (OpenSpec.ofChange taskAloneSpec)

/-- ITS FALSE NEIGHBOUR: 'it returns false'. Refute it at one input. -/
def taskAloneWrong : ChangeSpec := { name := "taskAlone", fn := fun _ => fun
  | [d1, d2, d3] => { results := [.lit (.bool false)], args := [d1, d2, d3] }
  | _ => none }
def TaskAloneWrongFalsely : Prop := taskAloneRow.holds Try.pinned (OpenSpec.ofChange taskAloneWrong)

/-- 'simulcastlaw08.TaskStops': WHATEVER THE INPUT: true; the input reads as it did. -/
def taskStopsSpec : ChangeSpec := { name := "taskStops", fn := fun _ => fun
  | [d1, d2, d3] => { results := [.lit (.bool true)], args := [d1, d2, d3] }
  | _ => none }
def taskStopsRow : OpenClaim := { program := "ytcbdgnjdpfgobaa", sum := "792dd47a1e467661f3fc1a9ffb3419200bc68799eb887cb6440a9358fa8f45c3", func := "simulcast/simulcastlaw08.TaskStops", spec := "taskStops", inPlace := ["maps.clone"], unfollowed := true, recurses := true, apart := false }
def TaskStopsSaid : Prop := taskStopsRow.holds Try.pinned (OpenSpec.ofChange taskStopsSpec)

/-- ITS FALSE NEIGHBOUR: 'it returns false'. Refute it at one input. -/
def taskStopsWrong : ChangeSpec := { name := "taskStops", fn := fun _ => fun
  | [d1, d2, d3] => { results := [.lit (.bool false)], args := [d1, d2, d3] }
  | _ => none }
def TaskStopsWrongFalsely : Prop := taskStopsRow.holds Try.pinned (OpenSpec.ofChange taskStopsWrong)

/-- 'simulcastlaw10.AtomActs': WHATEVER THE INPUT: true; the input reads as it did. -/
def atomActsSpec : ChangeSpec := { name := "atomActs", fn := fun _ => fun
  | [d] => { results := [.lit (.bool true)], args := [d] }
  | _ => none }
def atomActsRow : OpenClaim := { program := "ytcbdgnjdpfgobaa", sum := "792dd47a1e467661f3fc1a9ffb3419200bc68799eb887cb6440a9358fa8f45c3", func := "simulcast/simulcastlaw10.AtomActs", spec := "atomActs", inPlace := ["maps.clone"], unfollowed := true, recurses := true, apart := false }
def AtomActsSaid : Prop := atomActsRow.holds Try.pinned (OpenSpec.ofChange atomActsSpec)

/-- ITS FALSE NEIGHBOUR: 'it returns false'. Refute it at one input. -/
def atomActsWrong : ChangeSpec := { name := "atomActs", fn := fun _ => fun
  | [d] => { results := [.lit (.bool false)], args := [d] }
  | _ => none }
def AtomActsWrongFalsely : Prop := atomActsRow.holds Try.pinned (OpenSpec.ofChange atomActsWrong)

/-- 'simulcastlaw10.AtomDoes': WHATEVER THE INPUT: true; the input reads as it did. -/
def atomDoesSpec : ChangeSpec := { name := "atomDoes", fn := fun _ => fun
  | [d1, d2] => { results := [.lit (.bool true)], args := [d1, d2] }
  | _ => none }
def atomDoesRow : OpenClaim := { program := "ytcbdgnjdpfgobaa", sum := "792dd47a1e467661f3fc1a9ffb3419200bc68799eb887cb6440a9358fa8f45c3", func := "simulcast/simulcastlaw10.AtomDoes", spec := "atomDoes", inPlace := ["maps.clone"], unfollowed := true, recurses := true, apart := false }
def AtomDoesSaid : Prop := atomDoesRow.holds Try.pinned (OpenSpec.ofChange atomDoesSpec)

/-- ITS FALSE NEIGHBOUR: 'it returns false'. Refute it at one input. -/
def atomDoesWrong : ChangeSpec := { name := "atomDoes", fn := fun _ => fun
  | [d1, d2] => { results := [.lit (.bool false)], args := [d1, d2] }
  | _ => none }
def AtomDoesWrongFalsely : Prop := atomDoesRow.holds Try.pinned (OpenSpec.ofChange atomDoesWrong)

/-- 'simulcastlaw10.AtomOthers': WHATEVER THE INPUT: true; the input reads as it did. -/
def atomOthersSpec : ChangeSpec := { name := "atomOthers", fn := fun _ => fun
  | [d1, d2, d3] => { results := [.lit (.bool true)], args := [d1, d2, d3] }
  | _ => none }
def atomOthersRow : OpenClaim := { program := "ytcbdgnjdpfgobaa", sum := "792dd47a1e467661f3fc1a9ffb3419200bc68799eb887cb6440a9358fa8f45c3", func := "simulcast/simulcastlaw10.AtomOthers", spec := "atomOthers", inPlace := ["maps.clone"], unfollowed := true, recurses := true, apart := false }
def AtomOthersSaid : Prop := atomOthersRow.holds Try.pinned (OpenSpec.ofChange atomOthersSpec)

/-- ITS FALSE NEIGHBOUR: 'it returns false'. Refute it at one input. -/
def atomOthersWrong : ChangeSpec := { name := "atomOthers", fn := fun _ => fun
  | [d1, d2, d3] => { results := [.lit (.bool false)], args := [d1, d2, d3] }
  | _ => none }
def AtomOthersWrongFalsely : Prop := atomOthersRow.holds Try.pinned (OpenSpec.ofChange atomOthersWrong)

/-- 'simulcastlaw10.AtomRuns': WHATEVER THE INPUT: true; the input reads as it did. -/
def atomRunsSpec : ChangeSpec := { name := "atomRuns", fn := fun _ => fun
  | [d] => { results := [.lit (.bool true)], args := [d] }
  | _ => none }
def atomRunsRow : OpenClaim := { program := "ytcbdgnjdpfgobaa", sum := "792dd47a1e467661f3fc1a9ffb3419200bc68799eb887cb6440a9358fa8f45c3", func := "simulcast/simulcastlaw10.AtomRuns", spec := "atomRuns", inPlace := ["maps.clone"], unfollowed := true, recurses := true, apart := false }
def AtomRunsSaid : Prop := atomRunsRow.holds Try.pinned (OpenSpec.ofChange atomRunsSpec)

/-- ITS FALSE NEIGHBOUR: 'it returns false'. Refute it at one input. -/
def atomRunsWrong : ChangeSpec := { name := "atomRuns", fn := fun _ => fun
  | [d] => { results := [.lit (.bool false)], args := [d] }
  | _ => none }
def AtomRunsWrongFalsely : Prop := atomRunsRow.holds Try.pinned (OpenSpec.ofChange atomRunsWrong)

/-- 'simulcastlaw10.AtomSums': WHATEVER THE INPUT: true; the input reads as it did. -/
def atomSumsSpec : ChangeSpec := { name := "atomSums", fn := fun _ => fun
  | [d1, d2, d3] => { results := [.lit (.bool true)], args := [d1, d2, d3] }
  | _ => none }
def atomSumsRow : OpenClaim := { program := "ytcbdgnjdpfgobaa", sum := "792dd47a1e467661f3fc1a9ffb3419200bc68799eb887cb6440a9358fa8f45c3", func := "simulcast/simulcastlaw10.AtomSums", spec := "atomSums", inPlace := ["maps.clone"], unfollowed := true, recurses := true, apart := false }
def AtomSumsSaid : Prop := atomSumsRow.holds Try.pinned (OpenSpec.ofChange atomSumsSpec)

/-- ITS FALSE NEIGHBOUR: 'it returns false'. Refute it at one input. -/
def atomSumsWrong : ChangeSpec := { name := "atomSums", fn := fun _ => fun
  | [d1, d2, d3] => { results := [.lit (.bool false)], args := [d1, d2, d3] }
  | _ => none }
def AtomSumsWrongFalsely : Prop := atomSumsRow.holds Try.pinned (OpenSpec.ofChange atomSumsWrong)

/-- 'simulcastlaw10.AtomClaims': WHATEVER THE INPUT: true; the input reads as it did. -/
def atomClaimsSpec : ChangeSpec := { name := "atomClaims", fn := fun _ => fun
  | [d1, d2, d3] => { results := [.lit (.bool true)], args := [d1, d2, d3] }
  | _ => none }
def atomClaimsRow : OpenClaim := { program := "ytcbdgnjdpfgobaa", sum := "792dd47a1e467661f3fc1a9ffb3419200bc68799eb887cb6440a9358fa8f45c3", func := "simulcast/simulcastlaw10.AtomClaims", spec := "atomClaims", inPlace := ["maps.clone"], unfollowed := true, recurses := true, apart := false }
def AtomClaimsSaid : Prop := atomClaimsRow.holds Try.pinned (OpenSpec.ofChange atomClaimsSpec)

/-- ITS FALSE NEIGHBOUR: 'it returns false'. Refute it at one input. -/
def atomClaimsWrong : ChangeSpec := { name := "atomClaims", fn := fun _ => fun
  | [d1, d2, d3] => { results := [.lit (.bool false)], args := [d1, d2, d3] }
  | _ => none }
def AtomClaimsWrongFalsely : Prop := atomClaimsRow.holds Try.pinned (OpenSpec.ofChange atomClaimsWrong)

/-- 'simulcastlaw10.AtomTries': WHATEVER THE INPUT: true; the input reads as it did. -/
def atomTriesSpec : ChangeSpec := { name := "atomTries", fn := fun _ => fun
  | [d] => { results := [.lit (.bool true)], args := [d] }
  | _ => none }
def atomTriesRow : OpenClaim := { program := "ytcbdgnjdpfgobaa", sum := "792dd47a1e467661f3fc1a9ffb3419200bc68799eb887cb6440a9358fa8f45c3", func := "simulcast/simulcastlaw10.AtomTries", spec := "atomTries", inPlace := ["maps.clone"], unfollowed := true, recurses := true, apart := false }
def AtomTriesSaid : Prop := atomTriesRow.holds Try.pinned (OpenSpec.ofChange atomTriesSpec)

/-- ITS FALSE NEIGHBOUR: 'it returns false'. Refute it at one input. -/
def atomTriesWrong : ChangeSpec := { name := "atomTries", fn := fun _ => fun
  | [d] => { results := [.lit (.bool false)], args := [d] }
  | _ => none }
def AtomTriesWrongFalsely : Prop := atomTriesRow.holds Try.pinned (OpenSpec.ofChange atomTriesWrong)

/- THE SECOND FORM. 'bulk': how many values and letters a reading holds, each counted each time it is reached (what is shared counts as often as it is met; a slice's spare places count too). A statement '..UptoSaid' is the law's where the arguments, and the package variables that the reading takes, are together of bulk at most 1048576: NARROWER than '..Said'. Prove '..Said' where nothing that the law and all that it calls make is longer than what came in: it says more and counts as full. Else prove '..UptoSaid'. A law counts once. -/
mutual
def uptoBulk {H : Type} : DataW H → Nat
  | .lit (.string bytes) => bytes.length + 1
  | .lit _ => 1
  | .nil => 1
  | .ptr d => uptoBulk d + 1
  | .slice elems spare => uptoBulkAll elems + uptoBulkAll spare + 1
  | .agg parts => uptoBulkAll parts + 1
  | .iface _ d => uptoBulk d + 1
  | .map entries => uptoBulkEntries entries + 1
  | .held _ => 1
def uptoBulkAll {H : Type} : List (DataW H) → Nat
  | [] => 0
  | d :: r => uptoBulk d + uptoBulkAll r
def uptoBulkEntries {H : Type} : List (Lit × DataW H) → Nat
  | [] => 0
  | x :: r => uptoBulkEntry x + uptoBulkEntries r
def uptoBulkEntry {H : Type} : Lit × DataW H → Nat
  | (.string bytes, d) => bytes.length + uptoBulk d + 1
  | (_, d) => uptoBulk d + 1
 end
def uptoSmall : (H : Type) → List (DataW H) → Bool := fun _ ds => decide (uptoBulkAll ds ≤ 1048576)
def OpenSpec.upto (s : _root_.Go.ChangeSpec) : _root_.Go.OpenSpec := { _root_.Go.OpenSpec.ofChange s with cond := some uptoSmall }

/-- 'simulcastlaw08.TaskMakes', WHERE WHAT IT READS IS OF BULK AT MOST 1048576: true; the input reads as it did. -/
def taskMakesUptoRow : OpenClaim := { program := "ytcbdgnjdpfgobaa", sum := "792dd47a1e467661f3fc1a9ffb3419200bc68799eb887cb6440a9358fa8f45c3", func := "simulcast/simulcastlaw08.TaskMakes", spec := "taskMakes", inPlace := ["maps.clone"], unfollowed := true, recurses := true, apart := false, narrowed := true }
def TaskMakesUptoSaid : Prop := taskMakesUptoRow.holds Try.pinned (OpenSpec.upto taskMakesSpec)

/-- 'simulcastlaw08.TaskGives', WHERE WHAT IT READS IS OF BULK AT MOST 1048576: true; the input reads as it did. -/
def taskGivesUptoRow : OpenClaim := { program := "ytcbdgnjdpfgobaa", sum := "792dd47a1e467661f3fc1a9ffb3419200bc68799eb887cb6440a9358fa8f45c3", func := "simulcast/simulcastlaw08.TaskGives", spec := "taskGives", inPlace := ["maps.clone"], unfollowed := true, recurses := true, apart := false, narrowed := true }
def TaskGivesUptoSaid : Prop := taskGivesUptoRow.holds Try.pinned (OpenSpec.upto taskGivesSpec)

/-- 'simulcastlaw08.TaskRuns', WHERE WHAT IT READS IS OF BULK AT MOST 1048576: true; the input reads as it did. -/
def taskRunsUptoRow : OpenClaim := { program := "ytcbdgnjdpfgobaa", sum := "792dd47a1e467661f3fc1a9ffb3419200bc68799eb887cb6440a9358fa8f45c3", func := "simulcast/simulcastlaw08.TaskRuns", spec := "taskRuns", inPlace := ["maps.clone"], unfollowed := true, recurses := true, apart := false, narrowed := true }
def TaskRunsUptoSaid : Prop := taskRunsUptoRow.holds Try.pinned (OpenSpec.upto taskRunsSpec)

/-- 'simulcastlaw08.TaskAlone', WHERE WHAT IT READS IS OF BULK AT MOST 1048576: true; the input reads as it did. -/
def taskAloneUptoRow : OpenClaim := { program := "ytcbdgnjdpfgobaa", sum := "792dd47a1e467661f3fc1a9ffb3419200bc68799eb887cb6440a9358fa8f45c3", func := "simulcast/simulcastlaw08.TaskAlone", spec := "taskAlone", inPlace := ["maps.clone"], unfollowed := true, recurses := true, apart := false, narrowed := true }
def TaskAloneUptoSaid : Prop := taskAloneUptoRow.holds Try.pinned (OpenSpec.upto taskAloneSpec)

/-- 'simulcastlaw08.TaskStops', WHERE WHAT IT READS IS OF BULK AT MOST 1048576: true; the input reads as it did. -/
def taskStopsUptoRow : OpenClaim := { program := "ytcbdgnjdpfgobaa", sum := "792dd47a1e467661f3fc1a9ffb3419200bc68799eb887cb6440a9358fa8f45c3", func := "simulcast/simulcastlaw08.TaskStops", spec := "taskStops", inPlace := ["maps.clone"], unfollowed := true, recurses := true, apart := false, narrowed := true }
def TaskStopsUptoSaid : Prop := taskStopsUptoRow.holds Try.pinned (OpenSpec.upto taskStopsSpec)

/-- 'simulcastlaw10.AtomActs', WHERE WHAT IT READS IS OF BULK AT MOST 1048576: true; the input reads as it did. -/
def atomActsUptoRow : OpenClaim := { program := "ytcbdgnjdpfgobaa", sum := "792dd47a1e467661f3fc1a9ffb3419200bc68799eb887cb6440a9358fa8f45c3", func := "simulcast/simulcastlaw10.AtomActs", spec := "atomActs", inPlace := ["maps.clone"], unfollowed := true, recurses := true, apart := false, narrowed := true }
def AtomActsUptoSaid : Prop := atomActsUptoRow.holds Try.pinned (OpenSpec.upto atomActsSpec)

/-- 'simulcastlaw10.AtomDoes', WHERE WHAT IT READS IS OF BULK AT MOST 1048576: true; the input reads as it did. -/
def atomDoesUptoRow : OpenClaim := { program := "ytcbdgnjdpfgobaa", sum := "792dd47a1e467661f3fc1a9ffb3419200bc68799eb887cb6440a9358fa8f45c3", func := "simulcast/simulcastlaw10.AtomDoes", spec := "atomDoes", inPlace := ["maps.clone"], unfollowed := true, recurses := true, apart := false, narrowed := true }
def AtomDoesUptoSaid : Prop := atomDoesUptoRow.holds Try.pinned (OpenSpec.upto atomDoesSpec)

/-- 'simulcastlaw10.AtomOthers', WHERE WHAT IT READS IS OF BULK AT MOST 1048576: true; the input reads as it did. -/
def atomOthersUptoRow : OpenClaim := { program := "ytcbdgnjdpfgobaa", sum := "792dd47a1e467661f3fc1a9ffb3419200bc68799eb887cb6440a9358fa8f45c3", func := "simulcast/simulcastlaw10.AtomOthers", spec := "atomOthers", inPlace := ["maps.clone"], unfollowed := true, recurses := true, apart := false, narrowed := true }
def AtomOthersUptoSaid : Prop := atomOthersUptoRow.holds Try.pinned (OpenSpec.upto atomOthersSpec)

/-- 'simulcastlaw10.AtomRuns', WHERE WHAT IT READS IS OF BULK AT MOST 1048576: true; the input reads as it did. -/
def atomRunsUptoRow : OpenClaim := { program := "ytcbdgnjdpfgobaa", sum := "792dd47a1e467661f3fc1a9ffb3419200bc68799eb887cb6440a9358fa8f45c3", func := "simulcast/simulcastlaw10.AtomRuns", spec := "atomRuns", inPlace := ["maps.clone"], unfollowed := true, recurses := true, apart := false, narrowed := true }
def AtomRunsUptoSaid : Prop := atomRunsUptoRow.holds Try.pinned (OpenSpec.upto atomRunsSpec)

/-- 'simulcastlaw10.AtomSums', WHERE WHAT IT READS IS OF BULK AT MOST 1048576: true; the input reads as it did. -/
def atomSumsUptoRow : OpenClaim := { program := "ytcbdgnjdpfgobaa", sum := "792dd47a1e467661f3fc1a9ffb3419200bc68799eb887cb6440a9358fa8f45c3", func := "simulcast/simulcastlaw10.AtomSums", spec := "atomSums", inPlace := ["maps.clone"], unfollowed := true, recurses := true, apart := false, narrowed := true }
def AtomSumsUptoSaid : Prop := atomSumsUptoRow.holds Try.pinned (OpenSpec.upto atomSumsSpec)

/-- 'simulcastlaw10.AtomClaims', WHERE WHAT IT READS IS OF BULK AT MOST 1048576: true; the input reads as it did. -/
def atomClaimsUptoRow : OpenClaim := { program := "ytcbdgnjdpfgobaa", sum := "792dd47a1e467661f3fc1a9ffb3419200bc68799eb887cb6440a9358fa8f45c3", func := "simulcast/simulcastlaw10.AtomClaims", spec := "atomClaims", inPlace := ["maps.clone"], unfollowed := true, recurses := true, apart := false, narrowed := true }
def AtomClaimsUptoSaid : Prop := atomClaimsUptoRow.holds Try.pinned (OpenSpec.upto atomClaimsSpec)

/-- 'simulcastlaw10.AtomTries', WHERE WHAT IT READS IS OF BULK AT MOST 1048576: true; the input reads as it did. -/
def atomTriesUptoRow : OpenClaim := { program := "ytcbdgnjdpfgobaa", sum := "792dd47a1e467661f3fc1a9ffb3419200bc68799eb887cb6440a9358fa8f45c3", func := "simulcast/simulcastlaw10.AtomTries", spec := "atomTries", inPlace := ["maps.clone"], unfollowed := true, recurses := true, apart := false, narrowed := true }
def AtomTriesUptoSaid : Prop := atomTriesUptoRow.holds Try.pinned (OpenSpec.upto atomTriesSpec)

end Rows
end Go.Proofs.Ytcbdgnjdpfgobaa
