/-
  NARROWER THAN 'FOR EVERY INPUT', by the rows' own cells (each row's printed sentence says how): ArenaAlone: laid · ArenaApart: laid · ArenaStops: laid · ArenaMarks: laid · ArenaFills: laid.
  DERIVED. THE GIVEN ROWS OF THIS SEAT. 5 by the template 'for every input the law returns true; each argument reads behind the call as it read before'; 0 by the template 'total and deterministic' (their statements: YtkmbcjnaaokilaaGreatDoorTotals.lean).
  GIVEN WITH THE SEED: the statements are not yours to turn. If you find one false, say at which input.
  Laid BY PROGRAM, IN A SANDBOX (cutbox-rows.mjs): the forced cells as the released guide's own fill.sh prints them over the translation 8c5f261b942adbfd… (all of the seat's roots in one cut). By AI agents, Wed Nov 11 2026. No macro, syntax, notation, axiom, sorry.
-/
import Derived.Test.YtkmbcjnaaokilaaGreatDoorChecked
import GoSem.Claim
import GoSem.ClaimJoined
import GoSem.ClaimMapViews
import Derived.JoinedTies
import Derived.KernelRfl
namespace Go.Proofs.YtkmbcjnaaokilaaGreatDoor
/- THE CELL 'sum', in the pinned program and in every row, IS THE sha256 OF THE DUMP (.gsa) THAT YtkmbcjnaaokilaaGreatDoorProg.lean LOADS. Nothing in Lean hashes anything: it is a label: what it is worth is what the hold of that sum in a sandbox is worth. -/
noncomputable def Tryz.pinned : Pinned := { name := "ytkmbcjnaaokilaagreatdoor", sum := "8c5f261b942adbfdf61be6b75f5290a036b296a9fa9e5cb8ad898f3bf816d8fd", checked := Tryz.checked }
namespace Rows
def none {H : Type} : Left H := { results := [], args := [] }

/- WHAT THE LISTED PACKAGE-LEVEL VARIABLES READ AS WHEN THE CALL BEGINS. Each datum BY PROGRAM (the guide's laid-datum.mjs) off the statement by which the dump's own 'gosem.cut.vars' lays the variable. In a bare row this is a premise. The card (YtkmbcjnaaokilaaGreatDoorCards.lean) ties it to the program's text. -/
def laid_simulcast_layout_sizes {H : Type} : DataW H := .agg [.lit (.int .i64 8), .lit (.int .i64 8), .lit (.int .i64 8), .lit (.int .i64 1), .lit (.int .i64 104), .lit (.int .i64 0), .lit (.int .i64 32)]

/-- 'simulcastlaw12.ArenaAlone': WHATEVER THE INPUT: true; the input reads as it did. -/
def arenaAloneSpec : ChangeSpec := { name := "arenaAlone", fn := fun _ => fun
  | [d1, d2] => { results := [.lit (.bool true)], args := [d1, d2] }
  | _ => none }
def arenaAloneRow : OpenClaim := { program := "ytkmbcjnaaokilaagreatdoor", sum := "8c5f261b942adbfdf61be6b75f5290a036b296a9fa9e5cb8ad898f3bf816d8fd", func := "simulcast/simulcastlaw12.ArenaAlone", spec := "arenaAlone", inPlace := ["maps.clone"], unfollowed := true, recurses := true, named := ["simulcast/layout.sizes"], apart := false, laid := [("simulcast/layout.sizes", laid_simulcast_layout_sizes)] }
def ArenaAloneSaid : Prop := arenaAloneRow.holds Tryz.pinned (OpenSpec.ofChange arenaAloneSpec)

/-- ITS FALSE NEIGHBOUR: 'it returns false'. Refute it at one input. -/
def arenaAloneWrong : ChangeSpec := { name := "arenaAlone", fn := fun _ => fun
  | [d1, d2] => { results := [.lit (.bool false)], args := [d1, d2] }
  | _ => none }
def ArenaAloneWrongFalsely : Prop := arenaAloneRow.holds Tryz.pinned (OpenSpec.ofChange arenaAloneWrong)

/-- 'simulcastlaw12.ArenaApart': WHATEVER THE INPUT: true; the input reads as it did. -/
def arenaApartSpec : ChangeSpec := { name := "arenaApart", fn := fun _ => fun
  | [d1, d2, d3] => { results := [.lit (.bool true)], args := [d1, d2, d3] }
  | _ => none }
def arenaApartRow : OpenClaim := { program := "ytkmbcjnaaokilaagreatdoor", sum := "8c5f261b942adbfdf61be6b75f5290a036b296a9fa9e5cb8ad898f3bf816d8fd", func := "simulcast/simulcastlaw12.ArenaApart", spec := "arenaApart", inPlace := ["maps.clone"], unfollowed := true, recurses := true, named := ["simulcast/layout.sizes"], apart := false, laid := [("simulcast/layout.sizes", laid_simulcast_layout_sizes)] }
def ArenaApartSaid : Prop := arenaApartRow.holds Tryz.pinned (OpenSpec.ofChange arenaApartSpec)

/-- ITS FALSE NEIGHBOUR: 'it returns false'. Refute it at one input. -/
def arenaApartWrong : ChangeSpec := { name := "arenaApart", fn := fun _ => fun
  | [d1, d2, d3] => { results := [.lit (.bool false)], args := [d1, d2, d3] }
  | _ => none }
def ArenaApartWrongFalsely : Prop := arenaApartRow.holds Tryz.pinned (OpenSpec.ofChange arenaApartWrong)

/-- 'simulcastlaw12.ArenaStops': WHATEVER THE INPUT: true; the input reads as it did. -/
def arenaStopsSpec : ChangeSpec := { name := "arenaStops", fn := fun _ => fun
  | [d1, d2, d3] => { results := [.lit (.bool true)], args := [d1, d2, d3] }
  | _ => none }
def arenaStopsRow : OpenClaim := { program := "ytkmbcjnaaokilaagreatdoor", sum := "8c5f261b942adbfdf61be6b75f5290a036b296a9fa9e5cb8ad898f3bf816d8fd", func := "simulcast/simulcastlaw12.ArenaStops", spec := "arenaStops", inPlace := ["maps.clone"], unfollowed := true, recurses := true, named := ["simulcast/layout.sizes"], apart := false, laid := [("simulcast/layout.sizes", laid_simulcast_layout_sizes)] }
def ArenaStopsSaid : Prop := arenaStopsRow.holds Tryz.pinned (OpenSpec.ofChange arenaStopsSpec)

/-- ITS FALSE NEIGHBOUR: 'it returns false'. Refute it at one input. -/
def arenaStopsWrong : ChangeSpec := { name := "arenaStops", fn := fun _ => fun
  | [d1, d2, d3] => { results := [.lit (.bool false)], args := [d1, d2, d3] }
  | _ => none }
def ArenaStopsWrongFalsely : Prop := arenaStopsRow.holds Tryz.pinned (OpenSpec.ofChange arenaStopsWrong)

/-- 'simulcastlaw12.ArenaMarks': WHATEVER THE INPUT: true; the input reads as it did. -/
def arenaMarksSpec : ChangeSpec := { name := "arenaMarks", fn := fun _ => fun
  | [d1, d2, d3] => { results := [.lit (.bool true)], args := [d1, d2, d3] }
  | _ => none }
def arenaMarksRow : OpenClaim := { program := "ytkmbcjnaaokilaagreatdoor", sum := "8c5f261b942adbfdf61be6b75f5290a036b296a9fa9e5cb8ad898f3bf816d8fd", func := "simulcast/simulcastlaw12.ArenaMarks", spec := "arenaMarks", inPlace := ["maps.clone"], unfollowed := true, recurses := true, named := ["simulcast/layout.sizes"], apart := false, laid := [("simulcast/layout.sizes", laid_simulcast_layout_sizes)] }
def ArenaMarksSaid : Prop := arenaMarksRow.holds Tryz.pinned (OpenSpec.ofChange arenaMarksSpec)

/-- ITS FALSE NEIGHBOUR: 'it returns false'. Refute it at one input. -/
def arenaMarksWrong : ChangeSpec := { name := "arenaMarks", fn := fun _ => fun
  | [d1, d2, d3] => { results := [.lit (.bool false)], args := [d1, d2, d3] }
  | _ => none }
def ArenaMarksWrongFalsely : Prop := arenaMarksRow.holds Tryz.pinned (OpenSpec.ofChange arenaMarksWrong)

/-- 'simulcastlaw12.ArenaFills': WHATEVER THE INPUT: true; the input reads as it did. -/
def arenaFillsSpec : ChangeSpec := { name := "arenaFills", fn := fun _ => fun
  | [d1, d2, d3] => { results := [.lit (.bool true)], args := [d1, d2, d3] }
  | _ => none }
def arenaFillsRow : OpenClaim := { program := "ytkmbcjnaaokilaagreatdoor", sum := "8c5f261b942adbfdf61be6b75f5290a036b296a9fa9e5cb8ad898f3bf816d8fd", func := "simulcast/simulcastlaw12.ArenaFills", spec := "arenaFills", inPlace := ["maps.clone"], unfollowed := true, recurses := true, named := ["simulcast/layout.sizes"], apart := false, laid := [("simulcast/layout.sizes", laid_simulcast_layout_sizes)] }
def ArenaFillsSaid : Prop := arenaFillsRow.holds Tryz.pinned (OpenSpec.ofChange arenaFillsSpec)

/-- ITS FALSE NEIGHBOUR: 'it returns false'. Refute it at one input. -/
def arenaFillsWrong : ChangeSpec := { name := "arenaFills", fn := fun _ => fun
  | [d1, d2, d3] => { results := [.lit (.bool false)], args := [d1, d2, d3] }
  | _ => none }
def ArenaFillsWrongFalsely : Prop := arenaFillsRow.holds Tryz.pinned (OpenSpec.ofChange arenaFillsWrong)

/- THE SECOND FORM. 'bulk': how many values and letters a reading holds, each counted each time it is reached (what is shared counts as often as it is met; a slice's spare places count too). A statement '..UptoSaid' is the law's where the arguments, and the package variables that the reading takes, are together of bulk at most 1048576: NARROWER than '..Said'. Prove '..Said' where nothing that the law and all that it calls make is longer than what came in: it says more and counts as full. Else prove '..UptoSaid'. A law counts once. -/
mutual
def uptoBulk {H : Type} : DataW H → Nat
  | .lit (.string bytes) => bytes.length + 1
  | .lit _ => 1
  | .nil => 1
  | .ptr d => uptoBulk d + 1
  | .slice elems spare => uptoBulkAll elems + uptoBulkAll spare + 1
  | .agg parts => uptoBulkAll parts + 1
  | .iface _ d => uptoBulk d + 1
  | .map entries => uptoBulkEntries entries + 1
  | .held _ => 1
def uptoBulkAll {H : Type} : List (DataW H) → Nat
  | [] => 0
  | d :: r => uptoBulk d + uptoBulkAll r
def uptoBulkEntries {H : Type} : List (Lit × DataW H) → Nat
  | [] => 0
  | x :: r => uptoBulkEntry x + uptoBulkEntries r
def uptoBulkEntry {H : Type} : Lit × DataW H → Nat
  | (.string bytes, d) => bytes.length + uptoBulk d + 1
  | (_, d) => uptoBulk d + 1
 end
def uptoSmall : (H : Type) → List (DataW H) → Bool := fun _ ds => decide (uptoBulkAll ds ≤ 1048576)
def OpenSpec.upto (s : _root_.Go.ChangeSpec) : _root_.Go.OpenSpec := { _root_.Go.OpenSpec.ofChange s with cond := some uptoSmall }

/-- 'simulcastlaw12.ArenaAlone', WHERE WHAT IT READS IS OF BULK AT MOST 1048576: true; the input reads as it did. -/
def arenaAloneUptoRow : OpenClaim := { program := "ytkmbcjnaaokilaagreatdoor", sum := "8c5f261b942adbfdf61be6b75f5290a036b296a9fa9e5cb8ad898f3bf816d8fd", func := "simulcast/simulcastlaw12.ArenaAlone", spec := "arenaAlone", inPlace := ["maps.clone"], unfollowed := true, recurses := true, named := ["simulcast/layout.sizes"], apart := false, laid := [("simulcast/layout.sizes", laid_simulcast_layout_sizes)], narrowed := true }
def ArenaAloneUptoSaid : Prop := arenaAloneUptoRow.holds Tryz.pinned (OpenSpec.upto arenaAloneSpec)

/-- 'simulcastlaw12.ArenaApart', WHERE WHAT IT READS IS OF BULK AT MOST 1048576: true; the input reads as it did. -/
def arenaApartUptoRow : OpenClaim := { program := "ytkmbcjnaaokilaagreatdoor", sum := "8c5f261b942adbfdf61be6b75f5290a036b296a9fa9e5cb8ad898f3bf816d8fd", func := "simulcast/simulcastlaw12.ArenaApart", spec := "arenaApart", inPlace := ["maps.clone"], unfollowed := true, recurses := true, named := ["simulcast/layout.sizes"], apart := false, laid := [("simulcast/layout.sizes", laid_simulcast_layout_sizes)], narrowed := true }
def ArenaApartUptoSaid : Prop := arenaApartUptoRow.holds Tryz.pinned (OpenSpec.upto arenaApartSpec)

/-- 'simulcastlaw12.ArenaStops', WHERE WHAT IT READS IS OF BULK AT MOST 1048576: true; the input reads as it did. -/
def arenaStopsUptoRow : OpenClaim := { program := "ytkmbcjnaaokilaagreatdoor", sum := "8c5f261b942adbfdf61be6b75f5290a036b296a9fa9e5cb8ad898f3bf816d8fd", func := "simulcast/simulcastlaw12.ArenaStops", spec := "arenaStops", inPlace := ["maps.clone"], unfollowed := true, recurses := true, named := ["simulcast/layout.sizes"], apart := false, laid := [("simulcast/layout.sizes", laid_simulcast_layout_sizes)], narrowed := true }
def ArenaStopsUptoSaid : Prop := arenaStopsUptoRow.holds Tryz.pinned (OpenSpec.upto arenaStopsSpec)

/-- 'simulcastlaw12.ArenaMarks', WHERE WHAT IT READS IS OF BULK AT MOST 1048576: true; the input reads as it did. -/
def arenaMarksUptoRow : OpenClaim := { program := "ytkmbcjnaaokilaagreatdoor", sum := "8c5f261b942adbfdf61be6b75f5290a036b296a9fa9e5cb8ad898f3bf816d8fd", func := "simulcast/simulcastlaw12.ArenaMarks", spec := "arenaMarks", inPlace := ["maps.clone"], unfollowed := true, recurses := true, named := ["simulcast/layout.sizes"], apart := false, laid := [("simulcast/layout.sizes", laid_simulcast_layout_sizes)], narrowed := true }
def ArenaMarksUptoSaid : Prop := arenaMarksUptoRow.holds Tryz.pinned (OpenSpec.upto arenaMarksSpec)

/-- 'simulcastlaw12.ArenaFills', WHERE WHAT IT READS IS OF BULK AT MOST 1048576: true; the input reads as it did. -/
def arenaFillsUptoRow : OpenClaim := { program := "ytkmbcjnaaokilaagreatdoor", sum := "8c5f261b942adbfdf61be6b75f5290a036b296a9fa9e5cb8ad898f3bf816d8fd", func := "simulcast/simulcastlaw12.ArenaFills", spec := "arenaFills", inPlace := ["maps.clone"], unfollowed := true, recurses := true, named := ["simulcast/layout.sizes"], apart := false, laid := [("simulcast/layout.sizes", laid_simulcast_layout_sizes)], narrowed := true }
def ArenaFillsUptoSaid : Prop := arenaFillsUptoRow.holds Tryz.pinned (OpenSpec.upto arenaFillsSpec)

end Rows
end Go.Proofs.YtkmbcjnaaokilaaGreatDoor
