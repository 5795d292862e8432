/-
  No cell of these rows narrows 'for every input' (looked for: loops, veiled, ifaces, maps, wideKeys, modest, calm, conditions, laid).
  DERIVED. THE GIVEN ROWS OF THIS SEAT. 9 by the template 'for every input the law returns true; each argument reads behind the call as it read before'; 0 by the template 'total and deterministic' (their statements: YtlbhfpcbbembgaaTotals.lean).
  GIVEN WITH THE SEED: the statements are not yours to turn. If you find one false, say at which input.
  Laid BY PROGRAM, IN A SANDBOX (cutbox-rows.mjs): the forced cells as the released guide's own fill.sh prints them over the translation 42e7485e0a0c1ed1… (all of the seat's roots in one cut). By AI agents, Wed Nov 11 2026. No macro, syntax, notation, axiom, sorry.
-/
import Derived.Test.YtlbhfpcbbembgaaChecked
import GoSem.Claim
import GoSem.ClaimJoined
import GoSem.ClaimMapViews
import Derived.JoinedTies
import Derived.KernelRfl
namespace Go.Proofs.Ytlbhfpcbbembgaa
/- THE CELL 'sum', in the pinned program and in every row, IS THE sha256 OF THE DUMP (.gsa) THAT YtlbhfpcbbembgaaProg.lean LOADS. Nothing in Lean hashes anything: it is a label: what it is worth is what the hold of that sum in a sandbox is worth. -/
noncomputable def Try.pinned : Pinned := { name := "ytlbhfpcbbembgaa", sum := "42e7485e0a0c1ed1511a18a3ea050bfeb64cdb535bb8c5b2d313083400bf52ac", checked := Try.checked }
namespace Rows
def none {H : Type} : Left H := { results := [], args := [] }

/-- 'simulcastlaw03.HistoryChooses': WHATEVER THE INPUT: true; the input reads as it did. -/
def historyChoosesSpec : ChangeSpec := { name := "historyChooses", fn := fun _ => fun
  | [d1, d2, d3] => { results := [.lit (.bool true)], args := [d1, d2, d3] }
  | _ => none }
def historyChoosesRow : OpenClaim := { program := "ytlbhfpcbbembgaa", sum := "42e7485e0a0c1ed1511a18a3ea050bfeb64cdb535bb8c5b2d313083400bf52ac", func := "simulcast/simulcastlaw03.HistoryChooses", spec := "historyChooses", inPlace := ["maps.clone"], apart := false }
def HistoryChoosesSaid : Prop := historyChoosesRow.holds Try.pinned (OpenSpec.ofChange historyChoosesSpec)

/-- ITS FALSE NEIGHBOUR: 'it returns false'. Refute it at one input. -/
def historyChoosesWrong : ChangeSpec := { name := "historyChooses", fn := fun _ => fun
  | [d1, d2, d3] => { results := [.lit (.bool false)], args := [d1, d2, d3] }
  | _ => none }
def HistoryChoosesWrongFalsely : Prop := historyChoosesRow.holds Try.pinned (OpenSpec.ofChange historyChoosesWrong)

/-- 'simulcastlaw03.HistoryReaches': WHATEVER THE INPUT: true; the input reads as it did. -/
def historyReachesSpec : ChangeSpec := { name := "historyReaches", fn := fun _ => fun
  | [d1, d2, d3] => { results := [.lit (.bool true)], args := [d1, d2, d3] }
  | _ => none }
def historyReachesRow : OpenClaim := { program := "ytlbhfpcbbembgaa", sum := "42e7485e0a0c1ed1511a18a3ea050bfeb64cdb535bb8c5b2d313083400bf52ac", func := "simulcast/simulcastlaw03.HistoryReaches", spec := "historyReaches", inPlace := ["maps.clone"], apart := false }
def HistoryReachesSaid : Prop := historyReachesRow.holds Try.pinned (OpenSpec.ofChange historyReachesSpec)

/-- ITS FALSE NEIGHBOUR: 'it returns false'. Refute it at one input. -/
def historyReachesWrong : ChangeSpec := { name := "historyReaches", fn := fun _ => fun
  | [d1, d2, d3] => { results := [.lit (.bool false)], args := [d1, d2, d3] }
  | _ => none }
def HistoryReachesWrongFalsely : Prop := historyReachesRow.holds Try.pinned (OpenSpec.ofChange historyReachesWrong)

/-- 'simulcastlaw03.HistoryShifts': WHATEVER THE INPUT: true; the input reads as it did. -/
def historyShiftsSpec : ChangeSpec := { name := "historyShifts", fn := fun _ => fun
  | [d1, d2, d3] => { results := [.lit (.bool true)], args := [d1, d2, d3] }
  | _ => none }
def historyShiftsRow : OpenClaim := { program := "ytlbhfpcbbembgaa", sum := "42e7485e0a0c1ed1511a18a3ea050bfeb64cdb535bb8c5b2d313083400bf52ac", func := "simulcast/simulcastlaw03.HistoryShifts", spec := "historyShifts", inPlace := ["maps.clone"], apart := false }
def HistoryShiftsSaid : Prop := historyShiftsRow.holds Try.pinned (OpenSpec.ofChange historyShiftsSpec)

/-- ITS FALSE NEIGHBOUR: 'it returns false'. Refute it at one input. -/
def historyShiftsWrong : ChangeSpec := { name := "historyShifts", fn := fun _ => fun
  | [d1, d2, d3] => { results := [.lit (.bool false)], args := [d1, d2, d3] }
  | _ => none }
def HistoryShiftsWrongFalsely : Prop := historyShiftsRow.holds Try.pinned (OpenSpec.ofChange historyShiftsWrong)

/-- 'simulcastlaw03.HistoryOutside': WHATEVER THE INPUT: true; the input reads as it did. -/
def historyOutsideSpec : ChangeSpec := { name := "historyOutside", fn := fun _ => fun
  | [d1, d2, d3] => { results := [.lit (.bool true)], args := [d1, d2, d3] }
  | _ => none }
def historyOutsideRow : OpenClaim := { program := "ytlbhfpcbbembgaa", sum := "42e7485e0a0c1ed1511a18a3ea050bfeb64cdb535bb8c5b2d313083400bf52ac", func := "simulcast/simulcastlaw03.HistoryOutside", spec := "historyOutside", inPlace := ["maps.clone"], apart := false }
def HistoryOutsideSaid : Prop := historyOutsideRow.holds Try.pinned (OpenSpec.ofChange historyOutsideSpec)

/-- ITS FALSE NEIGHBOUR: 'it returns false'. Refute it at one input. -/
def historyOutsideWrong : ChangeSpec := { name := "historyOutside", fn := fun _ => fun
  | [d1, d2, d3] => { results := [.lit (.bool false)], args := [d1, d2, d3] }
  | _ => none }
def HistoryOutsideWrongFalsely : Prop := historyOutsideRow.holds Try.pinned (OpenSpec.ofChange historyOutsideWrong)

/-- 'simulcastlaw03.HistoryAdds': WHATEVER THE INPUT: true; the input reads as it did. -/
def historyAddsSpec : ChangeSpec := { name := "historyAdds", fn := fun _ => fun
  | [d1, d2] => { results := [.lit (.bool true)], args := [d1, d2] }
  | _ => none }
def historyAddsRow : OpenClaim := { program := "ytlbhfpcbbembgaa", sum := "42e7485e0a0c1ed1511a18a3ea050bfeb64cdb535bb8c5b2d313083400bf52ac", func := "simulcast/simulcastlaw03.HistoryAdds", spec := "historyAdds", inPlace := ["maps.clone"], apart := false }
def HistoryAddsSaid : Prop := historyAddsRow.holds Try.pinned (OpenSpec.ofChange historyAddsSpec)

/-- ITS FALSE NEIGHBOUR: 'it returns false'. Refute it at one input. -/
def historyAddsWrong : ChangeSpec := { name := "historyAdds", fn := fun _ => fun
  | [d1, d2] => { results := [.lit (.bool false)], args := [d1, d2] }
  | _ => none }
def HistoryAddsWrongFalsely : Prop := historyAddsRow.holds Try.pinned (OpenSpec.ofChange historyAddsWrong)

/-- 'simulcastlaw05.LineMixes': WHATEVER THE INPUT: true; the input reads as it did. -/
def lineMixesSpec : ChangeSpec := { name := "lineMixes", fn := fun _ => fun
  | [d1, d2, d3] => { results := [.lit (.bool true)], args := [d1, d2, d3] }
  | _ => none }
def lineMixesRow : OpenClaim := { program := "ytlbhfpcbbembgaa", sum := "42e7485e0a0c1ed1511a18a3ea050bfeb64cdb535bb8c5b2d313083400bf52ac", func := "simulcast/simulcastlaw05.LineMixes", spec := "lineMixes", inPlace := ["maps.clone"], unfollowed := true, recurses := true, apart := false }
def LineMixesSaid : Prop := lineMixesRow.holds Try.pinned (OpenSpec.ofChange lineMixesSpec)

/-- ITS FALSE NEIGHBOUR: 'it returns false'. Refute it at one input. -/
def lineMixesWrong : ChangeSpec := { name := "lineMixes", fn := fun _ => fun
  | [d1, d2, d3] => { results := [.lit (.bool false)], args := [d1, d2, d3] }
  | _ => none }
def LineMixesWrongFalsely : Prop := lineMixesRow.holds Try.pinned (OpenSpec.ofChange lineMixesWrong)

/-- 'simulcastlaw05.LineOrders': WHATEVER THE INPUT: true; the input reads as it did. -/
def lineOrdersSpec : ChangeSpec := { name := "lineOrders", fn := fun _ => fun
  | [d1, d2] => { results := [.lit (.bool true)], args := [d1, d2] }
  | _ => none }
def lineOrdersRow : OpenClaim := { program := "ytlbhfpcbbembgaa", sum := "42e7485e0a0c1ed1511a18a3ea050bfeb64cdb535bb8c5b2d313083400bf52ac", func := "simulcast/simulcastlaw05.LineOrders", spec := "lineOrders", inPlace := ["maps.clone"], unfollowed := true, recurses := true, apart := false }
def LineOrdersSaid : Prop := lineOrdersRow.holds Try.pinned (OpenSpec.ofChange lineOrdersSpec)

/-- ITS FALSE NEIGHBOUR: 'it returns false'. Refute it at one input. -/
def lineOrdersWrong : ChangeSpec := { name := "lineOrders", fn := fun _ => fun
  | [d1, d2] => { results := [.lit (.bool false)], args := [d1, d2] }
  | _ => none }
def LineOrdersWrongFalsely : Prop := lineOrdersRow.holds Try.pinned (OpenSpec.ofChange lineOrdersWrong)

/-- 'simulcastlaw05.LineApart': WHATEVER THE INPUT: true; the input reads as it did. -/
def lineApartSpec : ChangeSpec := { name := "lineApart", fn := fun _ => fun
  | [d1, d2, d3] => { results := [.lit (.bool true)], args := [d1, d2, d3] }
  | _ => none }
def lineApartRow : OpenClaim := { program := "ytlbhfpcbbembgaa", sum := "42e7485e0a0c1ed1511a18a3ea050bfeb64cdb535bb8c5b2d313083400bf52ac", func := "simulcast/simulcastlaw05.LineApart", spec := "lineApart", inPlace := ["maps.clone"], unfollowed := true, recurses := true, apart := false }
def LineApartSaid : Prop := lineApartRow.holds Try.pinned (OpenSpec.ofChange lineApartSpec)

/-- ITS FALSE NEIGHBOUR: 'it returns false'. Refute it at one input. -/
def lineApartWrong : ChangeSpec := { name := "lineApart", fn := fun _ => fun
  | [d1, d2, d3] => { results := [.lit (.bool false)], args := [d1, d2, d3] }
  | _ => none }
def LineApartWrongFalsely : Prop := lineApartRow.holds Try.pinned (OpenSpec.ofChange lineApartWrong)

/-- 'simulcastlaw05.LinePlays': WHATEVER THE INPUT: true; the input reads as it did. -/
def linePlaysSpec : ChangeSpec := { name := "linePlays", fn := fun _ => fun
  | [d1, d2, d3] => { results := [.lit (.bool true)], args := [d1, d2, d3] }
  | _ => none }
def linePlaysRow : OpenClaim := { program := "ytlbhfpcbbembgaa", sum := "42e7485e0a0c1ed1511a18a3ea050bfeb64cdb535bb8c5b2d313083400bf52ac", func := "simulcast/simulcastlaw05.LinePlays", spec := "linePlays", inPlace := ["maps.clone"], unfollowed := true, recurses := true, apart := false }
def LinePlaysSaid : Prop := linePlaysRow.holds Try.pinned (OpenSpec.ofChange linePlaysSpec)

/-- ITS FALSE NEIGHBOUR: 'it returns false'. Refute it at one input. -/
def linePlaysWrong : ChangeSpec := { name := "linePlays", fn := fun _ => fun
  | [d1, d2, d3] => { results := [.lit (.bool false)], args := [d1, d2, d3] }
  | _ => none }
def LinePlaysWrongFalsely : Prop := linePlaysRow.holds Try.pinned (OpenSpec.ofChange linePlaysWrong)

/- THE SECOND FORM. 'bulk': how many values and letters a reading holds, each counted each time it is reached (what is shared counts as often as it is met; a slice's spare places count too). A statement '..UptoSaid' is the law's where the arguments, and the package variables that the reading takes, are together of bulk at most 1048576: NARROWER than '..Said'. Prove '..Said' where nothing that the law and all that it calls make is longer than what came in: it says more and counts as full. Else prove '..UptoSaid'. A law counts once. -/
mutual
def uptoBulk {H : Type} : DataW H → Nat
  | .lit (.string bytes) => bytes.length + 1
  | .lit _ => 1
  | .nil => 1
  | .ptr d => uptoBulk d + 1
  | .slice elems spare => uptoBulkAll elems + uptoBulkAll spare + 1
  | .agg parts => uptoBulkAll parts + 1
  | .iface _ d => uptoBulk d + 1
  | .map entries => uptoBulkEntries entries + 1
  | .held _ => 1
def uptoBulkAll {H : Type} : List (DataW H) → Nat
  | [] => 0
  | d :: r => uptoBulk d + uptoBulkAll r
def uptoBulkEntries {H : Type} : List (Lit × DataW H) → Nat
  | [] => 0
  | x :: r => uptoBulkEntry x + uptoBulkEntries r
def uptoBulkEntry {H : Type} : Lit × DataW H → Nat
  | (.string bytes, d) => bytes.length + uptoBulk d + 1
  | (_, d) => uptoBulk d + 1
 end
def uptoSmall : (H : Type) → List (DataW H) → Bool := fun _ ds => decide (uptoBulkAll ds ≤ 1048576)
def OpenSpec.upto (s : _root_.Go.ChangeSpec) : _root_.Go.OpenSpec := { _root_.Go.OpenSpec.ofChange s with cond := some uptoSmall }

/-- 'simulcastlaw03.HistoryChooses', WHERE WHAT IT READS IS OF BULK AT MOST 1048576: true; the input reads as it did. -/
def historyChoosesUptoRow : OpenClaim := { program := "ytlbhfpcbbembgaa", sum := "42e7485e0a0c1ed1511a18a3ea050bfeb64cdb535bb8c5b2d313083400bf52ac", func := "simulcast/simulcastlaw03.HistoryChooses", spec := "historyChooses", inPlace := ["maps.clone"], apart := false, narrowed := true }
def HistoryChoosesUptoSaid : Prop := historyChoosesUptoRow.holds Try.pinned (OpenSpec.upto historyChoosesSpec)

/-- 'simulcastlaw03.HistoryReaches', WHERE WHAT IT READS IS OF BULK AT MOST 1048576: true; the input reads as it did. -/
def historyReachesUptoRow : OpenClaim := { program := "ytlbhfpcbbembgaa", sum := "42e7485e0a0c1ed1511a18a3ea050bfeb64cdb535bb8c5b2d313083400bf52ac", func := "simulcast/simulcastlaw03.HistoryReaches", spec := "historyReaches", inPlace := ["maps.clone"], apart := false, narrowed := true }
def HistoryReachesUptoSaid : Prop := historyReachesUptoRow.holds Try.pinned (OpenSpec.upto historyReachesSpec)

/-- 'simulcastlaw03.HistoryShifts', WHERE WHAT IT READS IS OF BULK AT MOST 1048576: true; the input reads as it did. -/
def historyShiftsUptoRow : OpenClaim := { program := "ytlbhfpcbbembgaa", sum := "42e7485e0a0c1ed1511a18a3ea050bfeb64cdb535bb8c5b2d313083400bf52ac", func := "simulcast/simulcastlaw03.HistoryShifts", spec := "historyShifts", inPlace := ["maps.clone"], apart := false, narrowed := true }
def HistoryShiftsUptoSaid : Prop := historyShiftsUptoRow.holds Try.pinned (OpenSpec.upto historyShiftsSpec)

/-- 'simulcastlaw03.HistoryOutside', WHERE WHAT IT READS IS OF BULK AT MOST 1048576: true; the input reads as it did. -/
def historyOutsideUptoRow : OpenClaim := { program := "ytlbhfpcbbembgaa", sum := "42e7485e0a0c1ed1511a18a3ea050bfeb64cdb535bb8c5b2d313083400bf52ac", func := "simulcast/simulcastlaw03.HistoryOutside", spec := "historyOutside", inPlace := ["maps.clone"], apart := false, narrowed := true }
def HistoryOutsideUptoSaid : Prop := historyOutsideUptoRow.holds Try.pinned (OpenSpec.upto historyOutsideSpec)

/-- 'simulcastlaw03.HistoryAdds', WHERE WHAT IT READS IS OF BULK AT MOST 1048576: true; the input reads as it did. -/
def historyAddsUptoRow : OpenClaim := { program := "ytlbhfpcbbembgaa", sum := "42e7485e0a0c1ed1511a18a3ea050bfeb64cdb535bb8c5b2d313083400bf52ac", func := "simulcast/simulcastlaw03.HistoryAdds", spec := "historyAdds", inPlace := ["maps.clone"], apart := false, narrowed := true }
def HistoryAddsUptoSaid : Prop := historyAddsUptoRow.holds Try.pinned (OpenSpec.upto historyAddsSpec)

/-- 'simulcastlaw05.LineMixes', WHERE WHAT IT READS IS OF BULK AT MOST 1048576: true; the input reads as it did. -/
def lineMixesUptoRow : OpenClaim := { program := "ytlbhfpcbbembgaa", sum := "42e7485e0a0c1ed1511a18a3ea050bfeb64cdb535bb8c5b2d313083400bf52ac", func := "simulcast/simulcastlaw05.LineMixes", spec := "lineMixes", inPlace := ["maps.clone"], unfollowed := true, recurses := true, apart := false, narrowed := true }
def LineMixesUptoSaid : Prop := lineMixesUptoRow.holds Try.pinned (OpenSpec.upto lineMixesSpec)

/-- 'simulcastlaw05.LineOrders', WHERE WHAT IT READS IS OF BULK AT MOST 1048576: true; the input reads as it did. -/
def lineOrdersUptoRow : OpenClaim := { program := "ytlbhfpcbbembgaa", sum := "42e7485e0a0c1ed1511a18a3ea050bfeb64cdb535bb8c5b2d313083400bf52ac", func := "simulcast/simulcastlaw05.LineOrders", spec := "lineOrders", inPlace := ["maps.clone"], unfollowed := true, recurses := true, apart := false, narrowed := true }
def LineOrdersUptoSaid : Prop := lineOrdersUptoRow.holds Try.pinned (OpenSpec.upto lineOrdersSpec)

/-- 'simulcastlaw05.LineApart', WHERE WHAT IT READS IS OF BULK AT MOST 1048576: true; the input reads as it did. -/
def lineApartUptoRow : OpenClaim := { program := "ytlbhfpcbbembgaa", sum := "42e7485e0a0c1ed1511a18a3ea050bfeb64cdb535bb8c5b2d313083400bf52ac", func := "simulcast/simulcastlaw05.LineApart", spec := "lineApart", inPlace := ["maps.clone"], unfollowed := true, recurses := true, apart := false, narrowed := true }
def LineApartUptoSaid : Prop := lineApartUptoRow.holds Try.pinned (OpenSpec.upto lineApartSpec)

/-- 'simulcastlaw05.LinePlays', WHERE WHAT IT READS IS OF BULK AT MOST 1048576: true; the input reads as it did. -/
def linePlaysUptoRow : OpenClaim := { program := "ytlbhfpcbbembgaa", sum := "42e7485e0a0c1ed1511a18a3ea050bfeb64cdb535bb8c5b2d313083400bf52ac", func := "simulcast/simulcastlaw05.LinePlays", spec := "linePlays", inPlace := ["maps.clone"], unfollowed := true, recurses := true, apart := false, narrowed := true }
def LinePlaysUptoSaid : Prop := linePlaysUptoRow.holds Try.pinned (OpenSpec.upto linePlaysSpec)

end Rows
end Go.Proofs.Ytlbhfpcbbembgaa
