/-
  NARROWER THAN 'FOR EVERY INPUT', by the rows' own cells (each row's printed sentence says how): HazardErrors: laid · HazardProtects: laid · HazardActs: laid · HazardScans: laid · HazardSafe: laid · EraAsks: laid · EraEnters: laid · EraAdvances: laid · EraSafe: laid · EraAnnounced: laid · EraRefuses: laid · HazardAlone: laid.
  DERIVED. THE GIVEN ROWS OF THIS SEAT. 12 by the template 'for every input the law returns true; each argument reads behind the call as it read before'; 0 by the template 'total and deterministic' (their statements: YtkbgdhomdbolnaaGreatDoorTotals.lean).
  GIVEN WITH THE SEED: the statements are not yours to turn. If you find one false, say at which input.
  Laid BY PROGRAM, IN A SANDBOX (cutbox-rows.mjs): the forced cells as the released guide's own fill.sh prints them over the translation 9d4eec0204d45019… (all of the seat's roots in one cut). By AI agents, Wed Nov 11 2026. No macro, syntax, notation, axiom, sorry.
-/
import Derived.Test.YtkbgdhomdbolnaaGreatDoorChecked
import GoSem.Claim
import GoSem.ClaimJoined
import GoSem.ClaimMapViews
import Derived.JoinedTies
import Derived.KernelRfl
namespace Go.Proofs.YtkbgdhomdbolnaaGreatDoor
/- THE CELL 'sum', in the pinned program and in every row, IS THE sha256 OF THE DUMP (.gsa) THAT YtkbgdhomdbolnaaGreatDoorProg.lean LOADS. Nothing in Lean hashes anything: it is a label: what it is worth is what the hold of that sum in a sandbox is worth. -/
noncomputable def Tryz.pinned : Pinned := { name := "ytkbgdhomdbolnaagreatdoor", sum := "9d4eec0204d45019153fe011e254f4fa13cf9799670a8e19ab8c84b2a6a257e7", checked := Tryz.checked }
namespace Rows
def none {H : Type} : Left H := { results := [], args := [] }

/- WHAT THE LISTED PACKAGE-LEVEL VARIABLES READ AS WHEN THE CALL BEGINS. Each datum BY PROGRAM (the guide's laid-datum.mjs) off the statement by which the dump's own 'gosem.cut.vars' lays the variable. In a bare row this is a premise. The card (YtkbgdhomdbolnaaGreatDoorCards.lean) ties it to the program's text. -/
def laid_simulcast_layout_sizes {H : Type} : DataW H := .agg [.lit (.int .i64 8), .lit (.int .i64 8), .lit (.int .i64 8), .lit (.int .i64 1), .lit (.int .i64 104), .lit (.int .i64 0), .lit (.int .i64 32)]

/-- 'simulcastlaw14.HazardErrors': WHATEVER THE INPUT: true; the input reads as it did. -/
def hazardErrorsSpec : ChangeSpec := { name := "hazardErrors", fn := fun _ => fun
  | [d1, d2, d3] => { results := [.lit (.bool true)], args := [d1, d2, d3] }
  | _ => none }
def hazardErrorsRow : OpenClaim := { program := "ytkbgdhomdbolnaagreatdoor", sum := "9d4eec0204d45019153fe011e254f4fa13cf9799670a8e19ab8c84b2a6a257e7", func := "simulcast/simulcastlaw14.HazardErrors", spec := "hazardErrors", inPlace := ["maps.clone"], unfollowed := true, recurses := true, named := ["simulcast/layout.sizes"], apart := false, laid := [("simulcast/layout.sizes", laid_simulcast_layout_sizes)] }
def HazardErrorsSaid : Prop := hazardErrorsRow.holds Tryz.pinned (OpenSpec.ofChange hazardErrorsSpec)

/-- ITS FALSE NEIGHBOUR: 'it returns false'. Refute it at one input. -/
def hazardErrorsWrong : ChangeSpec := { name := "hazardErrors", fn := fun _ => fun
  | [d1, d2, d3] => { results := [.lit (.bool false)], args := [d1, d2, d3] }
  | _ => none }
def HazardErrorsWrongFalsely : Prop := hazardErrorsRow.holds Tryz.pinned (OpenSpec.ofChange hazardErrorsWrong)

/-- 'simulcastlaw14.HazardProtects': WHATEVER THE INPUT: true; the input reads as it did. -/
def hazardProtectsSpec : ChangeSpec := { name := "hazardProtects", fn := fun _ => fun
  | [d] => { results := [.lit (.bool true)], args := [d] }
  | _ => none }
def hazardProtectsRow : OpenClaim := { program := "ytkbgdhomdbolnaagreatdoor", sum := "9d4eec0204d45019153fe011e254f4fa13cf9799670a8e19ab8c84b2a6a257e7", func := "simulcast/simulcastlaw14.HazardProtects", spec := "hazardProtects", inPlace := ["maps.clone"], unfollowed := true, recurses := true, named := ["simulcast/layout.sizes"], apart := false, laid := [("simulcast/layout.sizes", laid_simulcast_layout_sizes)] }
def HazardProtectsSaid : Prop := hazardProtectsRow.holds Tryz.pinned (OpenSpec.ofChange hazardProtectsSpec)

/-- ITS FALSE NEIGHBOUR: 'it returns false'. Refute it at one input. -/
def hazardProtectsWrong : ChangeSpec := { name := "hazardProtects", fn := fun _ => fun
  | [d] => { results := [.lit (.bool false)], args := [d] }
  | _ => none }
def HazardProtectsWrongFalsely : Prop := hazardProtectsRow.holds Tryz.pinned (OpenSpec.ofChange hazardProtectsWrong)

/-- 'simulcastlaw14.HazardActs': WHATEVER THE INPUT: true; the input reads as it did. -/
def hazardActsSpec : ChangeSpec := { name := "hazardActs", fn := fun _ => fun
  | [d] => { results := [.lit (.bool true)], args := [d] }
  | _ => none }
def hazardActsRow : OpenClaim := { program := "ytkbgdhomdbolnaagreatdoor", sum := "9d4eec0204d45019153fe011e254f4fa13cf9799670a8e19ab8c84b2a6a257e7", func := "simulcast/simulcastlaw14.HazardActs", spec := "hazardActs", inPlace := ["maps.clone"], unfollowed := true, recurses := true, named := ["simulcast/layout.sizes"], apart := false, laid := [("simulcast/layout.sizes", laid_simulcast_layout_sizes)] }
def HazardActsSaid : Prop := hazardActsRow.holds Tryz.pinned (OpenSpec.ofChange hazardActsSpec)

/-- ITS FALSE NEIGHBOUR: 'it returns false'. Refute it at one input. -/
def hazardActsWrong : ChangeSpec := { name := "hazardActs", fn := fun _ => fun
  | [d] => { results := [.lit (.bool false)], args := [d] }
  | _ => none }
def HazardActsWrongFalsely : Prop := hazardActsRow.holds Tryz.pinned (OpenSpec.ofChange hazardActsWrong)

/-- 'simulcastlaw14.HazardScans': WHATEVER THE INPUT: true; the input reads as it did. -/
def hazardScansSpec : ChangeSpec := { name := "hazardScans", fn := fun _ => fun
  | [d] => { results := [.lit (.bool true)], args := [d] }
  | _ => none }
def hazardScansRow : OpenClaim := { program := "ytkbgdhomdbolnaagreatdoor", sum := "9d4eec0204d45019153fe011e254f4fa13cf9799670a8e19ab8c84b2a6a257e7", func := "simulcast/simulcastlaw14.HazardScans", spec := "hazardScans", inPlace := ["maps.clone"], unfollowed := true, recurses := true, named := ["simulcast/layout.sizes"], apart := false, laid := [("simulcast/layout.sizes", laid_simulcast_layout_sizes)] }
def HazardScansSaid : Prop := hazardScansRow.holds Tryz.pinned (OpenSpec.ofChange hazardScansSpec)

/-- ITS FALSE NEIGHBOUR: 'it returns false'. Refute it at one input. -/
def hazardScansWrong : ChangeSpec := { name := "hazardScans", fn := fun _ => fun
  | [d] => { results := [.lit (.bool false)], args := [d] }
  | _ => none }
def HazardScansWrongFalsely : Prop := hazardScansRow.holds Tryz.pinned (OpenSpec.ofChange hazardScansWrong)

/-- 'simulcastlaw14.HazardSafe': WHATEVER THE INPUT: true; the input reads as it did. -/
def hazardSafeSpec : ChangeSpec := { name := "hazardSafe", fn := fun _ => fun
  | [d1, d2, d3] => { results := [.lit (.bool true)], args := [d1, d2, d3] }
  | _ => none }
def hazardSafeRow : OpenClaim := { program := "ytkbgdhomdbolnaagreatdoor", sum := "9d4eec0204d45019153fe011e254f4fa13cf9799670a8e19ab8c84b2a6a257e7", func := "simulcast/simulcastlaw14.HazardSafe", spec := "hazardSafe", inPlace := ["maps.clone"], unfollowed := true, recurses := true, named := ["simulcast/layout.sizes"], apart := false, laid := [("simulcast/layout.sizes", laid_simulcast_layout_sizes)] }
def HazardSafeSaid : Prop := hazardSafeRow.holds Tryz.pinned (OpenSpec.ofChange hazardSafeSpec)

/-- ITS FALSE NEIGHBOUR: 'it returns false'. Refute it at one input. -/
def hazardSafeWrong : ChangeSpec := { name := "hazardSafe", fn := fun _ => fun
  | [d1, d2, d3] => { results := [.lit (.bool false)], args := [d1, d2, d3] }
  | _ => none }
def HazardSafeWrongFalsely : Prop := hazardSafeRow.holds Tryz.pinned (OpenSpec.ofChange hazardSafeWrong)

/-- 'simulcastlaw13.EraAsks': WHATEVER THE INPUT: true; the input reads as it did. -/
def eraAsksSpec : ChangeSpec := { name := "eraAsks", fn := fun _ => fun
  | [d1, d2, d3] => { results := [.lit (.bool true)], args := [d1, d2, d3] }
  | _ => none }
def eraAsksRow : OpenClaim := { program := "ytkbgdhomdbolnaagreatdoor", sum := "9d4eec0204d45019153fe011e254f4fa13cf9799670a8e19ab8c84b2a6a257e7", func := "simulcast/simulcastlaw13.EraAsks", spec := "eraAsks", inPlace := ["maps.clone"], unfollowed := true, recurses := true, named := ["simulcast/layout.sizes"], apart := false, laid := [("simulcast/layout.sizes", laid_simulcast_layout_sizes)] }
def EraAsksSaid : Prop := eraAsksRow.holds Tryz.pinned (OpenSpec.ofChange eraAsksSpec)

/-- ITS FALSE NEIGHBOUR: 'it returns false'. Refute it at one input. -/
def eraAsksWrong : ChangeSpec := { name := "eraAsks", fn := fun _ => fun
  | [d1, d2, d3] => { results := [.lit (.bool false)], args := [d1, d2, d3] }
  | _ => none }
def EraAsksWrongFalsely : Prop := eraAsksRow.holds Tryz.pinned (OpenSpec.ofChange eraAsksWrong)

/-- 'simulcastlaw13.EraEnters': WHATEVER THE INPUT: true; the input reads as it did. -/
def eraEntersSpec : ChangeSpec := { name := "eraEnters", fn := fun _ => fun
  | [d1, d2] => { results := [.lit (.bool true)], args := [d1, d2] }
  | _ => none }
def eraEntersRow : OpenClaim := { program := "ytkbgdhomdbolnaagreatdoor", sum := "9d4eec0204d45019153fe011e254f4fa13cf9799670a8e19ab8c84b2a6a257e7", func := "simulcast/simulcastlaw13.EraEnters", spec := "eraEnters", inPlace := ["maps.clone"], unfollowed := true, recurses := true, named := ["simulcast/layout.sizes"], apart := false, laid := [("simulcast/layout.sizes", laid_simulcast_layout_sizes)] }
def EraEntersSaid : Prop := eraEntersRow.holds Tryz.pinned (OpenSpec.ofChange eraEntersSpec)

/-- ITS FALSE NEIGHBOUR: 'it returns false'. Refute it at one input. -/
def eraEntersWrong : ChangeSpec := { name := "eraEnters", fn := fun _ => fun
  | [d1, d2] => { results := [.lit (.bool false)], args := [d1, d2] }
  | _ => none }
def EraEntersWrongFalsely : Prop := eraEntersRow.holds Tryz.pinned (OpenSpec.ofChange eraEntersWrong)

/-- 'simulcastlaw13.EraAdvances': WHATEVER THE INPUT: true; the input reads as it did. -/
def eraAdvancesSpec : ChangeSpec := { name := "eraAdvances", fn := fun _ => fun
  | [d1, d2] => { results := [.lit (.bool true)], args := [d1, d2] }
  | _ => none }
def eraAdvancesRow : OpenClaim := { program := "ytkbgdhomdbolnaagreatdoor", sum := "9d4eec0204d45019153fe011e254f4fa13cf9799670a8e19ab8c84b2a6a257e7", func := "simulcast/simulcastlaw13.EraAdvances", spec := "eraAdvances", inPlace := ["maps.clone"], unfollowed := true, recurses := true, named := ["simulcast/layout.sizes"], apart := false, laid := [("simulcast/layout.sizes", laid_simulcast_layout_sizes)] }
def EraAdvancesSaid : Prop := eraAdvancesRow.holds Tryz.pinned (OpenSpec.ofChange eraAdvancesSpec)

/-- ITS FALSE NEIGHBOUR: 'it returns false'. Refute it at one input. -/
def eraAdvancesWrong : ChangeSpec := { name := "eraAdvances", fn := fun _ => fun
  | [d1, d2] => { results := [.lit (.bool false)], args := [d1, d2] }
  | _ => none }
def EraAdvancesWrongFalsely : Prop := eraAdvancesRow.holds Tryz.pinned (OpenSpec.ofChange eraAdvancesWrong)

/-- 'simulcastlaw13.EraSafe': WHATEVER THE INPUT: true; the input reads as it did. -/
def eraSafeSpec : ChangeSpec := { name := "eraSafe", fn := fun _ => fun
  | [d1, d2, d3] => { results := [.lit (.bool true)], args := [d1, d2, d3] }
  | _ => none }
def eraSafeRow : OpenClaim := { program := "ytkbgdhomdbolnaagreatdoor", sum := "9d4eec0204d45019153fe011e254f4fa13cf9799670a8e19ab8c84b2a6a257e7", func := "simulcast/simulcastlaw13.EraSafe", spec := "eraSafe", inPlace := ["maps.clone"], unfollowed := true, recurses := true, named := ["simulcast/layout.sizes"], apart := false, laid := [("simulcast/layout.sizes", laid_simulcast_layout_sizes)] }
def EraSafeSaid : Prop := eraSafeRow.holds Tryz.pinned (OpenSpec.ofChange eraSafeSpec)

/-- ITS FALSE NEIGHBOUR: 'it returns false'. Refute it at one input. -/
def eraSafeWrong : ChangeSpec := { name := "eraSafe", fn := fun _ => fun
  | [d1, d2, d3] => { results := [.lit (.bool false)], args := [d1, d2, d3] }
  | _ => none }
def EraSafeWrongFalsely : Prop := eraSafeRow.holds Tryz.pinned (OpenSpec.ofChange eraSafeWrong)

/-- 'simulcastlaw13.EraAnnounced': WHATEVER THE INPUT: true; the input reads as it did. -/
def eraAnnouncedSpec : ChangeSpec := { name := "eraAnnounced", fn := fun _ => fun
  | [d1, d2] => { results := [.lit (.bool true)], args := [d1, d2] }
  | _ => none }
def eraAnnouncedRow : OpenClaim := { program := "ytkbgdhomdbolnaagreatdoor", sum := "9d4eec0204d45019153fe011e254f4fa13cf9799670a8e19ab8c84b2a6a257e7", func := "simulcast/simulcastlaw13.EraAnnounced", spec := "eraAnnounced", inPlace := ["maps.clone"], unfollowed := true, recurses := true, named := ["simulcast/layout.sizes"], apart := false, laid := [("simulcast/layout.sizes", laid_simulcast_layout_sizes)] }
def EraAnnouncedSaid : Prop := eraAnnouncedRow.holds Tryz.pinned (OpenSpec.ofChange eraAnnouncedSpec)

/-- ITS FALSE NEIGHBOUR: 'it returns false'. Refute it at one input. -/
def eraAnnouncedWrong : ChangeSpec := { name := "eraAnnounced", fn := fun _ => fun
  | [d1, d2] => { results := [.lit (.bool false)], args := [d1, d2] }
  | _ => none }
def EraAnnouncedWrongFalsely : Prop := eraAnnouncedRow.holds Tryz.pinned (OpenSpec.ofChange eraAnnouncedWrong)

/-- 'simulcastlaw13.EraRefuses': WHATEVER THE INPUT: true; the input reads as it did. -/
def eraRefusesSpec : ChangeSpec := { name := "eraRefuses", fn := fun _ => fun
  | [d1, d2] => { results := [.lit (.bool true)], args := [d1, d2] }
  | _ => none }
def eraRefusesRow : OpenClaim := { program := "ytkbgdhomdbolnaagreatdoor", sum := "9d4eec0204d45019153fe011e254f4fa13cf9799670a8e19ab8c84b2a6a257e7", func := "simulcast/simulcastlaw13.EraRefuses", spec := "eraRefuses", inPlace := ["maps.clone"], unfollowed := true, recurses := true, named := ["simulcast/layout.sizes"], apart := false, laid := [("simulcast/layout.sizes", laid_simulcast_layout_sizes)] }
def EraRefusesSaid : Prop := eraRefusesRow.holds Tryz.pinned (OpenSpec.ofChange eraRefusesSpec)

/-- ITS FALSE NEIGHBOUR: 'it returns false'. Refute it at one input. -/
def eraRefusesWrong : ChangeSpec := { name := "eraRefuses", fn := fun _ => fun
  | [d1, d2] => { results := [.lit (.bool false)], args := [d1, d2] }
  | _ => none }
def EraRefusesWrongFalsely : Prop := eraRefusesRow.holds Tryz.pinned (OpenSpec.ofChange eraRefusesWrong)

/-- 'simulcastlaw14.HazardAlone': WHATEVER THE INPUT: true; the input reads as it did. -/
def hazardAloneSpec : ChangeSpec := { name := "hazardAlone", fn := fun _ => fun
  | [d] => { results := [.lit (.bool true)], args := [d] }
  | _ => none }
def hazardAloneRow : OpenClaim := { program := "ytkbgdhomdbolnaagreatdoor", sum := "9d4eec0204d45019153fe011e254f4fa13cf9799670a8e19ab8c84b2a6a257e7", func := "simulcast/simulcastlaw14.HazardAlone", spec := "hazardAlone", inPlace := ["maps.clone"], unfollowed := true, recurses := true, named := ["simulcast/layout.sizes"], apart := false, laid := [("simulcast/layout.sizes", laid_simulcast_layout_sizes)] }
def HazardAloneSaid : Prop := hazardAloneRow.holds Tryz.pinned (OpenSpec.ofChange hazardAloneSpec)

/-- ITS FALSE NEIGHBOUR: 'it returns false'. Refute it at one input. -/
def hazardAloneWrong : ChangeSpec := { name := "hazardAlone", fn := fun _ => fun
  | [d] => { results := [.lit (.bool false)], args := [d] }
  | _ => none }
def HazardAloneWrongFalsely : Prop := hazardAloneRow.holds Tryz.pinned (OpenSpec.ofChange hazardAloneWrong)

/- THE SECOND FORM. 'bulk': how many values and letters a reading holds, each counted each time it is reached (what is shared counts as often as it is met; a slice's spare places count too). A statement '..UptoSaid' is the law's where the arguments, and the package variables that the reading takes, are together of bulk at most 1048576: NARROWER than '..Said'. Prove '..Said' where nothing that the law and all that it calls make is longer than what came in: it says more and counts as full. Else prove '..UptoSaid'. A law counts once. -/
mutual
def uptoBulk {H : Type} : DataW H → Nat
  | .lit (.string bytes) => bytes.length + 1
  | .lit _ => 1
  | .nil => 1
  | .ptr d => uptoBulk d + 1
  | .slice elems spare => uptoBulkAll elems + uptoBulkAll spare + 1
  | .agg parts => uptoBulkAll parts + 1
  | .iface _ d => uptoBulk d + 1
  | .map entries => uptoBulkEntries entries + 1
  | .held _ => 1
def uptoBulkAll {H : Type} : List (DataW H) → Nat
  | [] => 0
  | d :: r => uptoBulk d + uptoBulkAll r
def uptoBulkEntries {H : Type} : List (Lit × DataW H) → Nat
  | [] => 0
  | x :: r => uptoBulkEntry x + uptoBulkEntries r
def uptoBulkEntry {H : Type} : Lit × DataW H → Nat
  | (.string bytes, d) => bytes.length + uptoBulk d + 1
  | (_, d) => uptoBulk d + 1
 end
def uptoSmall : (H : Type) → List (DataW H) → Bool := fun _ ds => decide (uptoBulkAll ds ≤ 1048576)
def OpenSpec.upto (s : _root_.Go.ChangeSpec) : _root_.Go.OpenSpec := { _root_.Go.OpenSpec.ofChange s with cond := some uptoSmall }

/-- 'simulcastlaw14.HazardErrors', WHERE WHAT IT READS IS OF BULK AT MOST 1048576: true; the input reads as it did. -/
def hazardErrorsUptoRow : OpenClaim := { program := "ytkbgdhomdbolnaagreatdoor", sum := "9d4eec0204d45019153fe011e254f4fa13cf9799670a8e19ab8c84b2a6a257e7", func := "simulcast/simulcastlaw14.HazardErrors", spec := "hazardErrors", inPlace := ["maps.clone"], unfollowed := true, recurses := true, named := ["simulcast/layout.sizes"], apart := false, laid := [("simulcast/layout.sizes", laid_simulcast_layout_sizes)], narrowed := true }
def HazardErrorsUptoSaid : Prop := hazardErrorsUptoRow.holds Tryz.pinned (OpenSpec.upto hazardErrorsSpec)

/-- 'simulcastlaw14.HazardProtects', WHERE WHAT IT READS IS OF BULK AT MOST 1048576: true; the input reads as it did. -/
def hazardProtectsUptoRow : OpenClaim := { program := "ytkbgdhomdbolnaagreatdoor", sum := "9d4eec0204d45019153fe011e254f4fa13cf9799670a8e19ab8c84b2a6a257e7", func := "simulcast/simulcastlaw14.HazardProtects", spec := "hazardProtects", inPlace := ["maps.clone"], unfollowed := true, recurses := true, named := ["simulcast/layout.sizes"], apart := false, laid := [("simulcast/layout.sizes", laid_simulcast_layout_sizes)], narrowed := true }
def HazardProtectsUptoSaid : Prop := hazardProtectsUptoRow.holds Tryz.pinned (OpenSpec.upto hazardProtectsSpec)

/-- 'simulcastlaw14.HazardActs', WHERE WHAT IT READS IS OF BULK AT MOST 1048576: true; the input reads as it did. -/
def hazardActsUptoRow : OpenClaim := { program := "ytkbgdhomdbolnaagreatdoor", sum := "9d4eec0204d45019153fe011e254f4fa13cf9799670a8e19ab8c84b2a6a257e7", func := "simulcast/simulcastlaw14.HazardActs", spec := "hazardActs", inPlace := ["maps.clone"], unfollowed := true, recurses := true, named := ["simulcast/layout.sizes"], apart := false, laid := [("simulcast/layout.sizes", laid_simulcast_layout_sizes)], narrowed := true }
def HazardActsUptoSaid : Prop := hazardActsUptoRow.holds Tryz.pinned (OpenSpec.upto hazardActsSpec)

/-- 'simulcastlaw14.HazardScans', WHERE WHAT IT READS IS OF BULK AT MOST 1048576: true; the input reads as it did. -/
def hazardScansUptoRow : OpenClaim := { program := "ytkbgdhomdbolnaagreatdoor", sum := "9d4eec0204d45019153fe011e254f4fa13cf9799670a8e19ab8c84b2a6a257e7", func := "simulcast/simulcastlaw14.HazardScans", spec := "hazardScans", inPlace := ["maps.clone"], unfollowed := true, recurses := true, named := ["simulcast/layout.sizes"], apart := false, laid := [("simulcast/layout.sizes", laid_simulcast_layout_sizes)], narrowed := true }
def HazardScansUptoSaid : Prop := hazardScansUptoRow.holds Tryz.pinned (OpenSpec.upto hazardScansSpec)

/-- 'simulcastlaw14.HazardSafe', WHERE WHAT IT READS IS OF BULK AT MOST 1048576: true; the input reads as it did. -/
def hazardSafeUptoRow : OpenClaim := { program := "ytkbgdhomdbolnaagreatdoor", sum := "9d4eec0204d45019153fe011e254f4fa13cf9799670a8e19ab8c84b2a6a257e7", func := "simulcast/simulcastlaw14.HazardSafe", spec := "hazardSafe", inPlace := ["maps.clone"], unfollowed := true, recurses := true, named := ["simulcast/layout.sizes"], apart := false, laid := [("simulcast/layout.sizes", laid_simulcast_layout_sizes)], narrowed := true }
def HazardSafeUptoSaid : Prop := hazardSafeUptoRow.holds Tryz.pinned (OpenSpec.upto hazardSafeSpec)

/-- 'simulcastlaw13.EraAsks', WHERE WHAT IT READS IS OF BULK AT MOST 1048576: true; the input reads as it did. -/
def eraAsksUptoRow : OpenClaim := { program := "ytkbgdhomdbolnaagreatdoor", sum := "9d4eec0204d45019153fe011e254f4fa13cf9799670a8e19ab8c84b2a6a257e7", func := "simulcast/simulcastlaw13.EraAsks", spec := "eraAsks", inPlace := ["maps.clone"], unfollowed := true, recurses := true, named := ["simulcast/layout.sizes"], apart := false, laid := [("simulcast/layout.sizes", laid_simulcast_layout_sizes)], narrowed := true }
def EraAsksUptoSaid : Prop := eraAsksUptoRow.holds Tryz.pinned (OpenSpec.upto eraAsksSpec)

/-- 'simulcastlaw13.EraEnters', WHERE WHAT IT READS IS OF BULK AT MOST 1048576: true; the input reads as it did. -/
def eraEntersUptoRow : OpenClaim := { program := "ytkbgdhomdbolnaagreatdoor", sum := "9d4eec0204d45019153fe011e254f4fa13cf9799670a8e19ab8c84b2a6a257e7", func := "simulcast/simulcastlaw13.EraEnters", spec := "eraEnters", inPlace := ["maps.clone"], unfollowed := true, recurses := true, named := ["simulcast/layout.sizes"], apart := false, laid := [("simulcast/layout.sizes", laid_simulcast_layout_sizes)], narrowed := true }
def EraEntersUptoSaid : Prop := eraEntersUptoRow.holds Tryz.pinned (OpenSpec.upto eraEntersSpec)

/-- 'simulcastlaw13.EraAdvances', WHERE WHAT IT READS IS OF BULK AT MOST 1048576: true; the input reads as it did. -/
def eraAdvancesUptoRow : OpenClaim := { program := "ytkbgdhomdbolnaagreatdoor", sum := "9d4eec0204d45019153fe011e254f4fa13cf9799670a8e19ab8c84b2a6a257e7", func := "simulcast/simulcastlaw13.EraAdvances", spec := "eraAdvances", inPlace := ["maps.clone"], unfollowed := true, recurses := true, named := ["simulcast/layout.sizes"], apart := false, laid := [("simulcast/layout.sizes", laid_simulcast_layout_sizes)], narrowed := true }
def EraAdvancesUptoSaid : Prop := eraAdvancesUptoRow.holds Tryz.pinned (OpenSpec.upto eraAdvancesSpec)

/-- 'simulcastlaw13.EraSafe', WHERE WHAT IT READS IS OF BULK AT MOST 1048576: true; the input reads as it did. -/
def eraSafeUptoRow : OpenClaim := { program := "ytkbgdhomdbolnaagreatdoor", sum := "9d4eec0204d45019153fe011e254f4fa13cf9799670a8e19ab8c84b2a6a257e7", func := "simulcast/simulcastlaw13.EraSafe", spec := "eraSafe", inPlace := ["maps.clone"], unfollowed := true, recurses := true, named := ["simulcast/layout.sizes"], apart := false, laid := [("simulcast/layout.sizes", laid_simulcast_layout_sizes)], narrowed := true }
def EraSafeUptoSaid : Prop := eraSafeUptoRow.holds Tryz.pinned (OpenSpec.upto eraSafeSpec)

/-- 'simulcastlaw13.EraAnnounced', WHERE WHAT IT READS IS OF BULK AT MOST 1048576: true; the input reads as it did. -/
def eraAnnouncedUptoRow : OpenClaim := { program := "ytkbgdhomdbolnaagreatdoor", sum := "9d4eec0204d45019153fe011e254f4fa13cf9799670a8e19ab8c84b2a6a257e7", func := "simulcast/simulcastlaw13.EraAnnounced", spec := "eraAnnounced", inPlace := ["maps.clone"], unfollowed := true, recurses := true, named := ["simulcast/layout.sizes"], apart := false, laid := [("simulcast/layout.sizes", laid_simulcast_layout_sizes)], narrowed := true }
def EraAnnouncedUptoSaid : Prop := eraAnnouncedUptoRow.holds Tryz.pinned (OpenSpec.upto eraAnnouncedSpec)

/-- 'simulcastlaw13.EraRefuses', WHERE WHAT IT READS IS OF BULK AT MOST 1048576: true; the input reads as it did. -/
def eraRefusesUptoRow : OpenClaim := { program := "ytkbgdhomdbolnaagreatdoor", sum := "9d4eec0204d45019153fe011e254f4fa13cf9799670a8e19ab8c84b2a6a257e7", func := "simulcast/simulcastlaw13.EraRefuses", spec := "eraRefuses", inPlace := ["maps.clone"], unfollowed := true, recurses := true, named := ["simulcast/layout.sizes"], apart := false, laid := [("simulcast/layout.sizes", laid_simulcast_layout_sizes)], narrowed := true }
def EraRefusesUptoSaid : Prop := eraRefusesUptoRow.holds Tryz.pinned (OpenSpec.upto eraRefusesSpec)

/-- 'simulcastlaw14.HazardAlone', WHERE WHAT IT READS IS OF BULK AT MOST 1048576: true; the input reads as it did. -/
def hazardAloneUptoRow : OpenClaim := { program := "ytkbgdhomdbolnaagreatdoor", sum := "9d4eec0204d45019153fe011e254f4fa13cf9799670a8e19ab8c84b2a6a257e7", func := "simulcast/simulcastlaw14.HazardAlone", spec := "hazardAlone", inPlace := ["maps.clone"], unfollowed := true, recurses := true, named := ["simulcast/layout.sizes"], apart := false, laid := [("simulcast/layout.sizes", laid_simulcast_layout_sizes)], narrowed := true }
def HazardAloneUptoSaid : Prop := hazardAloneUptoRow.holds Tryz.pinned (OpenSpec.upto hazardAloneSpec)

end Rows
end Go.Proofs.YtkbgdhomdbolnaaGreatDoor
