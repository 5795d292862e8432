/-
  DERIVED. GIVEN WITH THE SEED: THE CARDS: each row of YtkmbcjnaaokilaaGreatDoorRows.lean that lists a variable, with what it lists TIED to the program's text (the seventh form; the later family's looks); each row that meets fmt, with fmt's text TOLD by the authors' own Lean function (tested against real Go, not proved from fmt's source: count such statements apart). THE CARD IS WHAT COUNTS. Prove the row's statement (the work); the ties are given (YtkmbcjnaaokilaaGreatDoorTie.lean); close each card by the builder's one call (the guide's Derived/Test/ToyasCard.lean, 'card_holds'). Laid BY PROGRAM, IN A SANDBOX (cutbox-door.mjs). By AI agents, Wed Nov 11 2026. No macro, syntax, notation, axiom, sorry.
-/
import Derived.Test.YtkmbcjnaaokilaaGreatDoorRows
import GoSem.ClaimSeven
namespace Go.Proofs.YtkmbcjnaaokilaaGreatDoor
namespace Rows

/-- THE TIED CARD OF 'simulcastlaw12.ArenaAlone'. -/
def arenaAloneCard : Claim7 := { stood := { row := arenaAloneRow, standIns := [], harness := (true, "215fc257b19682d6249c8c116b8807673d62250bed15d5c7c983904a87c5f14e"), looks := true }, kinds := [], alts := [], laidByText := true, laidKinds := [.data], laidTests := true, laidLooks := .later }
def ArenaAloneCardSaid : Prop := Claim7.holds Tryz.pinned (.plain (OpenSpec.ofChange arenaAloneSpec)) arenaAloneCard

/-- THE TIED CARD OF 'simulcastlaw12.ArenaApart'. -/
def arenaApartCard : Claim7 := { stood := { row := arenaApartRow, standIns := [], harness := (true, "215fc257b19682d6249c8c116b8807673d62250bed15d5c7c983904a87c5f14e"), looks := true }, kinds := [], alts := [], laidByText := true, laidKinds := [.data], laidTests := true, laidLooks := .later }
def ArenaApartCardSaid : Prop := Claim7.holds Tryz.pinned (.plain (OpenSpec.ofChange arenaApartSpec)) arenaApartCard

/-- THE TIED CARD OF 'simulcastlaw12.ArenaStops'. -/
def arenaStopsCard : Claim7 := { stood := { row := arenaStopsRow, standIns := [], harness := (true, "215fc257b19682d6249c8c116b8807673d62250bed15d5c7c983904a87c5f14e"), looks := true }, kinds := [], alts := [], laidByText := true, laidKinds := [.data], laidTests := true, laidLooks := .later }
def ArenaStopsCardSaid : Prop := Claim7.holds Tryz.pinned (.plain (OpenSpec.ofChange arenaStopsSpec)) arenaStopsCard

/-- THE TIED CARD OF 'simulcastlaw12.ArenaMarks'. -/
def arenaMarksCard : Claim7 := { stood := { row := arenaMarksRow, standIns := [], harness := (true, "215fc257b19682d6249c8c116b8807673d62250bed15d5c7c983904a87c5f14e"), looks := true }, kinds := [], alts := [], laidByText := true, laidKinds := [.data], laidTests := true, laidLooks := .later }
def ArenaMarksCardSaid : Prop := Claim7.holds Tryz.pinned (.plain (OpenSpec.ofChange arenaMarksSpec)) arenaMarksCard

/-- THE TIED CARD OF 'simulcastlaw12.ArenaFills'. -/
def arenaFillsCard : Claim7 := { stood := { row := arenaFillsRow, standIns := [], harness := (true, "215fc257b19682d6249c8c116b8807673d62250bed15d5c7c983904a87c5f14e"), looks := true }, kinds := [], alts := [], laidByText := true, laidKinds := [.data], laidTests := true, laidLooks := .later }
def ArenaFillsCardSaid : Prop := Claim7.holds Tryz.pinned (.plain (OpenSpec.ofChange arenaFillsSpec)) arenaFillsCard

/-- THE SECOND FORM's CARD OF 'simulcastlaw12.ArenaAlone'. -/
def arenaAloneUptoCard : Claim7 := { stood := { row := arenaAloneUptoRow, standIns := [], harness := (true, "215fc257b19682d6249c8c116b8807673d62250bed15d5c7c983904a87c5f14e"), looks := true }, kinds := [], alts := [], laidByText := true, laidKinds := [.data], laidTests := true, laidLooks := .later }
def ArenaAloneUptoCardSaid : Prop := Claim7.holds Tryz.pinned (.plain (OpenSpec.upto arenaAloneSpec)) arenaAloneUptoCard

/-- THE SECOND FORM's CARD OF 'simulcastlaw12.ArenaApart'. -/
def arenaApartUptoCard : Claim7 := { stood := { row := arenaApartUptoRow, standIns := [], harness := (true, "215fc257b19682d6249c8c116b8807673d62250bed15d5c7c983904a87c5f14e"), looks := true }, kinds := [], alts := [], laidByText := true, laidKinds := [.data], laidTests := true, laidLooks := .later }
def ArenaApartUptoCardSaid : Prop := Claim7.holds Tryz.pinned (.plain (OpenSpec.upto arenaApartSpec)) arenaApartUptoCard

/-- THE SECOND FORM's CARD OF 'simulcastlaw12.ArenaStops'. -/
def arenaStopsUptoCard : Claim7 := { stood := { row := arenaStopsUptoRow, standIns := [], harness := (true, "215fc257b19682d6249c8c116b8807673d62250bed15d5c7c983904a87c5f14e"), looks := true }, kinds := [], alts := [], laidByText := true, laidKinds := [.data], laidTests := true, laidLooks := .later }
def ArenaStopsUptoCardSaid : Prop := Claim7.holds Tryz.pinned (.plain (OpenSpec.upto arenaStopsSpec)) arenaStopsUptoCard

/-- THE SECOND FORM's CARD OF 'simulcastlaw12.ArenaMarks'. -/
def arenaMarksUptoCard : Claim7 := { stood := { row := arenaMarksUptoRow, standIns := [], harness := (true, "215fc257b19682d6249c8c116b8807673d62250bed15d5c7c983904a87c5f14e"), looks := true }, kinds := [], alts := [], laidByText := true, laidKinds := [.data], laidTests := true, laidLooks := .later }
def ArenaMarksUptoCardSaid : Prop := Claim7.holds Tryz.pinned (.plain (OpenSpec.upto arenaMarksSpec)) arenaMarksUptoCard

/-- THE SECOND FORM's CARD OF 'simulcastlaw12.ArenaFills'. -/
def arenaFillsUptoCard : Claim7 := { stood := { row := arenaFillsUptoRow, standIns := [], harness := (true, "215fc257b19682d6249c8c116b8807673d62250bed15d5c7c983904a87c5f14e"), looks := true }, kinds := [], alts := [], laidByText := true, laidKinds := [.data], laidTests := true, laidLooks := .later }
def ArenaFillsUptoCardSaid : Prop := Claim7.holds Tryz.pinned (.plain (OpenSpec.upto arenaFillsSpec)) arenaFillsUptoCard
end Rows
end Go.Proofs.YtkmbcjnaaokilaaGreatDoor
