/-
  DERIVED. GIVEN WITH THE SEED: THE CARDS: each row of YtkbgdhomdbolnaaGreatDoorRows.lean that lists a variable, with what it lists TIED to the program's text (the seventh form; the later family's looks); each row that meets fmt, with fmt's text TOLD by the authors' own Lean function (tested against real Go, not proved from fmt's source: count such statements apart). THE CARD IS WHAT COUNTS. Prove the row's statement (the work); the ties are given (YtkbgdhomdbolnaaGreatDoorTie.lean); close each card by the builder's one call (the guide's Derived/Test/ToyasCard.lean, 'card_holds'). Laid BY PROGRAM, IN A SANDBOX (cutbox-door.mjs). By AI agents, Wed Nov 11 2026. No macro, syntax, notation, axiom, sorry.
-/
import Derived.Test.YtkbgdhomdbolnaaGreatDoorRows
import GoSem.ClaimSeven
namespace Go.Proofs.YtkbgdhomdbolnaaGreatDoor
namespace Rows

/-- THE TIED CARD OF 'simulcastlaw14.HazardErrors'. -/
def hazardErrorsCard : Claim7 := { stood := { row := hazardErrorsRow, standIns := [], harness := (true, "1837c7f7a89f28564586f5912aa3f4cb91a70fb7e9984b6a85b9d9b1d985bb51"), looks := true }, kinds := [], alts := [], laidByText := true, laidKinds := [.data], laidTests := true, laidLooks := .later }
def HazardErrorsCardSaid : Prop := Claim7.holds Tryz.pinned (.plain (OpenSpec.ofChange hazardErrorsSpec)) hazardErrorsCard

/-- THE TIED CARD OF 'simulcastlaw14.HazardProtects'. -/
def hazardProtectsCard : Claim7 := { stood := { row := hazardProtectsRow, standIns := [], harness := (true, "1837c7f7a89f28564586f5912aa3f4cb91a70fb7e9984b6a85b9d9b1d985bb51"), looks := true }, kinds := [], alts := [], laidByText := true, laidKinds := [.data], laidTests := true, laidLooks := .later }
def HazardProtectsCardSaid : Prop := Claim7.holds Tryz.pinned (.plain (OpenSpec.ofChange hazardProtectsSpec)) hazardProtectsCard

/-- THE TIED CARD OF 'simulcastlaw14.HazardActs'. -/
def hazardActsCard : Claim7 := { stood := { row := hazardActsRow, standIns := [], harness := (true, "1837c7f7a89f28564586f5912aa3f4cb91a70fb7e9984b6a85b9d9b1d985bb51"), looks := true }, kinds := [], alts := [], laidByText := true, laidKinds := [.data], laidTests := true, laidLooks := .later }
def HazardActsCardSaid : Prop := Claim7.holds Tryz.pinned (.plain (OpenSpec.ofChange hazardActsSpec)) hazardActsCard

/-- THE TIED CARD OF 'simulcastlaw14.HazardScans'. -/
def hazardScansCard : Claim7 := { stood := { row := hazardScansRow, standIns := [], harness := (true, "1837c7f7a89f28564586f5912aa3f4cb91a70fb7e9984b6a85b9d9b1d985bb51"), looks := true }, kinds := [], alts := [], laidByText := true, laidKinds := [.data], laidTests := true, laidLooks := .later }
def HazardScansCardSaid : Prop := Claim7.holds Tryz.pinned (.plain (OpenSpec.ofChange hazardScansSpec)) hazardScansCard

/-- THE TIED CARD OF 'simulcastlaw14.HazardSafe'. -/
def hazardSafeCard : Claim7 := { stood := { row := hazardSafeRow, standIns := [], harness := (true, "1837c7f7a89f28564586f5912aa3f4cb91a70fb7e9984b6a85b9d9b1d985bb51"), looks := true }, kinds := [], alts := [], laidByText := true, laidKinds := [.data], laidTests := true, laidLooks := .later }
def HazardSafeCardSaid : Prop := Claim7.holds Tryz.pinned (.plain (OpenSpec.ofChange hazardSafeSpec)) hazardSafeCard

/-- THE TIED CARD OF 'simulcastlaw13.EraAsks'. -/
def eraAsksCard : Claim7 := { stood := { row := eraAsksRow, standIns := [], harness := (true, "1837c7f7a89f28564586f5912aa3f4cb91a70fb7e9984b6a85b9d9b1d985bb51"), looks := true }, kinds := [], alts := [], laidByText := true, laidKinds := [.data], laidTests := true, laidLooks := .later }
def EraAsksCardSaid : Prop := Claim7.holds Tryz.pinned (.plain (OpenSpec.ofChange eraAsksSpec)) eraAsksCard

/-- THE TIED CARD OF 'simulcastlaw13.EraEnters'. -/
def eraEntersCard : Claim7 := { stood := { row := eraEntersRow, standIns := [], harness := (true, "1837c7f7a89f28564586f5912aa3f4cb91a70fb7e9984b6a85b9d9b1d985bb51"), looks := true }, kinds := [], alts := [], laidByText := true, laidKinds := [.data], laidTests := true, laidLooks := .later }
def EraEntersCardSaid : Prop := Claim7.holds Tryz.pinned (.plain (OpenSpec.ofChange eraEntersSpec)) eraEntersCard

/-- THE TIED CARD OF 'simulcastlaw13.EraAdvances'. -/
def eraAdvancesCard : Claim7 := { stood := { row := eraAdvancesRow, standIns := [], harness := (true, "1837c7f7a89f28564586f5912aa3f4cb91a70fb7e9984b6a85b9d9b1d985bb51"), looks := true }, kinds := [], alts := [], laidByText := true, laidKinds := [.data], laidTests := true, laidLooks := .later }
def EraAdvancesCardSaid : Prop := Claim7.holds Tryz.pinned (.plain (OpenSpec.ofChange eraAdvancesSpec)) eraAdvancesCard

/-- THE TIED CARD OF 'simulcastlaw13.EraSafe'. -/
def eraSafeCard : Claim7 := { stood := { row := eraSafeRow, standIns := [], harness := (true, "1837c7f7a89f28564586f5912aa3f4cb91a70fb7e9984b6a85b9d9b1d985bb51"), looks := true }, kinds := [], alts := [], laidByText := true, laidKinds := [.data], laidTests := true, laidLooks := .later }
def EraSafeCardSaid : Prop := Claim7.holds Tryz.pinned (.plain (OpenSpec.ofChange eraSafeSpec)) eraSafeCard

/-- THE TIED CARD OF 'simulcastlaw13.EraAnnounced'. -/
def eraAnnouncedCard : Claim7 := { stood := { row := eraAnnouncedRow, standIns := [], harness := (true, "1837c7f7a89f28564586f5912aa3f4cb91a70fb7e9984b6a85b9d9b1d985bb51"), looks := true }, kinds := [], alts := [], laidByText := true, laidKinds := [.data], laidTests := true, laidLooks := .later }
def EraAnnouncedCardSaid : Prop := Claim7.holds Tryz.pinned (.plain (OpenSpec.ofChange eraAnnouncedSpec)) eraAnnouncedCard

/-- THE TIED CARD OF 'simulcastlaw13.EraRefuses'. -/
def eraRefusesCard : Claim7 := { stood := { row := eraRefusesRow, standIns := [], harness := (true, "1837c7f7a89f28564586f5912aa3f4cb91a70fb7e9984b6a85b9d9b1d985bb51"), looks := true }, kinds := [], alts := [], laidByText := true, laidKinds := [.data], laidTests := true, laidLooks := .later }
def EraRefusesCardSaid : Prop := Claim7.holds Tryz.pinned (.plain (OpenSpec.ofChange eraRefusesSpec)) eraRefusesCard

/-- THE TIED CARD OF 'simulcastlaw14.HazardAlone'. -/
def hazardAloneCard : Claim7 := { stood := { row := hazardAloneRow, standIns := [], harness := (true, "1837c7f7a89f28564586f5912aa3f4cb91a70fb7e9984b6a85b9d9b1d985bb51"), looks := true }, kinds := [], alts := [], laidByText := true, laidKinds := [.data], laidTests := true, laidLooks := .later }
def HazardAloneCardSaid : Prop := Claim7.holds Tryz.pinned (.plain (OpenSpec.ofChange hazardAloneSpec)) hazardAloneCard

/-- THE SECOND FORM's CARD OF 'simulcastlaw14.HazardErrors'. -/
def hazardErrorsUptoCard : Claim7 := { stood := { row := hazardErrorsUptoRow, standIns := [], harness := (true, "1837c7f7a89f28564586f5912aa3f4cb91a70fb7e9984b6a85b9d9b1d985bb51"), looks := true }, kinds := [], alts := [], laidByText := true, laidKinds := [.data], laidTests := true, laidLooks := .later }
def HazardErrorsUptoCardSaid : Prop := Claim7.holds Tryz.pinned (.plain (OpenSpec.upto hazardErrorsSpec)) hazardErrorsUptoCard

/-- THE SECOND FORM's CARD OF 'simulcastlaw14.HazardProtects'. -/
def hazardProtectsUptoCard : Claim7 := { stood := { row := hazardProtectsUptoRow, standIns := [], harness := (true, "1837c7f7a89f28564586f5912aa3f4cb91a70fb7e9984b6a85b9d9b1d985bb51"), looks := true }, kinds := [], alts := [], laidByText := true, laidKinds := [.data], laidTests := true, laidLooks := .later }
def HazardProtectsUptoCardSaid : Prop := Claim7.holds Tryz.pinned (.plain (OpenSpec.upto hazardProtectsSpec)) hazardProtectsUptoCard

/-- THE SECOND FORM's CARD OF 'simulcastlaw14.HazardActs'. -/
def hazardActsUptoCard : Claim7 := { stood := { row := hazardActsUptoRow, standIns := [], harness := (true, "1837c7f7a89f28564586f5912aa3f4cb91a70fb7e9984b6a85b9d9b1d985bb51"), looks := true }, kinds := [], alts := [], laidByText := true, laidKinds := [.data], laidTests := true, laidLooks := .later }
def HazardActsUptoCardSaid : Prop := Claim7.holds Tryz.pinned (.plain (OpenSpec.upto hazardActsSpec)) hazardActsUptoCard

/-- THE SECOND FORM's CARD OF 'simulcastlaw14.HazardScans'. -/
def hazardScansUptoCard : Claim7 := { stood := { row := hazardScansUptoRow, standIns := [], harness := (true, "1837c7f7a89f28564586f5912aa3f4cb91a70fb7e9984b6a85b9d9b1d985bb51"), looks := true }, kinds := [], alts := [], laidByText := true, laidKinds := [.data], laidTests := true, laidLooks := .later }
def HazardScansUptoCardSaid : Prop := Claim7.holds Tryz.pinned (.plain (OpenSpec.upto hazardScansSpec)) hazardScansUptoCard

/-- THE SECOND FORM's CARD OF 'simulcastlaw14.HazardSafe'. -/
def hazardSafeUptoCard : Claim7 := { stood := { row := hazardSafeUptoRow, standIns := [], harness := (true, "1837c7f7a89f28564586f5912aa3f4cb91a70fb7e9984b6a85b9d9b1d985bb51"), looks := true }, kinds := [], alts := [], laidByText := true, laidKinds := [.data], laidTests := true, laidLooks := .later }
def HazardSafeUptoCardSaid : Prop := Claim7.holds Tryz.pinned (.plain (OpenSpec.upto hazardSafeSpec)) hazardSafeUptoCard

/-- THE SECOND FORM's CARD OF 'simulcastlaw13.EraAsks'. -/
def eraAsksUptoCard : Claim7 := { stood := { row := eraAsksUptoRow, standIns := [], harness := (true, "1837c7f7a89f28564586f5912aa3f4cb91a70fb7e9984b6a85b9d9b1d985bb51"), looks := true }, kinds := [], alts := [], laidByText := true, laidKinds := [.data], laidTests := true, laidLooks := .later }
def EraAsksUptoCardSaid : Prop := Claim7.holds Tryz.pinned (.plain (OpenSpec.upto eraAsksSpec)) eraAsksUptoCard

/-- THE SECOND FORM's CARD OF 'simulcastlaw13.EraEnters'. -/
def eraEntersUptoCard : Claim7 := { stood := { row := eraEntersUptoRow, standIns := [], harness := (true, "1837c7f7a89f28564586f5912aa3f4cb91a70fb7e9984b6a85b9d9b1d985bb51"), looks := true }, kinds := [], alts := [], laidByText := true, laidKinds := [.data], laidTests := true, laidLooks := .later }
def EraEntersUptoCardSaid : Prop := Claim7.holds Tryz.pinned (.plain (OpenSpec.upto eraEntersSpec)) eraEntersUptoCard

/-- THE SECOND FORM's CARD OF 'simulcastlaw13.EraAdvances'. -/
def eraAdvancesUptoCard : Claim7 := { stood := { row := eraAdvancesUptoRow, standIns := [], harness := (true, "1837c7f7a89f28564586f5912aa3f4cb91a70fb7e9984b6a85b9d9b1d985bb51"), looks := true }, kinds := [], alts := [], laidByText := true, laidKinds := [.data], laidTests := true, laidLooks := .later }
def EraAdvancesUptoCardSaid : Prop := Claim7.holds Tryz.pinned (.plain (OpenSpec.upto eraAdvancesSpec)) eraAdvancesUptoCard

/-- THE SECOND FORM's CARD OF 'simulcastlaw13.EraSafe'. -/
def eraSafeUptoCard : Claim7 := { stood := { row := eraSafeUptoRow, standIns := [], harness := (true, "1837c7f7a89f28564586f5912aa3f4cb91a70fb7e9984b6a85b9d9b1d985bb51"), looks := true }, kinds := [], alts := [], laidByText := true, laidKinds := [.data], laidTests := true, laidLooks := .later }
def EraSafeUptoCardSaid : Prop := Claim7.holds Tryz.pinned (.plain (OpenSpec.upto eraSafeSpec)) eraSafeUptoCard

/-- THE SECOND FORM's CARD OF 'simulcastlaw13.EraAnnounced'. -/
def eraAnnouncedUptoCard : Claim7 := { stood := { row := eraAnnouncedUptoRow, standIns := [], harness := (true, "1837c7f7a89f28564586f5912aa3f4cb91a70fb7e9984b6a85b9d9b1d985bb51"), looks := true }, kinds := [], alts := [], laidByText := true, laidKinds := [.data], laidTests := true, laidLooks := .later }
def EraAnnouncedUptoCardSaid : Prop := Claim7.holds Tryz.pinned (.plain (OpenSpec.upto eraAnnouncedSpec)) eraAnnouncedUptoCard

/-- THE SECOND FORM's CARD OF 'simulcastlaw13.EraRefuses'. -/
def eraRefusesUptoCard : Claim7 := { stood := { row := eraRefusesUptoRow, standIns := [], harness := (true, "1837c7f7a89f28564586f5912aa3f4cb91a70fb7e9984b6a85b9d9b1d985bb51"), looks := true }, kinds := [], alts := [], laidByText := true, laidKinds := [.data], laidTests := true, laidLooks := .later }
def EraRefusesUptoCardSaid : Prop := Claim7.holds Tryz.pinned (.plain (OpenSpec.upto eraRefusesSpec)) eraRefusesUptoCard

/-- THE SECOND FORM's CARD OF 'simulcastlaw14.HazardAlone'. -/
def hazardAloneUptoCard : Claim7 := { stood := { row := hazardAloneUptoRow, standIns := [], harness := (true, "1837c7f7a89f28564586f5912aa3f4cb91a70fb7e9984b6a85b9d9b1d985bb51"), looks := true }, kinds := [], alts := [], laidByText := true, laidKinds := [.data], laidTests := true, laidLooks := .later }
def HazardAloneUptoCardSaid : Prop := Claim7.holds Tryz.pinned (.plain (OpenSpec.upto hazardAloneSpec)) hazardAloneUptoCard
end Rows
end Go.Proofs.YtkbgdhomdbolnaaGreatDoor
