/-
  DERIVED. GIVEN WITH THE SEED: THE CARDS: each row of YtapipgdcgmmkaaaGreatDoorRows.lean that lists a variable, with what it lists TIED to the program's text (the seventh form; the later family's looks); each row that meets fmt, with fmt's text TOLD by the authors' own Lean function (tested against real Go, not proved from fmt's source: count such statements apart). THE CARD IS WHAT COUNTS. Prove the row's statement (the work); the ties are given (YtapipgdcgmmkaaaGreatDoorTie.lean); close each card by the builder's one call (the guide's Derived/Test/ToyasCard.lean, 'card_holds'). Laid BY PROGRAM, IN A SANDBOX (cutbox-door.mjs). By AI agents, Wed Nov 11 2026. No macro, syntax, notation, axiom, sorry.
-/
import Derived.Test.YtapipgdcgmmkaaaGreatDoorRows
import GoSem.ClaimSeven
namespace Go.Proofs.YtapipgdcgmmkaaaGreatDoor
namespace Rows

/-- THE TIED CARD OF 'scorebooklaw15.MatchSteps'. -/
def matchStepsCard : Claim7 := { stood := { row := matchStepsRow, standIns := [], harness := (true, "51186a15b5441d5c8c56101989134f1cc640627ef35b7f25e0f183ffa09f7f57"), looks := false }, kinds := [], alts := [], laidByText := true, laidKinds := [.data, .data, .data], laidTests := true, laidLooks := .later }
def MatchStepsCardSaid : Prop := Claim7.holds Tryz.pinned (.plain (OpenSpec.ofChange matchStepsSpec)) matchStepsCard

/-- THE TIED CARD OF 'scorebooklaw15.MatchStops'. -/
def matchStopsCard : Claim7 := { stood := { row := matchStopsRow, standIns := [], harness := (true, "51186a15b5441d5c8c56101989134f1cc640627ef35b7f25e0f183ffa09f7f57"), looks := false }, kinds := [], alts := [], laidByText := true, laidKinds := [.data, .data, .data], laidTests := true, laidLooks := .later }
def MatchStopsCardSaid : Prop := Claim7.holds Tryz.pinned (.plain (OpenSpec.ofChange matchStopsSpec)) matchStopsCard

/-- THE TIED CARD OF 'scorebooklaw15.MatchStarts'. -/
def matchStartsCard : Claim7 := { stood := { row := matchStartsRow, standIns := [], harness := (true, "51186a15b5441d5c8c56101989134f1cc640627ef35b7f25e0f183ffa09f7f57"), looks := false }, kinds := [], alts := [], laidByText := true, laidKinds := [.data, .data, .data], laidTests := true, laidLooks := .later }
def MatchStartsCardSaid : Prop := Claim7.holds Tryz.pinned (.plain (OpenSpec.ofChange matchStartsSpec)) matchStartsCard

/-- THE TIED CARD OF 'scorebooklaw15.MatchLooks'. -/
def matchLooksCard : Claim7 := { stood := { row := matchLooksRow, standIns := [], harness := (true, "51186a15b5441d5c8c56101989134f1cc640627ef35b7f25e0f183ffa09f7f57"), looks := false }, kinds := [], alts := [], laidByText := true, laidKinds := [.data, .data, .data], laidTests := true, laidLooks := .later }
def MatchLooksCardSaid : Prop := Claim7.holds Tryz.pinned (.plain (OpenSpec.ofChange matchLooksSpec)) matchLooksCard

/-- THE TIED CARD OF 'scorebooklaw15.MatchRefuses'. -/
def matchRefusesCard : Claim7 := { stood := { row := matchRefusesRow, standIns := [], harness := (true, "51186a15b5441d5c8c56101989134f1cc640627ef35b7f25e0f183ffa09f7f57"), looks := false }, kinds := [], alts := [], laidByText := true, laidKinds := [.data, .data, .data], laidTests := true, laidLooks := .later }
def MatchRefusesCardSaid : Prop := Claim7.holds Tryz.pinned (.plain (OpenSpec.ofChange matchRefusesSpec)) matchRefusesCard

/-- THE TIED CARD OF 'scorebooklaw15.MatchKeeps'. -/
def matchKeepsCard : Claim7 := { stood := { row := matchKeepsRow, standIns := [], harness := (true, "51186a15b5441d5c8c56101989134f1cc640627ef35b7f25e0f183ffa09f7f57"), looks := false }, kinds := [], alts := [], laidByText := true, laidKinds := [.data, .data, .data], laidTests := true, laidLooks := .later }
def MatchKeepsCardSaid : Prop := Claim7.holds Tryz.pinned (.plain (OpenSpec.ofChange matchKeepsSpec)) matchKeepsCard

/-- THE SECOND FORM's CARD OF 'scorebooklaw15.MatchSteps'. -/
def matchStepsUptoCard : Claim7 := { stood := { row := matchStepsUptoRow, standIns := [], harness := (true, "51186a15b5441d5c8c56101989134f1cc640627ef35b7f25e0f183ffa09f7f57"), looks := false }, kinds := [], alts := [], laidByText := true, laidKinds := [.data, .data, .data], laidTests := true, laidLooks := .later }
def MatchStepsUptoCardSaid : Prop := Claim7.holds Tryz.pinned (.plain (OpenSpec.upto matchStepsSpec)) matchStepsUptoCard

/-- THE SECOND FORM's CARD OF 'scorebooklaw15.MatchStops'. -/
def matchStopsUptoCard : Claim7 := { stood := { row := matchStopsUptoRow, standIns := [], harness := (true, "51186a15b5441d5c8c56101989134f1cc640627ef35b7f25e0f183ffa09f7f57"), looks := false }, kinds := [], alts := [], laidByText := true, laidKinds := [.data, .data, .data], laidTests := true, laidLooks := .later }
def MatchStopsUptoCardSaid : Prop := Claim7.holds Tryz.pinned (.plain (OpenSpec.upto matchStopsSpec)) matchStopsUptoCard

/-- THE SECOND FORM's CARD OF 'scorebooklaw15.MatchStarts'. -/
def matchStartsUptoCard : Claim7 := { stood := { row := matchStartsUptoRow, standIns := [], harness := (true, "51186a15b5441d5c8c56101989134f1cc640627ef35b7f25e0f183ffa09f7f57"), looks := false }, kinds := [], alts := [], laidByText := true, laidKinds := [.data, .data, .data], laidTests := true, laidLooks := .later }
def MatchStartsUptoCardSaid : Prop := Claim7.holds Tryz.pinned (.plain (OpenSpec.upto matchStartsSpec)) matchStartsUptoCard

/-- THE SECOND FORM's CARD OF 'scorebooklaw15.MatchLooks'. -/
def matchLooksUptoCard : Claim7 := { stood := { row := matchLooksUptoRow, standIns := [], harness := (true, "51186a15b5441d5c8c56101989134f1cc640627ef35b7f25e0f183ffa09f7f57"), looks := false }, kinds := [], alts := [], laidByText := true, laidKinds := [.data, .data, .data], laidTests := true, laidLooks := .later }
def MatchLooksUptoCardSaid : Prop := Claim7.holds Tryz.pinned (.plain (OpenSpec.upto matchLooksSpec)) matchLooksUptoCard

/-- THE SECOND FORM's CARD OF 'scorebooklaw15.MatchRefuses'. -/
def matchRefusesUptoCard : Claim7 := { stood := { row := matchRefusesUptoRow, standIns := [], harness := (true, "51186a15b5441d5c8c56101989134f1cc640627ef35b7f25e0f183ffa09f7f57"), looks := false }, kinds := [], alts := [], laidByText := true, laidKinds := [.data, .data, .data], laidTests := true, laidLooks := .later }
def MatchRefusesUptoCardSaid : Prop := Claim7.holds Tryz.pinned (.plain (OpenSpec.upto matchRefusesSpec)) matchRefusesUptoCard

/-- THE SECOND FORM's CARD OF 'scorebooklaw15.MatchKeeps'. -/
def matchKeepsUptoCard : Claim7 := { stood := { row := matchKeepsUptoRow, standIns := [], harness := (true, "51186a15b5441d5c8c56101989134f1cc640627ef35b7f25e0f183ffa09f7f57"), looks := false }, kinds := [], alts := [], laidByText := true, laidKinds := [.data, .data, .data], laidTests := true, laidLooks := .later }
def MatchKeepsUptoCardSaid : Prop := Claim7.holds Tryz.pinned (.plain (OpenSpec.upto matchKeepsSpec)) matchKeepsUptoCard
end Rows
end Go.Proofs.YtapipgdcgmmkaaaGreatDoor
