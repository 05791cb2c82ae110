/-
  DERIVED. GIVEN WITH THE SEED: THE CARDS: each row of YtejjoflbpnjohaaGreatDoorRows.lean that lists a variable, with what it lists TIED to the program's text (the seventh form; the later family's looks); each row that meets fmt, with fmt's text TOLD by the authors' own Lean function (tested against real Go, not proved from fmt's source: count such statements apart). THE CARD IS WHAT COUNTS. Prove the row's statement (the work); the ties are given (YtejjoflbpnjohaaGreatDoorTie.lean); close each card by the builder's one call (the guide's Derived/Test/ToyasCard.lean, 'card_holds'). Laid BY PROGRAM, IN A SANDBOX (cutbox-door.mjs). By AI agents, Wed Nov 11 2026. No macro, syntax, notation, axiom, sorry.
-/
import Derived.Test.YtejjoflbpnjohaaGreatDoorRows
import GoSem.ClaimSeven
namespace Go.Proofs.YtejjoflbpnjohaaGreatDoor
namespace Rows

/-- THE TIED CARD OF 'scorebooklaw24.BattingCards'. -/
def battingCardsCard : Claim7 := { stood := { row := battingCardsRow, standIns := [], harness := (true, "ef3a6660abd689ab9aa24bf6f1e487d40b61fea14da0a043caaed85c0c05d218"), looks := false }, kinds := [], alts := [], laidByText := true, laidKinds := [.data, .data, .data], laidTests := true, laidLooks := .later }
def BattingCardsCardSaid : Prop := Claim7.holds Tryz.pinned (.plain (OpenSpec.ofChange battingCardsSpec)) battingCardsCard

/-- THE TIED CARD OF 'scorebooklaw24.BattingTexts'. -/
def battingTextsCard : Claim7 := { stood := { row := battingTextsRow, standIns := [], harness := (true, "ef3a6660abd689ab9aa24bf6f1e487d40b61fea14da0a043caaed85c0c05d218"), looks := false }, kinds := [], alts := [], laidByText := true, laidKinds := [.data, .data, .data], laidTests := true, laidLooks := .later }
def BattingTextsCardSaid : Prop := Claim7.holds Tryz.pinned (.plain (OpenSpec.ofChange battingTextsSpec)) battingTextsCard

/-- THE TIED CARD OF 'scorebooklaw24.BattingStays'. -/
def battingStaysCard : Claim7 := { stood := { row := battingStaysRow, standIns := [], harness := (true, "ef3a6660abd689ab9aa24bf6f1e487d40b61fea14da0a043caaed85c0c05d218"), looks := false }, kinds := [], alts := [], laidByText := true, laidKinds := [.data, .data, .data], laidTests := true, laidLooks := .later }
def BattingStaysCardSaid : Prop := Claim7.holds Tryz.pinned (.plain (OpenSpec.ofChange battingStaysSpec)) battingStaysCard

/-- THE TIED CARD OF 'scorebooklaw24.BattingRates'. -/
def battingRatesCard : Claim7 := { stood := { row := battingRatesRow, standIns := [], harness := (true, "ef3a6660abd689ab9aa24bf6f1e487d40b61fea14da0a043caaed85c0c05d218"), looks := false }, kinds := [], alts := [], laidByText := true, laidKinds := [.data, .data, .data], laidTests := true, laidLooks := .later }
def BattingRatesCardSaid : Prop := Claim7.holds Tryz.pinned (.plain (OpenSpec.ofChange battingRatesSpec)) battingRatesCard

/-- THE TIED CARD OF 'scorebooklaw24.BattingAddsUp'. -/
def battingAddsUpCard : Claim7 := { stood := { row := battingAddsUpRow, standIns := [], harness := (true, "ef3a6660abd689ab9aa24bf6f1e487d40b61fea14da0a043caaed85c0c05d218"), looks := false }, kinds := [], alts := [], laidByText := true, laidKinds := [.data, .data, .data], laidTests := true, laidLooks := .later }
def BattingAddsUpCardSaid : Prop := Claim7.holds Tryz.pinned (.plain (OpenSpec.ofChange battingAddsUpSpec)) battingAddsUpCard

/-- THE SECOND FORM's CARD OF 'scorebooklaw24.BattingCards'. -/
def battingCardsUptoCard : Claim7 := { stood := { row := battingCardsUptoRow, standIns := [], harness := (true, "ef3a6660abd689ab9aa24bf6f1e487d40b61fea14da0a043caaed85c0c05d218"), looks := false }, kinds := [], alts := [], laidByText := true, laidKinds := [.data, .data, .data], laidTests := true, laidLooks := .later }
def BattingCardsUptoCardSaid : Prop := Claim7.holds Tryz.pinned (.plain (OpenSpec.upto battingCardsSpec)) battingCardsUptoCard

/-- THE SECOND FORM's CARD OF 'scorebooklaw24.BattingTexts'. -/
def battingTextsUptoCard : Claim7 := { stood := { row := battingTextsUptoRow, standIns := [], harness := (true, "ef3a6660abd689ab9aa24bf6f1e487d40b61fea14da0a043caaed85c0c05d218"), looks := false }, kinds := [], alts := [], laidByText := true, laidKinds := [.data, .data, .data], laidTests := true, laidLooks := .later }
def BattingTextsUptoCardSaid : Prop := Claim7.holds Tryz.pinned (.plain (OpenSpec.upto battingTextsSpec)) battingTextsUptoCard

/-- THE SECOND FORM's CARD OF 'scorebooklaw24.BattingStays'. -/
def battingStaysUptoCard : Claim7 := { stood := { row := battingStaysUptoRow, standIns := [], harness := (true, "ef3a6660abd689ab9aa24bf6f1e487d40b61fea14da0a043caaed85c0c05d218"), looks := false }, kinds := [], alts := [], laidByText := true, laidKinds := [.data, .data, .data], laidTests := true, laidLooks := .later }
def BattingStaysUptoCardSaid : Prop := Claim7.holds Tryz.pinned (.plain (OpenSpec.upto battingStaysSpec)) battingStaysUptoCard

/-- THE SECOND FORM's CARD OF 'scorebooklaw24.BattingRates'. -/
def battingRatesUptoCard : Claim7 := { stood := { row := battingRatesUptoRow, standIns := [], harness := (true, "ef3a6660abd689ab9aa24bf6f1e487d40b61fea14da0a043caaed85c0c05d218"), looks := false }, kinds := [], alts := [], laidByText := true, laidKinds := [.data, .data, .data], laidTests := true, laidLooks := .later }
def BattingRatesUptoCardSaid : Prop := Claim7.holds Tryz.pinned (.plain (OpenSpec.upto battingRatesSpec)) battingRatesUptoCard

/-- THE SECOND FORM's CARD OF 'scorebooklaw24.BattingAddsUp'. -/
def battingAddsUpUptoCard : Claim7 := { stood := { row := battingAddsUpUptoRow, standIns := [], harness := (true, "ef3a6660abd689ab9aa24bf6f1e487d40b61fea14da0a043caaed85c0c05d218"), looks := false }, kinds := [], alts := [], laidByText := true, laidKinds := [.data, .data, .data], laidTests := true, laidLooks := .later }
def BattingAddsUpUptoCardSaid : Prop := Claim7.holds Tryz.pinned (.plain (OpenSpec.upto battingAddsUpSpec)) battingAddsUpUptoCard
end Rows
end Go.Proofs.YtejjoflbpnjohaaGreatDoor
