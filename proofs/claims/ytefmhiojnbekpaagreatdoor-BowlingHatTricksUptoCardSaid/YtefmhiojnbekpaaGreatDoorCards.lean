/-
  DERIVED. GIVEN WITH THE SEED: THE CARDS: each row of YtefmhiojnbekpaaGreatDoorRows.lean that lists a variable, with what it lists TIED to the program's text (the seventh form; the later family's looks); each row that meets fmt, with fmt's text TOLD by the authors' own Lean function (tested against real Go, not proved from fmt's source: count such statements apart). THE CARD IS WHAT COUNTS. Prove the row's statement (the work); the ties are given (YtefmhiojnbekpaaGreatDoorTie.lean); close each card by the builder's one call (the guide's Derived/Test/ToyasCard.lean, 'card_holds'). Laid BY PROGRAM, IN A SANDBOX (cutbox-door.mjs). By AI agents, Wed Nov 11 2026. No macro, syntax, notation, axiom, sorry.
-/
import Derived.Test.YtefmhiojnbekpaaGreatDoorRows
import GoSem.ClaimSeven
namespace Go.Proofs.YtefmhiojnbekpaaGreatDoor
namespace Rows

/-- THE TIED CARD OF 'scorebooklaw25.BowlingTexts'. -/
def bowlingTextsCard : Claim7 := { stood := { row := bowlingTextsRow, standIns := [], harness := (true, "16734fb02ca6867ddd5e5f7aa897d0dccbae539161b1f049639f4cbbeb78686b"), looks := false }, kinds := [], alts := [], laidByText := true, laidKinds := [.data, .data, .data], laidTests := true, laidLooks := .later }
def BowlingTextsCardSaid : Prop := Claim7.holds Tryz.pinned (.plain (OpenSpec.ofChange bowlingTextsSpec)) bowlingTextsCard

/-- THE TIED CARD OF 'scorebooklaw25.BowlingFigures'. -/
def bowlingFiguresCard : Claim7 := { stood := { row := bowlingFiguresRow, standIns := [], harness := (true, "16734fb02ca6867ddd5e5f7aa897d0dccbae539161b1f049639f4cbbeb78686b"), looks := false }, kinds := [], alts := [], laidByText := true, laidKinds := [.data, .data, .data], laidTests := true, laidLooks := .later }
def BowlingFiguresCardSaid : Prop := Claim7.holds Tryz.pinned (.plain (OpenSpec.ofChange bowlingFiguresSpec)) bowlingFiguresCard

/-- THE TIED CARD OF 'scorebooklaw25.BowlingMarks'. -/
def bowlingMarksCard : Claim7 := { stood := { row := bowlingMarksRow, standIns := [], harness := (true, "16734fb02ca6867ddd5e5f7aa897d0dccbae539161b1f049639f4cbbeb78686b"), looks := false }, kinds := [], alts := [], laidByText := true, laidKinds := [.data, .data, .data], laidTests := true, laidLooks := .later }
def BowlingMarksCardSaid : Prop := Claim7.holds Tryz.pinned (.plain (OpenSpec.ofChange bowlingMarksSpec)) bowlingMarksCard

/-- THE TIED CARD OF 'scorebooklaw25.BowlingHatTricks'. -/
def bowlingHatTricksCard : Claim7 := { stood := { row := bowlingHatTricksRow, standIns := [], harness := (true, "16734fb02ca6867ddd5e5f7aa897d0dccbae539161b1f049639f4cbbeb78686b"), looks := false }, kinds := [], alts := [], laidByText := true, laidKinds := [.data, .data, .data], laidTests := true, laidLooks := .later }
def BowlingHatTricksCardSaid : Prop := Claim7.holds Tryz.pinned (.plain (OpenSpec.ofChange bowlingHatTricksSpec)) bowlingHatTricksCard

/-- THE TIED CARD OF 'scorebooklaw25.BowlingAddsUp'. -/
def bowlingAddsUpCard : Claim7 := { stood := { row := bowlingAddsUpRow, standIns := [], harness := (true, "16734fb02ca6867ddd5e5f7aa897d0dccbae539161b1f049639f4cbbeb78686b"), looks := false }, kinds := [], alts := [], laidByText := true, laidKinds := [.data, .data, .data], laidTests := true, laidLooks := .later }
def BowlingAddsUpCardSaid : Prop := Claim7.holds Tryz.pinned (.plain (OpenSpec.ofChange bowlingAddsUpSpec)) bowlingAddsUpCard

/-- THE SECOND FORM's CARD OF 'scorebooklaw25.BowlingTexts'. -/
def bowlingTextsUptoCard : Claim7 := { stood := { row := bowlingTextsUptoRow, standIns := [], harness := (true, "16734fb02ca6867ddd5e5f7aa897d0dccbae539161b1f049639f4cbbeb78686b"), looks := false }, kinds := [], alts := [], laidByText := true, laidKinds := [.data, .data, .data], laidTests := true, laidLooks := .later }
def BowlingTextsUptoCardSaid : Prop := Claim7.holds Tryz.pinned (.plain (OpenSpec.upto bowlingTextsSpec)) bowlingTextsUptoCard

/-- THE SECOND FORM's CARD OF 'scorebooklaw25.BowlingFigures'. -/
def bowlingFiguresUptoCard : Claim7 := { stood := { row := bowlingFiguresUptoRow, standIns := [], harness := (true, "16734fb02ca6867ddd5e5f7aa897d0dccbae539161b1f049639f4cbbeb78686b"), looks := false }, kinds := [], alts := [], laidByText := true, laidKinds := [.data, .data, .data], laidTests := true, laidLooks := .later }
def BowlingFiguresUptoCardSaid : Prop := Claim7.holds Tryz.pinned (.plain (OpenSpec.upto bowlingFiguresSpec)) bowlingFiguresUptoCard

/-- THE SECOND FORM's CARD OF 'scorebooklaw25.BowlingMarks'. -/
def bowlingMarksUptoCard : Claim7 := { stood := { row := bowlingMarksUptoRow, standIns := [], harness := (true, "16734fb02ca6867ddd5e5f7aa897d0dccbae539161b1f049639f4cbbeb78686b"), looks := false }, kinds := [], alts := [], laidByText := true, laidKinds := [.data, .data, .data], laidTests := true, laidLooks := .later }
def BowlingMarksUptoCardSaid : Prop := Claim7.holds Tryz.pinned (.plain (OpenSpec.upto bowlingMarksSpec)) bowlingMarksUptoCard

/-- THE SECOND FORM's CARD OF 'scorebooklaw25.BowlingHatTricks'. -/
def bowlingHatTricksUptoCard : Claim7 := { stood := { row := bowlingHatTricksUptoRow, standIns := [], harness := (true, "16734fb02ca6867ddd5e5f7aa897d0dccbae539161b1f049639f4cbbeb78686b"), looks := false }, kinds := [], alts := [], laidByText := true, laidKinds := [.data, .data, .data], laidTests := true, laidLooks := .later }
def BowlingHatTricksUptoCardSaid : Prop := Claim7.holds Tryz.pinned (.plain (OpenSpec.upto bowlingHatTricksSpec)) bowlingHatTricksUptoCard

/-- THE SECOND FORM's CARD OF 'scorebooklaw25.BowlingAddsUp'. -/
def bowlingAddsUpUptoCard : Claim7 := { stood := { row := bowlingAddsUpUptoRow, standIns := [], harness := (true, "16734fb02ca6867ddd5e5f7aa897d0dccbae539161b1f049639f4cbbeb78686b"), looks := false }, kinds := [], alts := [], laidByText := true, laidKinds := [.data, .data, .data], laidTests := true, laidLooks := .later }
def BowlingAddsUpUptoCardSaid : Prop := Claim7.holds Tryz.pinned (.plain (OpenSpec.upto bowlingAddsUpSpec)) bowlingAddsUpUptoCard
end Rows
end Go.Proofs.YtefmhiojnbekpaaGreatDoor
