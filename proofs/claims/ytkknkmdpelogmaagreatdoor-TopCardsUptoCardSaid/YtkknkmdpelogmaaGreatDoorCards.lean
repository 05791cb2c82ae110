/-
  DERIVED. GIVEN WITH THE SEED: THE CARDS: each row of YtkknkmdpelogmaaGreatDoorRows.lean that lists a variable, with what it lists TIED to the program's text (the seventh form; the later family's looks); each row that meets fmt, with fmt's text TOLD by the authors' own Lean function (tested against real Go, not proved from fmt's source: count such statements apart). THE CARD IS WHAT COUNTS. Prove the row's statement (the work); the ties are given (YtkknkmdpelogmaaGreatDoorTie.lean); close each card by the builder's one call (the guide's Derived/Test/ToyasCard.lean, 'card_holds'). Laid BY PROGRAM, IN A SANDBOX (cutbox-door.mjs). By AI agents, Wed Nov 11 2026. No macro, syntax, notation, axiom, sorry.
-/
import Derived.Test.YtkknkmdpelogmaaGreatDoorRows
import GoSem.ClaimSeven
namespace Go.Proofs.YtkknkmdpelogmaaGreatDoor
namespace Rows

/-- THE TIED CARD OF 'scorebooktop.TopCards'. -/
def topCardsCard : Claim7 := { stood := { row := topCardsRow, standIns := [], harness := (true, "9818bf395fcd4d68bf1d16818a6150fbe17b4fa6a251d2684252ef607177f0e4"), looks := false }, kinds := [], alts := [], laidByText := true, laidKinds := [.data, .data, .data], laidTests := true, laidLooks := .later }
def TopCardsCardSaid : Prop := Claim7.holds Tryz.pinned (.plain (OpenSpec.ofChange topCardsSpec)) topCardsCard

/-- THE SECOND FORM's CARD OF 'scorebooktop.TopCards'. -/
def topCardsUptoCard : Claim7 := { stood := { row := topCardsUptoRow, standIns := [], harness := (true, "9818bf395fcd4d68bf1d16818a6150fbe17b4fa6a251d2684252ef607177f0e4"), looks := false }, kinds := [], alts := [], laidByText := true, laidKinds := [.data, .data, .data], laidTests := true, laidLooks := .later }
def TopCardsUptoCardSaid : Prop := Claim7.holds Tryz.pinned (.plain (OpenSpec.upto topCardsSpec)) topCardsUptoCard
end Rows
end Go.Proofs.YtkknkmdpelogmaaGreatDoor
