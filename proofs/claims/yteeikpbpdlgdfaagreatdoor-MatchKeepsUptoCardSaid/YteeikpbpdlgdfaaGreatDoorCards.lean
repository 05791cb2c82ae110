/-
  DERIVED. GIVEN WITH THE SEED: THE CARDS: each row of YteeikpbpdlgdfaaGreatDoorRows.lean that lists a variable, with what it lists TIED to the program's text (the seventh form; the later family's looks); each row that meets fmt, with fmt's text TOLD by the authors' own Lean function (tested against real Go, not proved from fmt's source: count such statements apart). THE CARD IS WHAT COUNTS. Prove the row's statement (the work); the ties are given (YteeikpbpdlgdfaaGreatDoorTie.lean); close each card by the builder's one call (the guide's Derived/Test/ToyasCard.lean, 'card_holds'). Laid BY PROGRAM, IN A SANDBOX (cutbox-door.mjs). By AI agents, Wed Nov 11 2026. No macro, syntax, notation, axiom, sorry.
-/
import Derived.Test.YteeikpbpdlgdfaaGreatDoorRows
import GoSem.ClaimSeven
namespace Go.Proofs.YteeikpbpdlgdfaaGreatDoor
namespace Rows

/-- THE TIED CARD OF 'scorebooklaw15.MatchKeeps'. -/
def matchKeepsCard : Claim7 := { stood := { row := matchKeepsRow, standIns := [], harness := (true, "3ca734d7e5ada259e831e54283ef07e9281a9d8307fbbd8b4b482c00b1971db2"), looks := false }, kinds := [], alts := [], laidByText := true, laidKinds := [.data, .data, .data], laidTests := true, laidLooks := .later }
def MatchKeepsCardSaid : Prop := Claim7.holds Tryz.pinned (.plain (OpenSpec.ofChange matchKeepsSpec)) matchKeepsCard

/-- THE SECOND FORM's CARD OF 'scorebooklaw15.MatchKeeps'. -/
def matchKeepsUptoCard : Claim7 := { stood := { row := matchKeepsUptoRow, standIns := [], harness := (true, "3ca734d7e5ada259e831e54283ef07e9281a9d8307fbbd8b4b482c00b1971db2"), looks := false }, kinds := [], alts := [], laidByText := true, laidKinds := [.data, .data, .data], laidTests := true, laidLooks := .later }
def MatchKeepsUptoCardSaid : Prop := Claim7.holds Tryz.pinned (.plain (OpenSpec.upto matchKeepsSpec)) matchKeepsUptoCard
end Rows
end Go.Proofs.YteeikpbpdlgdfaaGreatDoor
