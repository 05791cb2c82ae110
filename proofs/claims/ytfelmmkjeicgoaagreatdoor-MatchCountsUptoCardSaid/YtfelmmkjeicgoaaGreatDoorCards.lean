/-
  DERIVED. GIVEN WITH THE SEED: THE CARDS: each row of YtfelmmkjeicgoaaGreatDoorRows.lean that lists a variable, with what it lists TIED to the program's text (the seventh form; the later family's looks); each row that meets fmt, with fmt's text TOLD by the authors' own Lean function (tested against real Go, not proved from fmt's source: count such statements apart). THE CARD IS WHAT COUNTS. Prove the row's statement (the work); the ties are given (YtfelmmkjeicgoaaGreatDoorTie.lean); close each card by the builder's one call (the guide's Derived/Test/ToyasCard.lean, 'card_holds'). Laid BY PROGRAM, IN A SANDBOX (cutbox-door.mjs). By AI agents, Wed Nov 11 2026. No macro, syntax, notation, axiom, sorry.
-/
import Derived.Test.YtfelmmkjeicgoaaGreatDoorRows
import GoSem.ClaimSeven
namespace Go.Proofs.YtfelmmkjeicgoaaGreatDoor
namespace Rows

/-- THE TIED CARD OF 'scorebooklaw15.MatchCounts'. -/
def matchCountsCard : Claim7 := { stood := { row := matchCountsRow, standIns := [], harness := (true, "e4513531898e5226b90e2ef4fadeee97debfd8e9ca733ac810cb22e93c632b00"), looks := false }, kinds := [], alts := [], laidByText := true, laidKinds := [.data, .data, .data], laidTests := true, laidLooks := .later }
def MatchCountsCardSaid : Prop := Claim7.holds Tryz.pinned (.plain (OpenSpec.ofChange matchCountsSpec)) matchCountsCard

/-- THE SECOND FORM's CARD OF 'scorebooklaw15.MatchCounts'. -/
def matchCountsUptoCard : Claim7 := { stood := { row := matchCountsUptoRow, standIns := [], harness := (true, "e4513531898e5226b90e2ef4fadeee97debfd8e9ca733ac810cb22e93c632b00"), looks := false }, kinds := [], alts := [], laidByText := true, laidKinds := [.data, .data, .data], laidTests := true, laidLooks := .later }
def MatchCountsUptoCardSaid : Prop := Claim7.holds Tryz.pinned (.plain (OpenSpec.upto matchCountsSpec)) matchCountsUptoCard
end Rows
end Go.Proofs.YtfelmmkjeicgoaaGreatDoor
