/-
  DERIVED. GIVEN WITH THE SEED: THE CARDS: each row of YtlbbobdcfhkkfaaGreatDoorRows.lean that lists a variable, with what it lists TIED to the program's text (the seventh form; the later family's looks); each row that meets fmt, with fmt's text TOLD by the authors' own Lean function (tested against real Go, not proved from fmt's source: count such statements apart). THE CARD IS WHAT COUNTS. Prove the row's statement (the work); the ties are given (YtlbbobdcfhkkfaaGreatDoorTie.lean); close each card by the builder's one call (the guide's Derived/Test/ToyasCard.lean, 'card_holds'). Laid BY PROGRAM, IN A SANDBOX (cutbox-door.mjs). By AI agents, Wed Nov 11 2026. No macro, syntax, notation, axiom, sorry.
-/
import Derived.Test.YtlbbobdcfhkkfaaGreatDoorRows
import GoSem.ClaimSeven
namespace Go.Proofs.YtlbbobdcfhkkfaaGreatDoor
namespace Rows

/-- THE TIED CARD OF 'scorebooktop.TopAddsUp'. -/
def topAddsUpCard : Claim7 := { stood := { row := topAddsUpRow, standIns := [], harness := (true, "8c361c571e052983955d29e00952364f7aa42b8f5a3e4bb3d89a3e0e99684d51"), looks := false }, kinds := [], alts := [], laidByText := true, laidKinds := [.data, .data, .data], laidTests := true, laidLooks := .later }
def TopAddsUpCardSaid : Prop := Claim7.holds Tryz.pinned (.plain (OpenSpec.ofChange topAddsUpSpec)) topAddsUpCard

/-- THE SECOND FORM's CARD OF 'scorebooktop.TopAddsUp'. -/
def topAddsUpUptoCard : Claim7 := { stood := { row := topAddsUpUptoRow, standIns := [], harness := (true, "8c361c571e052983955d29e00952364f7aa42b8f5a3e4bb3d89a3e0e99684d51"), looks := false }, kinds := [], alts := [], laidByText := true, laidKinds := [.data, .data, .data], laidTests := true, laidLooks := .later }
def TopAddsUpUptoCardSaid : Prop := Claim7.holds Tryz.pinned (.plain (OpenSpec.upto topAddsUpSpec)) topAddsUpUptoCard
end Rows
end Go.Proofs.YtlbbobdcfhkkfaaGreatDoor
