/-
  No cell of these rows narrows 'for every input' (looked for: loops, veiled, ifaces, maps, wideKeys, modest, calm, conditions, laid).
  DERIVED. THE GIVEN ROWS OF THIS SEAT. 6 by the template 'for every input the law returns true; each argument reads behind the call as it read before'; 0 by the template 'total and deterministic' (their statements: YteolngdncakekaaGreatTotals.lean).
  GIVEN WITH THE SEED: the statements are not yours to turn. If you find one false, say at which input.
  Laid BY PROGRAM, IN A SANDBOX (cutbox-rows.mjs): the forced cells as the released guide's own fill.sh prints them over the translation c393a391d4b8f47b… (all of the seat's roots in one cut). By AI agents, Wed Nov 11 2026. No macro, syntax, notation, axiom, sorry.
-/
import Derived.Test.YteolngdncakekaaGreatChecked
import GoSem.Claim
import GoSem.ClaimJoined
import GoSem.ClaimMapViews
import Derived.JoinedTies
import Derived.KernelRfl
namespace Go.Proofs.YteolngdncakekaaGreat
/- THE CELL 'sum', in the pinned program and in every row, IS THE sha256 OF THE DUMP (.gsa) THAT YteolngdncakekaaGreatProg.lean LOADS. Nothing in Lean hashes anything: it is a label: what it is worth is what the hold of that sum in a sandbox is worth. -/
noncomputable def Tryz.pinned : Pinned := { name := "yteolngdncakekaagreat", sum := "c393a391d4b8f47ba3b2299168daa79c3e43886dd88b30808b03dfa6f17c9270", checked := Tryz.checked }
namespace Rows
def none {H : Type} : Left H := { results := [], args := [] }

/-- 'scorebooklaw16.LegalListed': WHATEVER THE INPUT: true; the input reads as it did. -/
def legalListedSpec : ChangeSpec := { name := "legalListed", fn := fun _ => fun
  | [d1, d2] => { results := [.lit (.bool true)], args := [d1, d2] }
  | _ => none }
def legalListedRow : OpenClaim := { program := "yteolngdncakekaagreat", sum := "c393a391d4b8f47ba3b2299168daa79c3e43886dd88b30808b03dfa6f17c9270", func := "scorebook/scorebooklaw16.LegalListed", spec := "legalListed", inPlace := ["internal/bytealg.IndexByteString"], unfollowed := true, recurses := true, apart := false }
def LegalListedSaid : Prop := legalListedRow.holds Tryz.pinned (OpenSpec.ofChange legalListedSpec)

/-- ITS FALSE NEIGHBOUR: 'it returns false'. Refute it at one input. -/
def legalListedWrong : ChangeSpec := { name := "legalListed", fn := fun _ => fun
  | [d1, d2] => { results := [.lit (.bool false)], args := [d1, d2] }
  | _ => none }
def LegalListedWrongFalsely : Prop := legalListedRow.holds Tryz.pinned (OpenSpec.ofChange legalListedWrong)

/-- 'scorebooklaw16.LegalNames': WHATEVER THE INPUT: true; the input reads as it did. -/
def legalNamesSpec : ChangeSpec := { name := "legalNames", fn := fun _ => fun
  | [d1, d2] => { results := [.lit (.bool true)], args := [d1, d2] }
  | _ => none }
def legalNamesRow : OpenClaim := { program := "yteolngdncakekaagreat", sum := "c393a391d4b8f47ba3b2299168daa79c3e43886dd88b30808b03dfa6f17c9270", func := "scorebook/scorebooklaw16.LegalNames", spec := "legalNames", inPlace := ["internal/bytealg.IndexByteString"], unfollowed := true, recurses := true, apart := false }
def LegalNamesSaid : Prop := legalNamesRow.holds Tryz.pinned (OpenSpec.ofChange legalNamesSpec)

/-- ITS FALSE NEIGHBOUR: 'it returns false'. Refute it at one input. -/
def legalNamesWrong : ChangeSpec := { name := "legalNames", fn := fun _ => fun
  | [d1, d2] => { results := [.lit (.bool false)], args := [d1, d2] }
  | _ => none }
def LegalNamesWrongFalsely : Prop := legalNamesRow.holds Tryz.pinned (OpenSpec.ofChange legalNamesWrong)

/-- 'scorebooklaw16.LegalNext': WHATEVER THE INPUT: true; the input reads as it did. -/
def legalNextSpec : ChangeSpec := { name := "legalNext", fn := fun _ => fun
  | [d1, d2] => { results := [.lit (.bool true)], args := [d1, d2] }
  | _ => none }
def legalNextRow : OpenClaim := { program := "yteolngdncakekaagreat", sum := "c393a391d4b8f47ba3b2299168daa79c3e43886dd88b30808b03dfa6f17c9270", func := "scorebook/scorebooklaw16.LegalNext", spec := "legalNext", inPlace := ["internal/bytealg.IndexByteString"], unfollowed := true, recurses := true, apart := false }
def LegalNextSaid : Prop := legalNextRow.holds Tryz.pinned (OpenSpec.ofChange legalNextSpec)

/-- ITS FALSE NEIGHBOUR: 'it returns false'. Refute it at one input. -/
def legalNextWrong : ChangeSpec := { name := "legalNext", fn := fun _ => fun
  | [d1, d2] => { results := [.lit (.bool false)], args := [d1, d2] }
  | _ => none }
def LegalNextWrongFalsely : Prop := legalNextRow.holds Tryz.pinned (OpenSpec.ofChange legalNextWrong)

/-- 'scorebooklaw16.LegalBalls': WHATEVER THE INPUT: true; the input reads as it did. -/
def legalBallsSpec : ChangeSpec := { name := "legalBalls", fn := fun _ => fun
  | [d1, d2] => { results := [.lit (.bool true)], args := [d1, d2] }
  | _ => none }
def legalBallsRow : OpenClaim := { program := "yteolngdncakekaagreat", sum := "c393a391d4b8f47ba3b2299168daa79c3e43886dd88b30808b03dfa6f17c9270", func := "scorebook/scorebooklaw16.LegalBalls", spec := "legalBalls", inPlace := ["internal/bytealg.IndexByteString"], unfollowed := true, recurses := true, apart := false }
def LegalBallsSaid : Prop := legalBallsRow.holds Tryz.pinned (OpenSpec.ofChange legalBallsSpec)

/-- ITS FALSE NEIGHBOUR: 'it returns false'. Refute it at one input. -/
def legalBallsWrong : ChangeSpec := { name := "legalBalls", fn := fun _ => fun
  | [d1, d2] => { results := [.lit (.bool false)], args := [d1, d2] }
  | _ => none }
def LegalBallsWrongFalsely : Prop := legalBallsRow.holds Tryz.pinned (OpenSpec.ofChange legalBallsWrong)

/-- 'scorebooklaw16.LegalAccepts': WHATEVER THE INPUT: true; the input reads as it did. -/
def legalAcceptsSpec : ChangeSpec := { name := "legalAccepts", fn := fun _ => fun
  | [d1, d2, d3] => { results := [.lit (.bool true)], args := [d1, d2, d3] }
  | _ => none }
def legalAcceptsRow : OpenClaim := { program := "yteolngdncakekaagreat", sum := "c393a391d4b8f47ba3b2299168daa79c3e43886dd88b30808b03dfa6f17c9270", func := "scorebook/scorebooklaw16.LegalAccepts", spec := "legalAccepts", inPlace := ["internal/bytealg.IndexByteString"], unfollowed := true, recurses := true, apart := false }
def LegalAcceptsSaid : Prop := legalAcceptsRow.holds Tryz.pinned (OpenSpec.ofChange legalAcceptsSpec)

/-- ITS FALSE NEIGHBOUR: 'it returns false'. Refute it at one input. -/
def legalAcceptsWrong : ChangeSpec := { name := "legalAccepts", fn := fun _ => fun
  | [d1, d2, d3] => { results := [.lit (.bool false)], args := [d1, d2, d3] }
  | _ => none }
def LegalAcceptsWrongFalsely : Prop := legalAcceptsRow.holds Tryz.pinned (OpenSpec.ofChange legalAcceptsWrong)

/-- 'scorebooklaw16.LegalDeliveries': WHATEVER THE INPUT: true; the input reads as it did. -/
def legalDeliveriesSpec : ChangeSpec := { name := "legalDeliveries", fn := fun _ => fun
  | [d1, d2] => { results := [.lit (.bool true)], args := [d1, d2] }
  | _ => none }
def legalDeliveriesRow : OpenClaim := { program := "yteolngdncakekaagreat", sum := "c393a391d4b8f47ba3b2299168daa79c3e43886dd88b30808b03dfa6f17c9270", func := "scorebook/scorebooklaw16.LegalDeliveries", spec := "legalDeliveries", inPlace := ["internal/bytealg.IndexByteString"], unfollowed := true, recurses := true, apart := false }
def LegalDeliveriesSaid : Prop := legalDeliveriesRow.holds Tryz.pinned (OpenSpec.ofChange legalDeliveriesSpec)

/-- ITS FALSE NEIGHBOUR: 'it returns false'. Refute it at one input. -/
def legalDeliveriesWrong : ChangeSpec := { name := "legalDeliveries", fn := fun _ => fun
  | [d1, d2] => { results := [.lit (.bool false)], args := [d1, d2] }
  | _ => none }
def LegalDeliveriesWrongFalsely : Prop := legalDeliveriesRow.holds Tryz.pinned (OpenSpec.ofChange legalDeliveriesWrong)

/- THE SECOND FORM. 'bulk': how many values and letters a reading holds, each counted each time it is reached (what is shared counts as often as it is met; a slice's spare places count too). A statement '..UptoSaid' is the law's where the arguments, and the package variables that the reading takes, are together of bulk at most 1048576: NARROWER than '..Said'. Prove '..Said' where nothing that the law and all that it calls make is longer than what came in: it says more and counts as full. Else prove '..UptoSaid'. A law counts once. -/
mutual
def uptoBulk {H : Type} : DataW H → Nat
  | .lit (.string bytes) => bytes.length + 1
  | .lit _ => 1
  | .nil => 1
  | .ptr d => uptoBulk d + 1
  | .slice elems spare => uptoBulkAll elems + uptoBulkAll spare + 1
  | .agg parts => uptoBulkAll parts + 1
  | .iface _ d => uptoBulk d + 1
  | .map entries => uptoBulkEntries entries + 1
  | .held _ => 1
def uptoBulkAll {H : Type} : List (DataW H) → Nat
  | [] => 0
  | d :: r => uptoBulk d + uptoBulkAll r
def uptoBulkEntries {H : Type} : List (Lit × DataW H) → Nat
  | [] => 0
  | x :: r => uptoBulkEntry x + uptoBulkEntries r
def uptoBulkEntry {H : Type} : Lit × DataW H → Nat
  | (.string bytes, d) => bytes.length + uptoBulk d + 1
  | (_, d) => uptoBulk d + 1
 end
def uptoSmall : (H : Type) → List (DataW H) → Bool := fun _ ds => decide (uptoBulkAll ds ≤ 1048576)
def OpenSpec.upto (s : _root_.Go.ChangeSpec) : _root_.Go.OpenSpec := { _root_.Go.OpenSpec.ofChange s with cond := some uptoSmall }

/-- 'scorebooklaw16.LegalListed', WHERE WHAT IT READS IS OF BULK AT MOST 1048576: true; the input reads as it did. -/
def legalListedUptoRow : OpenClaim := { program := "yteolngdncakekaagreat", sum := "c393a391d4b8f47ba3b2299168daa79c3e43886dd88b30808b03dfa6f17c9270", func := "scorebook/scorebooklaw16.LegalListed", spec := "legalListed", inPlace := ["internal/bytealg.IndexByteString"], unfollowed := true, recurses := true, apart := false, narrowed := true }
def LegalListedUptoSaid : Prop := legalListedUptoRow.holds Tryz.pinned (OpenSpec.upto legalListedSpec)

/-- 'scorebooklaw16.LegalNames', WHERE WHAT IT READS IS OF BULK AT MOST 1048576: true; the input reads as it did. -/
def legalNamesUptoRow : OpenClaim := { program := "yteolngdncakekaagreat", sum := "c393a391d4b8f47ba3b2299168daa79c3e43886dd88b30808b03dfa6f17c9270", func := "scorebook/scorebooklaw16.LegalNames", spec := "legalNames", inPlace := ["internal/bytealg.IndexByteString"], unfollowed := true, recurses := true, apart := false, narrowed := true }
def LegalNamesUptoSaid : Prop := legalNamesUptoRow.holds Tryz.pinned (OpenSpec.upto legalNamesSpec)

/-- 'scorebooklaw16.LegalNext', WHERE WHAT IT READS IS OF BULK AT MOST 1048576: true; the input reads as it did. -/
def legalNextUptoRow : OpenClaim := { program := "yteolngdncakekaagreat", sum := "c393a391d4b8f47ba3b2299168daa79c3e43886dd88b30808b03dfa6f17c9270", func := "scorebook/scorebooklaw16.LegalNext", spec := "legalNext", inPlace := ["internal/bytealg.IndexByteString"], unfollowed := true, recurses := true, apart := false, narrowed := true }
def LegalNextUptoSaid : Prop := legalNextUptoRow.holds Tryz.pinned (OpenSpec.upto legalNextSpec)

/-- 'scorebooklaw16.LegalBalls', WHERE WHAT IT READS IS OF BULK AT MOST 1048576: true; the input reads as it did. -/
def legalBallsUptoRow : OpenClaim := { program := "yteolngdncakekaagreat", sum := "c393a391d4b8f47ba3b2299168daa79c3e43886dd88b30808b03dfa6f17c9270", func := "scorebook/scorebooklaw16.LegalBalls", spec := "legalBalls", inPlace := ["internal/bytealg.IndexByteString"], unfollowed := true, recurses := true, apart := false, narrowed := true }
def LegalBallsUptoSaid : Prop := legalBallsUptoRow.holds Tryz.pinned (OpenSpec.upto legalBallsSpec)

/-- 'scorebooklaw16.LegalAccepts', WHERE WHAT IT READS IS OF BULK AT MOST 1048576: true; the input reads as it did. -/
def legalAcceptsUptoRow : OpenClaim := { program := "yteolngdncakekaagreat", sum := "c393a391d4b8f47ba3b2299168daa79c3e43886dd88b30808b03dfa6f17c9270", func := "scorebook/scorebooklaw16.LegalAccepts", spec := "legalAccepts", inPlace := ["internal/bytealg.IndexByteString"], unfollowed := true, recurses := true, apart := false, narrowed := true }
def LegalAcceptsUptoSaid : Prop := legalAcceptsUptoRow.holds Tryz.pinned (OpenSpec.upto legalAcceptsSpec)

/-- 'scorebooklaw16.LegalDeliveries', WHERE WHAT IT READS IS OF BULK AT MOST 1048576: true; the input reads as it did. -/
def legalDeliveriesUptoRow : OpenClaim := { program := "yteolngdncakekaagreat", sum := "c393a391d4b8f47ba3b2299168daa79c3e43886dd88b30808b03dfa6f17c9270", func := "scorebook/scorebooklaw16.LegalDeliveries", spec := "legalDeliveries", inPlace := ["internal/bytealg.IndexByteString"], unfollowed := true, recurses := true, apart := false, narrowed := true }
def LegalDeliveriesUptoSaid : Prop := legalDeliveriesUptoRow.holds Tryz.pinned (OpenSpec.upto legalDeliveriesSpec)

end Rows
end Go.Proofs.YteolngdncakekaaGreat
