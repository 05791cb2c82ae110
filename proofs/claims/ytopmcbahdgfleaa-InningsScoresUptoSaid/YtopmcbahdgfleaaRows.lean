/-
  No cell of these rows narrows 'for every input' (looked for: loops, veiled, ifaces, maps, wideKeys, modest, calm, conditions, laid).
  DERIVED. THE GIVEN ROWS OF THIS SEAT. 2 by the template 'for every input the law returns true; each argument reads behind the call as it read before'; 0 by the template 'total and deterministic' (their statements: YtopmcbahdgfleaaTotals.lean).
  GIVEN WITH THE SEED: the statements are not yours to turn. If you find one false, say at which input.
  Laid BY PROGRAM, IN A SANDBOX (cutbox-rows.mjs): the forced cells as the released guide's own fill.sh prints them over the translation c449046793966b5d… (all of the seat's roots in one cut). By AI agents, Wed Nov 11 2026. No macro, syntax, notation, axiom, sorry.
-/
import Derived.Test.YtopmcbahdgfleaaChecked
import GoSem.Claim
import GoSem.ClaimJoined
import GoSem.ClaimMapViews
import Derived.JoinedTies
import Derived.KernelRfl
namespace Go.Proofs.Ytopmcbahdgfleaa
/- THE CELL 'sum', in the pinned program and in every row, IS THE sha256 OF THE DUMP (.gsa) THAT YtopmcbahdgfleaaProg.lean LOADS. Nothing in Lean hashes anything: it is a label: what it is worth is what the hold of that sum in a sandbox is worth. -/
noncomputable def Try.pinned : Pinned := { name := "ytopmcbahdgfleaa", sum := "c449046793966b5d61af4817a7569649c6111401abf3ee84b0340258041a2a8e", checked := Try.checked }
namespace Rows
def none {H : Type} : Left H := { results := [], args := [] }

/-- 'scorebooklaw14.InningsScores': WHATEVER THE INPUT: true; the input reads as it did. -/
def inningsScoresSpec : ChangeSpec := { name := "inningsScores", fn := fun _ => fun
  | [d1, d2, d3] => { results := [.lit (.bool true)], args := [d1, d2, d3] }
  | _ => none }
def inningsScoresRow : OpenClaim := { program := "ytopmcbahdgfleaa", sum := "c449046793966b5d61af4817a7569649c6111401abf3ee84b0340258041a2a8e", func := "scorebook/scorebooklaw14.InningsScores", spec := "inningsScores", inPlace := ["internal/bytealg.IndexByteString"], unfollowed := true, recurses := true, apart := false }
def InningsScoresSaid : Prop := inningsScoresRow.holds Try.pinned (OpenSpec.ofChange inningsScoresSpec)

/-- ITS FALSE NEIGHBOUR: 'it returns false'. Refute it at one input. -/
def inningsScoresWrong : ChangeSpec := { name := "inningsScores", fn := fun _ => fun
  | [d1, d2, d3] => { results := [.lit (.bool false)], args := [d1, d2, d3] }
  | _ => none }
def InningsScoresWrongFalsely : Prop := inningsScoresRow.holds Try.pinned (OpenSpec.ofChange inningsScoresWrong)

/-- 'scorebooklaw14.InningsEnds': WHATEVER THE INPUT: true; the input reads as it did. -/
def inningsEndsSpec : ChangeSpec := { name := "inningsEnds", fn := fun _ => fun
  | [d1, d2, d3] => { results := [.lit (.bool true)], args := [d1, d2, d3] }
  | _ => none }
def inningsEndsRow : OpenClaim := { program := "ytopmcbahdgfleaa", sum := "c449046793966b5d61af4817a7569649c6111401abf3ee84b0340258041a2a8e", func := "scorebook/scorebooklaw14.InningsEnds", spec := "inningsEnds", inPlace := ["internal/bytealg.IndexByteString"], unfollowed := true, recurses := true, apart := false }
def InningsEndsSaid : Prop := inningsEndsRow.holds Try.pinned (OpenSpec.ofChange inningsEndsSpec)

/-- ITS FALSE NEIGHBOUR: 'it returns false'. Refute it at one input. -/
def inningsEndsWrong : ChangeSpec := { name := "inningsEnds", fn := fun _ => fun
  | [d1, d2, d3] => { results := [.lit (.bool false)], args := [d1, d2, d3] }
  | _ => none }
def InningsEndsWrongFalsely : Prop := inningsEndsRow.holds Try.pinned (OpenSpec.ofChange inningsEndsWrong)

/- THE SECOND FORM. 'bulk': how many values and letters a reading holds, each counted each time it is reached (what is shared counts as often as it is met; a slice's spare places count too). A statement '..UptoSaid' is the law's where the arguments, and the package variables that the reading takes, are together of bulk at most 1048576: NARROWER than '..Said'. Prove '..Said' where nothing that the law and all that it calls make is longer than what came in: it says more and counts as full. Else prove '..UptoSaid'. A law counts once. -/
mutual
def uptoBulk {H : Type} : DataW H → Nat
  | .lit (.string bytes) => bytes.length + 1
  | .lit _ => 1
  | .nil => 1
  | .ptr d => uptoBulk d + 1
  | .slice elems spare => uptoBulkAll elems + uptoBulkAll spare + 1
  | .agg parts => uptoBulkAll parts + 1
  | .iface _ d => uptoBulk d + 1
  | .map entries => uptoBulkEntries entries + 1
  | .held _ => 1
def uptoBulkAll {H : Type} : List (DataW H) → Nat
  | [] => 0
  | d :: r => uptoBulk d + uptoBulkAll r
def uptoBulkEntries {H : Type} : List (Lit × DataW H) → Nat
  | [] => 0
  | x :: r => uptoBulkEntry x + uptoBulkEntries r
def uptoBulkEntry {H : Type} : Lit × DataW H → Nat
  | (.string bytes, d) => bytes.length + uptoBulk d + 1
  | (_, d) => uptoBulk d + 1
 end
def uptoSmall : (H : Type) → List (DataW H) → Bool := fun _ ds => decide (uptoBulkAll ds ≤ 1048576)
def OpenSpec.upto (s : _root_.Go.ChangeSpec) : _root_.Go.OpenSpec := { _root_.Go.OpenSpec.ofChange s with cond := some uptoSmall }

/-- 'scorebooklaw14.InningsScores', WHERE WHAT IT READS IS OF BULK AT MOST 1048576: true; the input reads as it did. -/
def inningsScoresUptoRow : OpenClaim := { program := "ytopmcbahdgfleaa", sum := "c449046793966b5d61af4817a7569649c6111401abf3ee84b0340258041a2a8e", func := "scorebook/scorebooklaw14.InningsScores", spec := "inningsScores", inPlace := ["internal/bytealg.IndexByteString"], unfollowed := true, recurses := true, apart := false, narrowed := true }
def InningsScoresUptoSaid : Prop := inningsScoresUptoRow.holds Try.pinned (OpenSpec.upto inningsScoresSpec)

/-- 'scorebooklaw14.InningsEnds', WHERE WHAT IT READS IS OF BULK AT MOST 1048576: true; the input reads as it did. -/
def inningsEndsUptoRow : OpenClaim := { program := "ytopmcbahdgfleaa", sum := "c449046793966b5d61af4817a7569649c6111401abf3ee84b0340258041a2a8e", func := "scorebook/scorebooklaw14.InningsEnds", spec := "inningsEnds", inPlace := ["internal/bytealg.IndexByteString"], unfollowed := true, recurses := true, apart := false, narrowed := true }
def InningsEndsUptoSaid : Prop := inningsEndsUptoRow.holds Try.pinned (OpenSpec.upto inningsEndsSpec)

end Rows
end Go.Proofs.Ytopmcbahdgfleaa
