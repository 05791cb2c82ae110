/-
  No cell of these rows narrows 'for every input' (looked for: loops, veiled, ifaces, maps, wideKeys, modest, calm, conditions, laid).
  DERIVED. THE GIVEN ROWS OF THIS SEAT. 6 by the template 'for every input the law returns true; each argument reads behind the call as it read before'; 0 by the template 'total and deterministic' (their statements: YtmpgkalgfmnpjaaGreatTotals.lean).
  GIVEN WITH THE SEED: the statements are not yours to turn. If you find one false, say at which input.
  Laid BY PROGRAM, IN A SANDBOX (cutbox-rows.mjs): the forced cells as the released guide's own fill.sh prints them over the translation a7cc2809cce6afaf… (all of the seat's roots in one cut). By AI agents, Wed Nov 11 2026. No macro, syntax, notation, axiom, sorry.
-/
import Derived.Test.YtmpgkalgfmnpjaaGreatChecked
import GoSem.Claim
import GoSem.ClaimJoined
import GoSem.ClaimMapViews
import Derived.JoinedTies
import Derived.KernelRfl
namespace Go.Proofs.YtmpgkalgfmnpjaaGreat
/- THE CELL 'sum', in the pinned program and in every row, IS THE sha256 OF THE DUMP (.gsa) THAT YtmpgkalgfmnpjaaGreatProg.lean LOADS. Nothing in Lean hashes anything: it is a label: what it is worth is what the hold of that sum in a sandbox is worth. -/
noncomputable def Tryz.pinned : Pinned := { name := "ytmpgkalgfmnpjaagreat", sum := "a7cc2809cce6afafda99bc77f061884d4afe059b3df88a3f85ae63db0d808fe9", checked := Tryz.checked }
namespace Rows
def none {H : Type} : Left H := { results := [], args := [] }

/-- 'scorebooklaw19.TallySplits': WHATEVER THE INPUT: true; the input reads as it did. -/
def tallySplitsSpec : ChangeSpec := { name := "tallySplits", fn := fun _ => fun
  | [d] => { results := [.lit (.bool true)], args := [d] }
  | _ => none }
def tallySplitsRow : OpenClaim := { program := "ytmpgkalgfmnpjaagreat", sum := "a7cc2809cce6afafda99bc77f061884d4afe059b3df88a3f85ae63db0d808fe9", func := "scorebook/scorebooklaw19.TallySplits", spec := "tallySplits", inPlace := ["internal/bytealg.IndexByteString"], unfollowed := true, recurses := true, apart := false }
def TallySplitsSaid : Prop := tallySplitsRow.holds Tryz.pinned (OpenSpec.ofChange tallySplitsSpec)

/-- ITS FALSE NEIGHBOUR: 'it returns false'. Refute it at one input. -/
def tallySplitsWrong : ChangeSpec := { name := "tallySplits", fn := fun _ => fun
  | [d] => { results := [.lit (.bool false)], args := [d] }
  | _ => none }
def TallySplitsWrongFalsely : Prop := tallySplitsRow.holds Tryz.pinned (OpenSpec.ofChange tallySplitsWrong)

/-- 'scorebooklaw19.TallyTotals': WHATEVER THE INPUT: true; the input reads as it did. -/
def tallyTotalsSpec : ChangeSpec := { name := "tallyTotals", fn := fun _ => fun
  | [d1, d2] => { results := [.lit (.bool true)], args := [d1, d2] }
  | _ => none }
def tallyTotalsRow : OpenClaim := { program := "ytmpgkalgfmnpjaagreat", sum := "a7cc2809cce6afafda99bc77f061884d4afe059b3df88a3f85ae63db0d808fe9", func := "scorebook/scorebooklaw19.TallyTotals", spec := "tallyTotals", inPlace := ["internal/bytealg.IndexByteString"], unfollowed := true, recurses := true, apart := false }
def TallyTotalsSaid : Prop := tallyTotalsRow.holds Tryz.pinned (OpenSpec.ofChange tallyTotalsSpec)

/-- ITS FALSE NEIGHBOUR: 'it returns false'. Refute it at one input. -/
def tallyTotalsWrong : ChangeSpec := { name := "tallyTotals", fn := fun _ => fun
  | [d1, d2] => { results := [.lit (.bool false)], args := [d1, d2] }
  | _ => none }
def TallyTotalsWrongFalsely : Prop := tallyTotalsRow.holds Tryz.pinned (OpenSpec.ofChange tallyTotalsWrong)

/-- 'scorebooklaw19.TallyParties': WHATEVER THE INPUT: true; the input reads as it did. -/
def tallyPartiesSpec : ChangeSpec := { name := "tallyParties", fn := fun _ => fun
  | [d1, d2, d3] => { results := [.lit (.bool true)], args := [d1, d2, d3] }
  | _ => none }
def tallyPartiesRow : OpenClaim := { program := "ytmpgkalgfmnpjaagreat", sum := "a7cc2809cce6afafda99bc77f061884d4afe059b3df88a3f85ae63db0d808fe9", func := "scorebook/scorebooklaw19.TallyParties", spec := "tallyParties", inPlace := ["internal/bytealg.IndexByteString"], unfollowed := true, recurses := true, apart := false }
def TallyPartiesSaid : Prop := tallyPartiesRow.holds Tryz.pinned (OpenSpec.ofChange tallyPartiesSpec)

/-- ITS FALSE NEIGHBOUR: 'it returns false'. Refute it at one input. -/
def tallyPartiesWrong : ChangeSpec := { name := "tallyParties", fn := fun _ => fun
  | [d1, d2, d3] => { results := [.lit (.bool false)], args := [d1, d2, d3] }
  | _ => none }
def TallyPartiesWrongFalsely : Prop := tallyPartiesRow.holds Tryz.pinned (OpenSpec.ofChange tallyPartiesWrong)

/-- 'scorebooklaw19.TallyAddsUp': WHATEVER THE INPUT: true; the input reads as it did. -/
def tallyAddsUpSpec : ChangeSpec := { name := "tallyAddsUp", fn := fun _ => fun
  | [d1, d2] => { results := [.lit (.bool true)], args := [d1, d2] }
  | _ => none }
def tallyAddsUpRow : OpenClaim := { program := "ytmpgkalgfmnpjaagreat", sum := "a7cc2809cce6afafda99bc77f061884d4afe059b3df88a3f85ae63db0d808fe9", func := "scorebook/scorebooklaw19.TallyAddsUp", spec := "tallyAddsUp", inPlace := ["internal/bytealg.IndexByteString"], unfollowed := true, recurses := true, apart := false }
def TallyAddsUpSaid : Prop := tallyAddsUpRow.holds Tryz.pinned (OpenSpec.ofChange tallyAddsUpSpec)

/-- ITS FALSE NEIGHBOUR: 'it returns false'. Refute it at one input. -/
def tallyAddsUpWrong : ChangeSpec := { name := "tallyAddsUp", fn := fun _ => fun
  | [d1, d2] => { results := [.lit (.bool false)], args := [d1, d2] }
  | _ => none }
def TallyAddsUpWrongFalsely : Prop := tallyAddsUpRow.holds Tryz.pinned (OpenSpec.ofChange tallyAddsUpWrong)

/-- 'scorebooklaw19.TallyPrefix': WHATEVER THE INPUT: true; the input reads as it did. -/
def tallyPrefixSpec : ChangeSpec := { name := "tallyPrefix", fn := fun _ => fun
  | [d1, d2] => { results := [.lit (.bool true)], args := [d1, d2] }
  | _ => none }
def tallyPrefixRow : OpenClaim := { program := "ytmpgkalgfmnpjaagreat", sum := "a7cc2809cce6afafda99bc77f061884d4afe059b3df88a3f85ae63db0d808fe9", func := "scorebook/scorebooklaw19.TallyPrefix", spec := "tallyPrefix", inPlace := ["internal/bytealg.IndexByteString"], unfollowed := true, recurses := true, apart := false }
def TallyPrefixSaid : Prop := tallyPrefixRow.holds Tryz.pinned (OpenSpec.ofChange tallyPrefixSpec)

/-- ITS FALSE NEIGHBOUR: 'it returns false'. Refute it at one input. -/
def tallyPrefixWrong : ChangeSpec := { name := "tallyPrefix", fn := fun _ => fun
  | [d1, d2] => { results := [.lit (.bool false)], args := [d1, d2] }
  | _ => none }
def TallyPrefixWrongFalsely : Prop := tallyPrefixRow.holds Tryz.pinned (OpenSpec.ofChange tallyPrefixWrong)

/-- 'scorebooklaw19.TallyAgrees': WHATEVER THE INPUT: true; the input reads as it did. -/
def tallyAgreesSpec : ChangeSpec := { name := "tallyAgrees", fn := fun _ => fun
  | [d1, d2] => { results := [.lit (.bool true)], args := [d1, d2] }
  | _ => none }
def tallyAgreesRow : OpenClaim := { program := "ytmpgkalgfmnpjaagreat", sum := "a7cc2809cce6afafda99bc77f061884d4afe059b3df88a3f85ae63db0d808fe9", func := "scorebook/scorebooklaw19.TallyAgrees", spec := "tallyAgrees", inPlace := ["internal/bytealg.IndexByteString"], unfollowed := true, recurses := true, apart := false }
def TallyAgreesSaid : Prop := tallyAgreesRow.holds Tryz.pinned (OpenSpec.ofChange tallyAgreesSpec)

/-- ITS FALSE NEIGHBOUR: 'it returns false'. Refute it at one input. -/
def tallyAgreesWrong : ChangeSpec := { name := "tallyAgrees", fn := fun _ => fun
  | [d1, d2] => { results := [.lit (.bool false)], args := [d1, d2] }
  | _ => none }
def TallyAgreesWrongFalsely : Prop := tallyAgreesRow.holds Tryz.pinned (OpenSpec.ofChange tallyAgreesWrong)

/- THE SECOND FORM. 'bulk': how many values and letters a reading holds, each counted each time it is reached (what is shared counts as often as it is met; a slice's spare places count too). A statement '..UptoSaid' is the law's where the arguments, and the package variables that the reading takes, are together of bulk at most 1048576: NARROWER than '..Said'. Prove '..Said' where nothing that the law and all that it calls make is longer than what came in: it says more and counts as full. Else prove '..UptoSaid'. A law counts once. -/
mutual
def uptoBulk {H : Type} : DataW H → Nat
  | .lit (.string bytes) => bytes.length + 1
  | .lit _ => 1
  | .nil => 1
  | .ptr d => uptoBulk d + 1
  | .slice elems spare => uptoBulkAll elems + uptoBulkAll spare + 1
  | .agg parts => uptoBulkAll parts + 1
  | .iface _ d => uptoBulk d + 1
  | .map entries => uptoBulkEntries entries + 1
  | .held _ => 1
def uptoBulkAll {H : Type} : List (DataW H) → Nat
  | [] => 0
  | d :: r => uptoBulk d + uptoBulkAll r
def uptoBulkEntries {H : Type} : List (Lit × DataW H) → Nat
  | [] => 0
  | x :: r => uptoBulkEntry x + uptoBulkEntries r
def uptoBulkEntry {H : Type} : Lit × DataW H → Nat
  | (.string bytes, d) => bytes.length + uptoBulk d + 1
  | (_, d) => uptoBulk d + 1
 end
def uptoSmall : (H : Type) → List (DataW H) → Bool := fun _ ds => decide (uptoBulkAll ds ≤ 1048576)
def OpenSpec.upto (s : _root_.Go.ChangeSpec) : _root_.Go.OpenSpec := { _root_.Go.OpenSpec.ofChange s with cond := some uptoSmall }

/-- 'scorebooklaw19.TallySplits', WHERE WHAT IT READS IS OF BULK AT MOST 1048576: true; the input reads as it did. -/
def tallySplitsUptoRow : OpenClaim := { program := "ytmpgkalgfmnpjaagreat", sum := "a7cc2809cce6afafda99bc77f061884d4afe059b3df88a3f85ae63db0d808fe9", func := "scorebook/scorebooklaw19.TallySplits", spec := "tallySplits", inPlace := ["internal/bytealg.IndexByteString"], unfollowed := true, recurses := true, apart := false, narrowed := true }
def TallySplitsUptoSaid : Prop := tallySplitsUptoRow.holds Tryz.pinned (OpenSpec.upto tallySplitsSpec)

/-- 'scorebooklaw19.TallyTotals', WHERE WHAT IT READS IS OF BULK AT MOST 1048576: true; the input reads as it did. -/
def tallyTotalsUptoRow : OpenClaim := { program := "ytmpgkalgfmnpjaagreat", sum := "a7cc2809cce6afafda99bc77f061884d4afe059b3df88a3f85ae63db0d808fe9", func := "scorebook/scorebooklaw19.TallyTotals", spec := "tallyTotals", inPlace := ["internal/bytealg.IndexByteString"], unfollowed := true, recurses := true, apart := false, narrowed := true }
def TallyTotalsUptoSaid : Prop := tallyTotalsUptoRow.holds Tryz.pinned (OpenSpec.upto tallyTotalsSpec)

/-- 'scorebooklaw19.TallyParties', WHERE WHAT IT READS IS OF BULK AT MOST 1048576: true; the input reads as it did. -/
def tallyPartiesUptoRow : OpenClaim := { program := "ytmpgkalgfmnpjaagreat", sum := "a7cc2809cce6afafda99bc77f061884d4afe059b3df88a3f85ae63db0d808fe9", func := "scorebook/scorebooklaw19.TallyParties", spec := "tallyParties", inPlace := ["internal/bytealg.IndexByteString"], unfollowed := true, recurses := true, apart := false, narrowed := true }
def TallyPartiesUptoSaid : Prop := tallyPartiesUptoRow.holds Tryz.pinned (OpenSpec.upto tallyPartiesSpec)

/-- 'scorebooklaw19.TallyAddsUp', WHERE WHAT IT READS IS OF BULK AT MOST 1048576: true; the input reads as it did. -/
def tallyAddsUpUptoRow : OpenClaim := { program := "ytmpgkalgfmnpjaagreat", sum := "a7cc2809cce6afafda99bc77f061884d4afe059b3df88a3f85ae63db0d808fe9", func := "scorebook/scorebooklaw19.TallyAddsUp", spec := "tallyAddsUp", inPlace := ["internal/bytealg.IndexByteString"], unfollowed := true, recurses := true, apart := false, narrowed := true }
def TallyAddsUpUptoSaid : Prop := tallyAddsUpUptoRow.holds Tryz.pinned (OpenSpec.upto tallyAddsUpSpec)

/-- 'scorebooklaw19.TallyPrefix', WHERE WHAT IT READS IS OF BULK AT MOST 1048576: true; the input reads as it did. -/
def tallyPrefixUptoRow : OpenClaim := { program := "ytmpgkalgfmnpjaagreat", sum := "a7cc2809cce6afafda99bc77f061884d4afe059b3df88a3f85ae63db0d808fe9", func := "scorebook/scorebooklaw19.TallyPrefix", spec := "tallyPrefix", inPlace := ["internal/bytealg.IndexByteString"], unfollowed := true, recurses := true, apart := false, narrowed := true }
def TallyPrefixUptoSaid : Prop := tallyPrefixUptoRow.holds Tryz.pinned (OpenSpec.upto tallyPrefixSpec)

/-- 'scorebooklaw19.TallyAgrees', WHERE WHAT IT READS IS OF BULK AT MOST 1048576: true; the input reads as it did. -/
def tallyAgreesUptoRow : OpenClaim := { program := "ytmpgkalgfmnpjaagreat", sum := "a7cc2809cce6afafda99bc77f061884d4afe059b3df88a3f85ae63db0d808fe9", func := "scorebook/scorebooklaw19.TallyAgrees", spec := "tallyAgrees", inPlace := ["internal/bytealg.IndexByteString"], unfollowed := true, recurses := true, apart := false, narrowed := true }
def TallyAgreesUptoSaid : Prop := tallyAgreesUptoRow.holds Tryz.pinned (OpenSpec.upto tallyAgreesSpec)

end Rows
end Go.Proofs.YtmpgkalgfmnpjaaGreat
