/-
  No cell of these rows narrows 'for every input' (looked for: loops, veiled, ifaces, maps, wideKeys, modest, calm, conditions, laid).
  DERIVED. THE GIVEN ROWS OF THIS SEAT. 6 by the template 'for every input the law returns true; each argument reads behind the call as it read before'; 0 by the template 'total and deterministic' (their statements: YtapipgdcgmmkaaaGreatTotals.lean).
  GIVEN WITH THE SEED: the statements are not yours to turn. If you find one false, say at which input.
  Laid BY PROGRAM, IN A SANDBOX (cutbox-rows.mjs): the forced cells as the released guide's own fill.sh prints them over the translation e072d0c34c7592ba… (all of the seat's roots in one cut). By AI agents, Wed Nov 11 2026. No macro, syntax, notation, axiom, sorry.
-/
import Derived.Test.YtapipgdcgmmkaaaGreatChecked
import GoSem.Claim
import GoSem.ClaimJoined
import GoSem.ClaimMapViews
import Derived.JoinedTies
import Derived.KernelRfl
namespace Go.Proofs.YtapipgdcgmmkaaaGreat
/- THE CELL 'sum', in the pinned program and in every row, IS THE sha256 OF THE DUMP (.gsa) THAT YtapipgdcgmmkaaaGreatProg.lean LOADS. Nothing in Lean hashes anything: it is a label: what it is worth is what the hold of that sum in a sandbox is worth. -/
noncomputable def Tryz.pinned : Pinned := { name := "ytapipgdcgmmkaaagreat", sum := "e072d0c34c7592ba9bc97a5e02f37b26cff629c2df63e752f56d8096d5b598f5", checked := Tryz.checked }
namespace Rows
def none {H : Type} : Left H := { results := [], args := [] }

/-- 'scorebooklaw18.SuperoverDecides': WHATEVER THE INPUT: true; the input reads as it did. -/
def superoverDecidesSpec : ChangeSpec := { name := "superoverDecides", fn := fun _ => fun
  | [d1, d2, d3] => { results := [.lit (.bool true)], args := [d1, d2, d3] }
  | _ => none }
def superoverDecidesRow : OpenClaim := { program := "ytapipgdcgmmkaaagreat", sum := "e072d0c34c7592ba9bc97a5e02f37b26cff629c2df63e752f56d8096d5b598f5", func := "scorebook/scorebooklaw18.SuperoverDecides", spec := "superoverDecides", inPlace := ["internal/bytealg.IndexByteString"], unfollowed := true, recurses := true, apart := false }
def SuperoverDecidesSaid : Prop := superoverDecidesRow.holds Tryz.pinned (OpenSpec.ofChange superoverDecidesSpec)

/-- ITS FALSE NEIGHBOUR: 'it returns false'. Refute it at one input. -/
def superoverDecidesWrong : ChangeSpec := { name := "superoverDecides", fn := fun _ => fun
  | [d1, d2, d3] => { results := [.lit (.bool false)], args := [d1, d2, d3] }
  | _ => none }
def SuperoverDecidesWrongFalsely : Prop := superoverDecidesRow.holds Tryz.pinned (OpenSpec.ofChange superoverDecidesWrong)

/-- 'scorebooklaw18.SuperoverWins': WHATEVER THE INPUT: true; the input reads as it did. -/
def superoverWinsSpec : ChangeSpec := { name := "superoverWins", fn := fun _ => fun
  | [d1, d2] => { results := [.lit (.bool true)], args := [d1, d2] }
  | _ => none }
def superoverWinsRow : OpenClaim := { program := "ytapipgdcgmmkaaagreat", sum := "e072d0c34c7592ba9bc97a5e02f37b26cff629c2df63e752f56d8096d5b598f5", func := "scorebook/scorebooklaw18.SuperoverWins", spec := "superoverWins", inPlace := ["internal/bytealg.IndexByteString"], unfollowed := true, recurses := true, apart := false }
def SuperoverWinsSaid : Prop := superoverWinsRow.holds Tryz.pinned (OpenSpec.ofChange superoverWinsSpec)

/-- ITS FALSE NEIGHBOUR: 'it returns false'. Refute it at one input. -/
def superoverWinsWrong : ChangeSpec := { name := "superoverWins", fn := fun _ => fun
  | [d1, d2] => { results := [.lit (.bool false)], args := [d1, d2] }
  | _ => none }
def SuperoverWinsWrongFalsely : Prop := superoverWinsRow.holds Tryz.pinned (OpenSpec.ofChange superoverWinsWrong)

/-- 'scorebooklaw18.SuperoverAgrees': WHATEVER THE INPUT: true; the input reads as it did. -/
def superoverAgreesSpec : ChangeSpec := { name := "superoverAgrees", fn := fun _ => fun
  | [d1, d2, d3] => { results := [.lit (.bool true)], args := [d1, d2, d3] }
  | _ => none }
def superoverAgreesRow : OpenClaim := { program := "ytapipgdcgmmkaaagreat", sum := "e072d0c34c7592ba9bc97a5e02f37b26cff629c2df63e752f56d8096d5b598f5", func := "scorebook/scorebooklaw18.SuperoverAgrees", spec := "superoverAgrees", inPlace := ["internal/bytealg.IndexByteString"], unfollowed := true, recurses := true, apart := false }
def SuperoverAgreesSaid : Prop := superoverAgreesRow.holds Tryz.pinned (OpenSpec.ofChange superoverAgreesSpec)

/-- ITS FALSE NEIGHBOUR: 'it returns false'. Refute it at one input. -/
def superoverAgreesWrong : ChangeSpec := { name := "superoverAgrees", fn := fun _ => fun
  | [d1, d2, d3] => { results := [.lit (.bool false)], args := [d1, d2, d3] }
  | _ => none }
def SuperoverAgreesWrongFalsely : Prop := superoverAgreesRow.holds Tryz.pinned (OpenSpec.ofChange superoverAgreesWrong)

/-- 'scorebooklaw18.SuperoverRules': WHATEVER THE INPUT: true; the input reads as it did. -/
def superoverRulesSpec : ChangeSpec := { name := "superoverRules", fn := fun _ => fun
  | [d] => { results := [.lit (.bool true)], args := [d] }
  | _ => none }
def superoverRulesRow : OpenClaim := { program := "ytapipgdcgmmkaaagreat", sum := "e072d0c34c7592ba9bc97a5e02f37b26cff629c2df63e752f56d8096d5b598f5", func := "scorebook/scorebooklaw18.SuperoverRules", spec := "superoverRules", inPlace := ["internal/bytealg.IndexByteString"], unfollowed := true, recurses := true, apart := false }
def SuperoverRulesSaid : Prop := superoverRulesRow.holds Tryz.pinned (OpenSpec.ofChange superoverRulesSpec)

/-- ITS FALSE NEIGHBOUR: 'it returns false'. Refute it at one input. -/
def superoverRulesWrong : ChangeSpec := { name := "superoverRules", fn := fun _ => fun
  | [d] => { results := [.lit (.bool false)], args := [d] }
  | _ => none }
def SuperoverRulesWrongFalsely : Prop := superoverRulesRow.holds Tryz.pinned (OpenSpec.ofChange superoverRulesWrong)

/-- 'scorebooklaw18.SuperoverReplays': WHATEVER THE INPUT: true; the input reads as it did. -/
def superoverReplaysSpec : ChangeSpec := { name := "superoverReplays", fn := fun _ => fun
  | [d1, d2, d3] => { results := [.lit (.bool true)], args := [d1, d2, d3] }
  | _ => none }
def superoverReplaysRow : OpenClaim := { program := "ytapipgdcgmmkaaagreat", sum := "e072d0c34c7592ba9bc97a5e02f37b26cff629c2df63e752f56d8096d5b598f5", func := "scorebook/scorebooklaw18.SuperoverReplays", spec := "superoverReplays", inPlace := ["internal/bytealg.IndexByteString"], unfollowed := true, recurses := true, apart := false }
def SuperoverReplaysSaid : Prop := superoverReplaysRow.holds Tryz.pinned (OpenSpec.ofChange superoverReplaysSpec)

/-- ITS FALSE NEIGHBOUR: 'it returns false'. Refute it at one input. -/
def superoverReplaysWrong : ChangeSpec := { name := "superoverReplays", fn := fun _ => fun
  | [d1, d2, d3] => { results := [.lit (.bool false)], args := [d1, d2, d3] }
  | _ => none }
def SuperoverReplaysWrongFalsely : Prop := superoverReplaysRow.holds Tryz.pinned (OpenSpec.ofChange superoverReplaysWrong)

/-- 'scorebooklaw18.SuperoverFirst': WHATEVER THE INPUT: true; the input reads as it did. -/
def superoverFirstSpec : ChangeSpec := { name := "superoverFirst", fn := fun _ => fun
  | [d] => { results := [.lit (.bool true)], args := [d] }
  | _ => none }
def superoverFirstRow : OpenClaim := { program := "ytapipgdcgmmkaaagreat", sum := "e072d0c34c7592ba9bc97a5e02f37b26cff629c2df63e752f56d8096d5b598f5", func := "scorebook/scorebooklaw18.SuperoverFirst", spec := "superoverFirst", inPlace := ["internal/bytealg.IndexByteString"], unfollowed := true, recurses := true, apart := false }
def SuperoverFirstSaid : Prop := superoverFirstRow.holds Tryz.pinned (OpenSpec.ofChange superoverFirstSpec)

/-- ITS FALSE NEIGHBOUR: 'it returns false'. Refute it at one input. -/
def superoverFirstWrong : ChangeSpec := { name := "superoverFirst", fn := fun _ => fun
  | [d] => { results := [.lit (.bool false)], args := [d] }
  | _ => none }
def SuperoverFirstWrongFalsely : Prop := superoverFirstRow.holds Tryz.pinned (OpenSpec.ofChange superoverFirstWrong)

/- THE SECOND FORM. 'bulk': how many values and letters a reading holds, each counted each time it is reached (what is shared counts as often as it is met; a slice's spare places count too). A statement '..UptoSaid' is the law's where the arguments, and the package variables that the reading takes, are together of bulk at most 1048576: NARROWER than '..Said'. Prove '..Said' where nothing that the law and all that it calls make is longer than what came in: it says more and counts as full. Else prove '..UptoSaid'. A law counts once. -/
mutual
def uptoBulk {H : Type} : DataW H → Nat
  | .lit (.string bytes) => bytes.length + 1
  | .lit _ => 1
  | .nil => 1
  | .ptr d => uptoBulk d + 1
  | .slice elems spare => uptoBulkAll elems + uptoBulkAll spare + 1
  | .agg parts => uptoBulkAll parts + 1
  | .iface _ d => uptoBulk d + 1
  | .map entries => uptoBulkEntries entries + 1
  | .held _ => 1
def uptoBulkAll {H : Type} : List (DataW H) → Nat
  | [] => 0
  | d :: r => uptoBulk d + uptoBulkAll r
def uptoBulkEntries {H : Type} : List (Lit × DataW H) → Nat
  | [] => 0
  | x :: r => uptoBulkEntry x + uptoBulkEntries r
def uptoBulkEntry {H : Type} : Lit × DataW H → Nat
  | (.string bytes, d) => bytes.length + uptoBulk d + 1
  | (_, d) => uptoBulk d + 1
 end
def uptoSmall : (H : Type) → List (DataW H) → Bool := fun _ ds => decide (uptoBulkAll ds ≤ 1048576)
def OpenSpec.upto (s : _root_.Go.ChangeSpec) : _root_.Go.OpenSpec := { _root_.Go.OpenSpec.ofChange s with cond := some uptoSmall }

/-- 'scorebooklaw18.SuperoverDecides', WHERE WHAT IT READS IS OF BULK AT MOST 1048576: true; the input reads as it did. -/
def superoverDecidesUptoRow : OpenClaim := { program := "ytapipgdcgmmkaaagreat", sum := "e072d0c34c7592ba9bc97a5e02f37b26cff629c2df63e752f56d8096d5b598f5", func := "scorebook/scorebooklaw18.SuperoverDecides", spec := "superoverDecides", inPlace := ["internal/bytealg.IndexByteString"], unfollowed := true, recurses := true, apart := false, narrowed := true }
def SuperoverDecidesUptoSaid : Prop := superoverDecidesUptoRow.holds Tryz.pinned (OpenSpec.upto superoverDecidesSpec)

/-- 'scorebooklaw18.SuperoverWins', WHERE WHAT IT READS IS OF BULK AT MOST 1048576: true; the input reads as it did. -/
def superoverWinsUptoRow : OpenClaim := { program := "ytapipgdcgmmkaaagreat", sum := "e072d0c34c7592ba9bc97a5e02f37b26cff629c2df63e752f56d8096d5b598f5", func := "scorebook/scorebooklaw18.SuperoverWins", spec := "superoverWins", inPlace := ["internal/bytealg.IndexByteString"], unfollowed := true, recurses := true, apart := false, narrowed := true }
def SuperoverWinsUptoSaid : Prop := superoverWinsUptoRow.holds Tryz.pinned (OpenSpec.upto superoverWinsSpec)

/-- 'scorebooklaw18.SuperoverAgrees', WHERE WHAT IT READS IS OF BULK AT MOST 1048576: true; the input reads as it did. -/
def superoverAgreesUptoRow : OpenClaim := { program := "ytapipgdcgmmkaaagreat", sum := "e072d0c34c7592ba9bc97a5e02f37b26cff629c2df63e752f56d8096d5b598f5", func := "scorebook/scorebooklaw18.SuperoverAgrees", spec := "superoverAgrees", inPlace := ["internal/bytealg.IndexByteString"], unfollowed := true, recurses := true, apart := false, narrowed := true }
def SuperoverAgreesUptoSaid : Prop := superoverAgreesUptoRow.holds Tryz.pinned (OpenSpec.upto superoverAgreesSpec)

/-- 'scorebooklaw18.SuperoverRules', WHERE WHAT IT READS IS OF BULK AT MOST 1048576: true; the input reads as it did. -/
def superoverRulesUptoRow : OpenClaim := { program := "ytapipgdcgmmkaaagreat", sum := "e072d0c34c7592ba9bc97a5e02f37b26cff629c2df63e752f56d8096d5b598f5", func := "scorebook/scorebooklaw18.SuperoverRules", spec := "superoverRules", inPlace := ["internal/bytealg.IndexByteString"], unfollowed := true, recurses := true, apart := false, narrowed := true }
def SuperoverRulesUptoSaid : Prop := superoverRulesUptoRow.holds Tryz.pinned (OpenSpec.upto superoverRulesSpec)

/-- 'scorebooklaw18.SuperoverReplays', WHERE WHAT IT READS IS OF BULK AT MOST 1048576: true; the input reads as it did. -/
def superoverReplaysUptoRow : OpenClaim := { program := "ytapipgdcgmmkaaagreat", sum := "e072d0c34c7592ba9bc97a5e02f37b26cff629c2df63e752f56d8096d5b598f5", func := "scorebook/scorebooklaw18.SuperoverReplays", spec := "superoverReplays", inPlace := ["internal/bytealg.IndexByteString"], unfollowed := true, recurses := true, apart := false, narrowed := true }
def SuperoverReplaysUptoSaid : Prop := superoverReplaysUptoRow.holds Tryz.pinned (OpenSpec.upto superoverReplaysSpec)

/-- 'scorebooklaw18.SuperoverFirst', WHERE WHAT IT READS IS OF BULK AT MOST 1048576: true; the input reads as it did. -/
def superoverFirstUptoRow : OpenClaim := { program := "ytapipgdcgmmkaaagreat", sum := "e072d0c34c7592ba9bc97a5e02f37b26cff629c2df63e752f56d8096d5b598f5", func := "scorebook/scorebooklaw18.SuperoverFirst", spec := "superoverFirst", inPlace := ["internal/bytealg.IndexByteString"], unfollowed := true, recurses := true, apart := false, narrowed := true }
def SuperoverFirstUptoSaid : Prop := superoverFirstUptoRow.holds Tryz.pinned (OpenSpec.upto superoverFirstSpec)

end Rows
end Go.Proofs.YtapipgdcgmmkaaaGreat
