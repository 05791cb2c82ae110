/-
  No cell of these rows narrows 'for every input' (looked for: loops, veiled, ifaces, maps, wideKeys, modest, calm, conditions, laid).
  DERIVED. THE GIVEN ROWS OF THIS SEAT. 10 by the template 'for every input the law returns true; each argument reads behind the call as it read before'; 0 by the template 'total and deterministic' (their statements: YtopmcbahdgfleaaGreatTotals.lean).
  GIVEN WITH THE SEED: the statements are not yours to turn. If you find one false, say at which input.
  Laid BY PROGRAM, IN A SANDBOX (cutbox-rows.mjs): the forced cells as the released guide's own fill.sh prints them over the translation ad8e2aace96a669e… (all of the seat's roots in one cut). By AI agents, Wed Nov 11 2026. No macro, syntax, notation, axiom, sorry.
-/
import Derived.Test.YtopmcbahdgfleaaGreatChecked
import GoSem.Claim
import GoSem.ClaimJoined
import GoSem.ClaimMapViews
import Derived.JoinedTies
import Derived.KernelRfl
namespace Go.Proofs.YtopmcbahdgfleaaGreat
/- THE CELL 'sum', in the pinned program and in every row, IS THE sha256 OF THE DUMP (.gsa) THAT YtopmcbahdgfleaaGreatProg.lean LOADS. Nothing in Lean hashes anything: it is a label: what it is worth is what the hold of that sum in a sandbox is worth. -/
noncomputable def Tryz.pinned : Pinned := { name := "ytopmcbahdgfleaagreat", sum := "ad8e2aace96a669ed3fb3d062b0d65c3db06417e218daa8e027ccf3b2324cfb7", checked := Tryz.checked }
namespace Rows
def none {H : Type} : Left H := { results := [], args := [] }

/-- 'scorebooklaw14.InningsValid': WHATEVER THE INPUT: true; the input reads as it did. -/
def inningsValidSpec : ChangeSpec := { name := "inningsValid", fn := fun _ => fun
  | [d1, d2] => { results := [.lit (.bool true)], args := [d1, d2] }
  | _ => none }
def inningsValidRow : OpenClaim := { program := "ytopmcbahdgfleaagreat", sum := "ad8e2aace96a669ed3fb3d062b0d65c3db06417e218daa8e027ccf3b2324cfb7", func := "scorebook/scorebooklaw14.InningsValid", spec := "inningsValid", inPlace := ["internal/bytealg.IndexByteString"], unfollowed := true, recurses := true, apart := false }
def InningsValidSaid : Prop := inningsValidRow.holds Tryz.pinned (OpenSpec.ofChange inningsValidSpec)

/-- ITS FALSE NEIGHBOUR: 'it returns false'. Refute it at one input. -/
def inningsValidWrong : ChangeSpec := { name := "inningsValid", fn := fun _ => fun
  | [d1, d2] => { results := [.lit (.bool false)], args := [d1, d2] }
  | _ => none }
def InningsValidWrongFalsely : Prop := inningsValidRow.holds Tryz.pinned (OpenSpec.ofChange inningsValidWrong)

/-- 'scorebooklaw14.InningsSteps': WHATEVER THE INPUT: true; the input reads as it did. -/
def inningsStepsSpec : ChangeSpec := { name := "inningsSteps", fn := fun _ => fun
  | [d1, d2, d3] => { results := [.lit (.bool true)], args := [d1, d2, d3] }
  | _ => none }
def inningsStepsRow : OpenClaim := { program := "ytopmcbahdgfleaagreat", sum := "ad8e2aace96a669ed3fb3d062b0d65c3db06417e218daa8e027ccf3b2324cfb7", func := "scorebook/scorebooklaw14.InningsSteps", spec := "inningsSteps", inPlace := ["internal/bytealg.IndexByteString"], unfollowed := true, recurses := true, apart := false }
def InningsStepsSaid : Prop := inningsStepsRow.holds Tryz.pinned (OpenSpec.ofChange inningsStepsSpec)

/-- ITS FALSE NEIGHBOUR: 'it returns false'. Refute it at one input. -/
def inningsStepsWrong : ChangeSpec := { name := "inningsSteps", fn := fun _ => fun
  | [d1, d2, d3] => { results := [.lit (.bool false)], args := [d1, d2, d3] }
  | _ => none }
def InningsStepsWrongFalsely : Prop := inningsStepsRow.holds Tryz.pinned (OpenSpec.ofChange inningsStepsWrong)

/-- 'scorebooklaw14.InningsBegins': WHATEVER THE INPUT: true; the input reads as it did. -/
def inningsBeginsSpec : ChangeSpec := { name := "inningsBegins", fn := fun _ => fun
  | [d1, d2, d3] => { results := [.lit (.bool true)], args := [d1, d2, d3] }
  | _ => none }
def inningsBeginsRow : OpenClaim := { program := "ytopmcbahdgfleaagreat", sum := "ad8e2aace96a669ed3fb3d062b0d65c3db06417e218daa8e027ccf3b2324cfb7", func := "scorebook/scorebooklaw14.InningsBegins", spec := "inningsBegins", inPlace := ["internal/bytealg.IndexByteString"], unfollowed := true, recurses := true, apart := false }
def InningsBeginsSaid : Prop := inningsBeginsRow.holds Tryz.pinned (OpenSpec.ofChange inningsBeginsSpec)

/-- ITS FALSE NEIGHBOUR: 'it returns false'. Refute it at one input. -/
def inningsBeginsWrong : ChangeSpec := { name := "inningsBegins", fn := fun _ => fun
  | [d1, d2, d3] => { results := [.lit (.bool false)], args := [d1, d2, d3] }
  | _ => none }
def InningsBeginsWrongFalsely : Prop := inningsBeginsRow.holds Tryz.pinned (OpenSpec.ofChange inningsBeginsWrong)

/-- 'scorebooklaw14.InningsRefuses': WHATEVER THE INPUT: true; the input reads as it did. -/
def inningsRefusesSpec : ChangeSpec := { name := "inningsRefuses", fn := fun _ => fun
  | [d1, d2, d3] => { results := [.lit (.bool true)], args := [d1, d2, d3] }
  | _ => none }
def inningsRefusesRow : OpenClaim := { program := "ytopmcbahdgfleaagreat", sum := "ad8e2aace96a669ed3fb3d062b0d65c3db06417e218daa8e027ccf3b2324cfb7", func := "scorebook/scorebooklaw14.InningsRefuses", spec := "inningsRefuses", inPlace := ["internal/bytealg.IndexByteString"], unfollowed := true, recurses := true, apart := false }
def InningsRefusesSaid : Prop := inningsRefusesRow.holds Tryz.pinned (OpenSpec.ofChange inningsRefusesSpec)

/-- ITS FALSE NEIGHBOUR: 'it returns false'. Refute it at one input. -/
def inningsRefusesWrong : ChangeSpec := { name := "inningsRefuses", fn := fun _ => fun
  | [d1, d2, d3] => { results := [.lit (.bool false)], args := [d1, d2, d3] }
  | _ => none }
def InningsRefusesWrongFalsely : Prop := inningsRefusesRow.holds Tryz.pinned (OpenSpec.ofChange inningsRefusesWrong)

/-- 'scorebooklaw17.LogSums': WHATEVER THE INPUT: true; the input reads as it did. -/
def logSumsSpec : ChangeSpec := { name := "logSums", fn := fun _ => fun
  | [d1, d2] => { results := [.lit (.bool true)], args := [d1, d2] }
  | _ => none }
def logSumsRow : OpenClaim := { program := "ytopmcbahdgfleaagreat", sum := "ad8e2aace96a669ed3fb3d062b0d65c3db06417e218daa8e027ccf3b2324cfb7", func := "scorebook/scorebooklaw17.LogSums", spec := "logSums", inPlace := ["internal/bytealg.IndexByteString"], unfollowed := true, recurses := true, apart := false }
def LogSumsSaid : Prop := logSumsRow.holds Tryz.pinned (OpenSpec.ofChange logSumsSpec)

/-- ITS FALSE NEIGHBOUR: 'it returns false'. Refute it at one input. -/
def logSumsWrong : ChangeSpec := { name := "logSums", fn := fun _ => fun
  | [d1, d2] => { results := [.lit (.bool false)], args := [d1, d2] }
  | _ => none }
def LogSumsWrongFalsely : Prop := logSumsRow.holds Tryz.pinned (OpenSpec.ofChange logSumsWrong)

/-- 'scorebooklaw17.LogPlays': WHATEVER THE INPUT: true; the input reads as it did. -/
def logPlaysSpec : ChangeSpec := { name := "logPlays", fn := fun _ => fun
  | [d1, d2] => { results := [.lit (.bool true)], args := [d1, d2] }
  | _ => none }
def logPlaysRow : OpenClaim := { program := "ytopmcbahdgfleaagreat", sum := "ad8e2aace96a669ed3fb3d062b0d65c3db06417e218daa8e027ccf3b2324cfb7", func := "scorebook/scorebooklaw17.LogPlays", spec := "logPlays", inPlace := ["internal/bytealg.IndexByteString"], unfollowed := true, recurses := true, apart := false }
def LogPlaysSaid : Prop := logPlaysRow.holds Tryz.pinned (OpenSpec.ofChange logPlaysSpec)

/-- ITS FALSE NEIGHBOUR: 'it returns false'. Refute it at one input. -/
def logPlaysWrong : ChangeSpec := { name := "logPlays", fn := fun _ => fun
  | [d1, d2] => { results := [.lit (.bool false)], args := [d1, d2] }
  | _ => none }
def LogPlaysWrongFalsely : Prop := logPlaysRow.holds Tryz.pinned (OpenSpec.ofChange logPlaysWrong)

/-- 'scorebooklaw17.LogReplays': WHATEVER THE INPUT: true; the input reads as it did. -/
def logReplaysSpec : ChangeSpec := { name := "logReplays", fn := fun _ => fun
  | [d1, d2] => { results := [.lit (.bool true)], args := [d1, d2] }
  | _ => none }
def logReplaysRow : OpenClaim := { program := "ytopmcbahdgfleaagreat", sum := "ad8e2aace96a669ed3fb3d062b0d65c3db06417e218daa8e027ccf3b2324cfb7", func := "scorebook/scorebooklaw17.LogReplays", spec := "logReplays", inPlace := ["internal/bytealg.IndexByteString"], unfollowed := true, recurses := true, apart := false }
def LogReplaysSaid : Prop := logReplaysRow.holds Tryz.pinned (OpenSpec.ofChange logReplaysSpec)

/-- ITS FALSE NEIGHBOUR: 'it returns false'. Refute it at one input. -/
def logReplaysWrong : ChangeSpec := { name := "logReplays", fn := fun _ => fun
  | [d1, d2] => { results := [.lit (.bool false)], args := [d1, d2] }
  | _ => none }
def LogReplaysWrongFalsely : Prop := logReplaysRow.holds Tryz.pinned (OpenSpec.ofChange logReplaysWrong)

/-- 'scorebooklaw17.LogAt': WHATEVER THE INPUT: true; the input reads as it did. -/
def logAtSpec : ChangeSpec := { name := "logAt", fn := fun _ => fun
  | [d1, d2, d3] => { results := [.lit (.bool true)], args := [d1, d2, d3] }
  | _ => none }
def logAtRow : OpenClaim := { program := "ytopmcbahdgfleaagreat", sum := "ad8e2aace96a669ed3fb3d062b0d65c3db06417e218daa8e027ccf3b2324cfb7", func := "scorebook/scorebooklaw17.LogAt", spec := "logAt", inPlace := ["internal/bytealg.IndexByteString"], unfollowed := true, recurses := true, apart := false }
def LogAtSaid : Prop := logAtRow.holds Tryz.pinned (OpenSpec.ofChange logAtSpec)

/-- ITS FALSE NEIGHBOUR: 'it returns false'. Refute it at one input. -/
def logAtWrong : ChangeSpec := { name := "logAt", fn := fun _ => fun
  | [d1, d2, d3] => { results := [.lit (.bool false)], args := [d1, d2, d3] }
  | _ => none }
def LogAtWrongFalsely : Prop := logAtRow.holds Tryz.pinned (OpenSpec.ofChange logAtWrong)

/-- 'scorebooklaw17.LogPrefixes': WHATEVER THE INPUT: true; the input reads as it did. -/
def logPrefixesSpec : ChangeSpec := { name := "logPrefixes", fn := fun _ => fun
  | [d1, d2, d3] => { results := [.lit (.bool true)], args := [d1, d2, d3] }
  | _ => none }
def logPrefixesRow : OpenClaim := { program := "ytopmcbahdgfleaagreat", sum := "ad8e2aace96a669ed3fb3d062b0d65c3db06417e218daa8e027ccf3b2324cfb7", func := "scorebook/scorebooklaw17.LogPrefixes", spec := "logPrefixes", inPlace := ["internal/bytealg.IndexByteString"], unfollowed := true, recurses := true, apart := false }
def LogPrefixesSaid : Prop := logPrefixesRow.holds Tryz.pinned (OpenSpec.ofChange logPrefixesSpec)

/-- ITS FALSE NEIGHBOUR: 'it returns false'. Refute it at one input. -/
def logPrefixesWrong : ChangeSpec := { name := "logPrefixes", fn := fun _ => fun
  | [d1, d2, d3] => { results := [.lit (.bool false)], args := [d1, d2, d3] }
  | _ => none }
def LogPrefixesWrongFalsely : Prop := logPrefixesRow.holds Tryz.pinned (OpenSpec.ofChange logPrefixesWrong)

/-- 'scorebooklaw17.LogSteps': WHATEVER THE INPUT: true; the input reads as it did. -/
def logStepsSpec : ChangeSpec := { name := "logSteps", fn := fun _ => fun
  | [d1, d2, d3] => { results := [.lit (.bool true)], args := [d1, d2, d3] }
  | _ => none }
def logStepsRow : OpenClaim := { program := "ytopmcbahdgfleaagreat", sum := "ad8e2aace96a669ed3fb3d062b0d65c3db06417e218daa8e027ccf3b2324cfb7", func := "scorebook/scorebooklaw17.LogSteps", spec := "logSteps", inPlace := ["internal/bytealg.IndexByteString"], unfollowed := true, recurses := true, apart := false }
def LogStepsSaid : Prop := logStepsRow.holds Tryz.pinned (OpenSpec.ofChange logStepsSpec)

/-- ITS FALSE NEIGHBOUR: 'it returns false'. Refute it at one input. -/
def logStepsWrong : ChangeSpec := { name := "logSteps", fn := fun _ => fun
  | [d1, d2, d3] => { results := [.lit (.bool false)], args := [d1, d2, d3] }
  | _ => none }
def LogStepsWrongFalsely : Prop := logStepsRow.holds Tryz.pinned (OpenSpec.ofChange logStepsWrong)

/- THE SECOND FORM. 'bulk': how many values and letters a reading holds, each counted each time it is reached (what is shared counts as often as it is met; a slice's spare places count too). A statement '..UptoSaid' is the law's where the arguments, and the package variables that the reading takes, are together of bulk at most 1048576: NARROWER than '..Said'. Prove '..Said' where nothing that the law and all that it calls make is longer than what came in: it says more and counts as full. Else prove '..UptoSaid'. A law counts once. -/
mutual
def uptoBulk {H : Type} : DataW H → Nat
  | .lit (.string bytes) => bytes.length + 1
  | .lit _ => 1
  | .nil => 1
  | .ptr d => uptoBulk d + 1
  | .slice elems spare => uptoBulkAll elems + uptoBulkAll spare + 1
  | .agg parts => uptoBulkAll parts + 1
  | .iface _ d => uptoBulk d + 1
  | .map entries => uptoBulkEntries entries + 1
  | .held _ => 1
def uptoBulkAll {H : Type} : List (DataW H) → Nat
  | [] => 0
  | d :: r => uptoBulk d + uptoBulkAll r
def uptoBulkEntries {H : Type} : List (Lit × DataW H) → Nat
  | [] => 0
  | x :: r => uptoBulkEntry x + uptoBulkEntries r
def uptoBulkEntry {H : Type} : Lit × DataW H → Nat
  | (.string bytes, d) => bytes.length + uptoBulk d + 1
  | (_, d) => uptoBulk d + 1
 end
def uptoSmall : (H : Type) → List (DataW H) → Bool := fun _ ds => decide (uptoBulkAll ds ≤ 1048576)
def OpenSpec.upto (s : _root_.Go.ChangeSpec) : _root_.Go.OpenSpec := { _root_.Go.OpenSpec.ofChange s with cond := some uptoSmall }

/-- 'scorebooklaw14.InningsValid', WHERE WHAT IT READS IS OF BULK AT MOST 1048576: true; the input reads as it did. -/
def inningsValidUptoRow : OpenClaim := { program := "ytopmcbahdgfleaagreat", sum := "ad8e2aace96a669ed3fb3d062b0d65c3db06417e218daa8e027ccf3b2324cfb7", func := "scorebook/scorebooklaw14.InningsValid", spec := "inningsValid", inPlace := ["internal/bytealg.IndexByteString"], unfollowed := true, recurses := true, apart := false, narrowed := true }
def InningsValidUptoSaid : Prop := inningsValidUptoRow.holds Tryz.pinned (OpenSpec.upto inningsValidSpec)

/-- 'scorebooklaw14.InningsSteps', WHERE WHAT IT READS IS OF BULK AT MOST 1048576: true; the input reads as it did. -/
def inningsStepsUptoRow : OpenClaim := { program := "ytopmcbahdgfleaagreat", sum := "ad8e2aace96a669ed3fb3d062b0d65c3db06417e218daa8e027ccf3b2324cfb7", func := "scorebook/scorebooklaw14.InningsSteps", spec := "inningsSteps", inPlace := ["internal/bytealg.IndexByteString"], unfollowed := true, recurses := true, apart := false, narrowed := true }
def InningsStepsUptoSaid : Prop := inningsStepsUptoRow.holds Tryz.pinned (OpenSpec.upto inningsStepsSpec)

/-- 'scorebooklaw14.InningsBegins', WHERE WHAT IT READS IS OF BULK AT MOST 1048576: true; the input reads as it did. -/
def inningsBeginsUptoRow : OpenClaim := { program := "ytopmcbahdgfleaagreat", sum := "ad8e2aace96a669ed3fb3d062b0d65c3db06417e218daa8e027ccf3b2324cfb7", func := "scorebook/scorebooklaw14.InningsBegins", spec := "inningsBegins", inPlace := ["internal/bytealg.IndexByteString"], unfollowed := true, recurses := true, apart := false, narrowed := true }
def InningsBeginsUptoSaid : Prop := inningsBeginsUptoRow.holds Tryz.pinned (OpenSpec.upto inningsBeginsSpec)

/-- 'scorebooklaw14.InningsRefuses', WHERE WHAT IT READS IS OF BULK AT MOST 1048576: true; the input reads as it did. -/
def inningsRefusesUptoRow : OpenClaim := { program := "ytopmcbahdgfleaagreat", sum := "ad8e2aace96a669ed3fb3d062b0d65c3db06417e218daa8e027ccf3b2324cfb7", func := "scorebook/scorebooklaw14.InningsRefuses", spec := "inningsRefuses", inPlace := ["internal/bytealg.IndexByteString"], unfollowed := true, recurses := true, apart := false, narrowed := true }
def InningsRefusesUptoSaid : Prop := inningsRefusesUptoRow.holds Tryz.pinned (OpenSpec.upto inningsRefusesSpec)

/-- 'scorebooklaw17.LogSums', WHERE WHAT IT READS IS OF BULK AT MOST 1048576: true; the input reads as it did. -/
def logSumsUptoRow : OpenClaim := { program := "ytopmcbahdgfleaagreat", sum := "ad8e2aace96a669ed3fb3d062b0d65c3db06417e218daa8e027ccf3b2324cfb7", func := "scorebook/scorebooklaw17.LogSums", spec := "logSums", inPlace := ["internal/bytealg.IndexByteString"], unfollowed := true, recurses := true, apart := false, narrowed := true }
def LogSumsUptoSaid : Prop := logSumsUptoRow.holds Tryz.pinned (OpenSpec.upto logSumsSpec)

/-- 'scorebooklaw17.LogPlays', WHERE WHAT IT READS IS OF BULK AT MOST 1048576: true; the input reads as it did. -/
def logPlaysUptoRow : OpenClaim := { program := "ytopmcbahdgfleaagreat", sum := "ad8e2aace96a669ed3fb3d062b0d65c3db06417e218daa8e027ccf3b2324cfb7", func := "scorebook/scorebooklaw17.LogPlays", spec := "logPlays", inPlace := ["internal/bytealg.IndexByteString"], unfollowed := true, recurses := true, apart := false, narrowed := true }
def LogPlaysUptoSaid : Prop := logPlaysUptoRow.holds Tryz.pinned (OpenSpec.upto logPlaysSpec)

/-- 'scorebooklaw17.LogReplays', WHERE WHAT IT READS IS OF BULK AT MOST 1048576: true; the input reads as it did. -/
def logReplaysUptoRow : OpenClaim := { program := "ytopmcbahdgfleaagreat", sum := "ad8e2aace96a669ed3fb3d062b0d65c3db06417e218daa8e027ccf3b2324cfb7", func := "scorebook/scorebooklaw17.LogReplays", spec := "logReplays", inPlace := ["internal/bytealg.IndexByteString"], unfollowed := true, recurses := true, apart := false, narrowed := true }
def LogReplaysUptoSaid : Prop := logReplaysUptoRow.holds Tryz.pinned (OpenSpec.upto logReplaysSpec)

/-- 'scorebooklaw17.LogAt', WHERE WHAT IT READS IS OF BULK AT MOST 1048576: true; the input reads as it did. -/
def logAtUptoRow : OpenClaim := { program := "ytopmcbahdgfleaagreat", sum := "ad8e2aace96a669ed3fb3d062b0d65c3db06417e218daa8e027ccf3b2324cfb7", func := "scorebook/scorebooklaw17.LogAt", spec := "logAt", inPlace := ["internal/bytealg.IndexByteString"], unfollowed := true, recurses := true, apart := false, narrowed := true }
def LogAtUptoSaid : Prop := logAtUptoRow.holds Tryz.pinned (OpenSpec.upto logAtSpec)

/-- 'scorebooklaw17.LogPrefixes', WHERE WHAT IT READS IS OF BULK AT MOST 1048576: true; the input reads as it did. -/
def logPrefixesUptoRow : OpenClaim := { program := "ytopmcbahdgfleaagreat", sum := "ad8e2aace96a669ed3fb3d062b0d65c3db06417e218daa8e027ccf3b2324cfb7", func := "scorebook/scorebooklaw17.LogPrefixes", spec := "logPrefixes", inPlace := ["internal/bytealg.IndexByteString"], unfollowed := true, recurses := true, apart := false, narrowed := true }
def LogPrefixesUptoSaid : Prop := logPrefixesUptoRow.holds Tryz.pinned (OpenSpec.upto logPrefixesSpec)

/-- 'scorebooklaw17.LogSteps', WHERE WHAT IT READS IS OF BULK AT MOST 1048576: true; the input reads as it did. -/
def logStepsUptoRow : OpenClaim := { program := "ytopmcbahdgfleaagreat", sum := "ad8e2aace96a669ed3fb3d062b0d65c3db06417e218daa8e027ccf3b2324cfb7", func := "scorebook/scorebooklaw17.LogSteps", spec := "logSteps", inPlace := ["internal/bytealg.IndexByteString"], unfollowed := true, recurses := true, apart := false, narrowed := true }
def LogStepsUptoSaid : Prop := logStepsUptoRow.holds Tryz.pinned (OpenSpec.upto logStepsSpec)

end Rows
end Go.Proofs.YtopmcbahdgfleaaGreat
