/-
  No cell of these rows narrows 'for every input' (looked for: loops, veiled, ifaces, maps, wideKeys, modest, calm, conditions, laid).
  DERIVED. THE GIVEN ROWS OF THIS SEAT. 5 by the template 'for every input the law returns true; each argument reads behind the call as it read before'; 0 by the template 'total and deterministic' (their statements: YtibhmjjjbblhmaaGreatTotals.lean).
  GIVEN WITH THE SEED: the statements are not yours to turn. If you find one false, say at which input.
  Laid BY PROGRAM, IN A SANDBOX (cutbox-rows.mjs): the forced cells as the released guide's own fill.sh prints them over the translation 341d9157600d3c56… (all of the seat's roots in one cut). By AI agents, Wed Nov 11 2026. No macro, syntax, notation, axiom, sorry.
-/
import Derived.Test.YtibhmjjjbblhmaaGreatChecked
import GoSem.Claim
import GoSem.ClaimJoined
import GoSem.ClaimMapViews
import Derived.JoinedTies
import Derived.KernelRfl
namespace Go.Proofs.YtibhmjjjbblhmaaGreat
/- THE CELL 'sum', in the pinned program and in every row, IS THE sha256 OF THE DUMP (.gsa) THAT YtibhmjjjbblhmaaGreatProg.lean LOADS. Nothing in Lean hashes anything: it is a label: what it is worth is what the hold of that sum in a sandbox is worth. -/
noncomputable def Tryz.pinned : Pinned := { name := "ytibhmjjjbblhmaagreat", sum := "341d9157600d3c56f910dc232ebfb25f47927d1d3db3c728412dfa30b7edecc6", checked := Tryz.checked }
namespace Rows
def none {H : Type} : Left H := { results := [], args := [] }

/-- 'scorebooklaw23.CorrectExtents': WHATEVER THE INPUT: true; the input reads as it did. -/
def correctExtentsSpec : ChangeSpec := { name := "correctExtents", fn := fun _ => fun
  | [d1, d2, d3] => { results := [.lit (.bool true)], args := [d1, d2, d3] }
  | _ => none }
def correctExtentsRow : OpenClaim := { program := "ytibhmjjjbblhmaagreat", sum := "341d9157600d3c56f910dc232ebfb25f47927d1d3db3c728412dfa30b7edecc6", func := "scorebook/scorebooklaw23.CorrectExtents", spec := "correctExtents", inPlace := ["internal/bytealg.IndexByteString"], unfollowed := true, recurses := true, apart := false }
def CorrectExtentsSaid : Prop := correctExtentsRow.holds Tryz.pinned (OpenSpec.ofChange correctExtentsSpec)

/-- ITS FALSE NEIGHBOUR: 'it returns false'. Refute it at one input. -/
def correctExtentsWrong : ChangeSpec := { name := "correctExtents", fn := fun _ => fun
  | [d1, d2, d3] => { results := [.lit (.bool false)], args := [d1, d2, d3] }
  | _ => none }
def CorrectExtentsWrongFalsely : Prop := correctExtentsRow.holds Tryz.pinned (OpenSpec.ofChange correctExtentsWrong)

/-- 'scorebooklaw23.CorrectBefore': WHATEVER THE INPUT: true; the input reads as it did. -/
def correctBeforeSpec : ChangeSpec := { name := "correctBefore", fn := fun _ => fun
  | [d1, d2, d3] => { results := [.lit (.bool true)], args := [d1, d2, d3] }
  | _ => none }
def correctBeforeRow : OpenClaim := { program := "ytibhmjjjbblhmaagreat", sum := "341d9157600d3c56f910dc232ebfb25f47927d1d3db3c728412dfa30b7edecc6", func := "scorebook/scorebooklaw23.CorrectBefore", spec := "correctBefore", inPlace := ["internal/bytealg.IndexByteString"], unfollowed := true, recurses := true, apart := false }
def CorrectBeforeSaid : Prop := correctBeforeRow.holds Tryz.pinned (OpenSpec.ofChange correctBeforeSpec)

/-- ITS FALSE NEIGHBOUR: 'it returns false'. Refute it at one input. -/
def correctBeforeWrong : ChangeSpec := { name := "correctBefore", fn := fun _ => fun
  | [d1, d2, d3] => { results := [.lit (.bool false)], args := [d1, d2, d3] }
  | _ => none }
def CorrectBeforeWrongFalsely : Prop := correctBeforeRow.holds Tryz.pinned (OpenSpec.ofChange correctBeforeWrong)

/-- 'scorebooklaw23.CorrectRefuses': WHATEVER THE INPUT: true; the input reads as it did. -/
def correctRefusesSpec : ChangeSpec := { name := "correctRefuses", fn := fun _ => fun
  | [d1, d2, d3] => { results := [.lit (.bool true)], args := [d1, d2, d3] }
  | _ => none }
def correctRefusesRow : OpenClaim := { program := "ytibhmjjjbblhmaagreat", sum := "341d9157600d3c56f910dc232ebfb25f47927d1d3db3c728412dfa30b7edecc6", func := "scorebook/scorebooklaw23.CorrectRefuses", spec := "correctRefuses", inPlace := ["internal/bytealg.IndexByteString"], unfollowed := true, recurses := true, apart := false }
def CorrectRefusesSaid : Prop := correctRefusesRow.holds Tryz.pinned (OpenSpec.ofChange correctRefusesSpec)

/-- ITS FALSE NEIGHBOUR: 'it returns false'. Refute it at one input. -/
def correctRefusesWrong : ChangeSpec := { name := "correctRefuses", fn := fun _ => fun
  | [d1, d2, d3] => { results := [.lit (.bool false)], args := [d1, d2, d3] }
  | _ => none }
def CorrectRefusesWrongFalsely : Prop := correctRefusesRow.holds Tryz.pinned (OpenSpec.ofChange correctRefusesWrong)

/-- 'scorebooklaw23.CorrectEdits': WHATEVER THE INPUT: true; the input reads as it did. -/
def correctEditsSpec : ChangeSpec := { name := "correctEdits", fn := fun _ => fun
  | [d1, d2, d3] => { results := [.lit (.bool true)], args := [d1, d2, d3] }
  | _ => none }
def correctEditsRow : OpenClaim := { program := "ytibhmjjjbblhmaagreat", sum := "341d9157600d3c56f910dc232ebfb25f47927d1d3db3c728412dfa30b7edecc6", func := "scorebook/scorebooklaw23.CorrectEdits", spec := "correctEdits", inPlace := ["internal/bytealg.IndexByteString"], unfollowed := true, recurses := true, apart := false }
def CorrectEditsSaid : Prop := correctEditsRow.holds Tryz.pinned (OpenSpec.ofChange correctEditsSpec)

/-- ITS FALSE NEIGHBOUR: 'it returns false'. Refute it at one input. -/
def correctEditsWrong : ChangeSpec := { name := "correctEdits", fn := fun _ => fun
  | [d1, d2, d3] => { results := [.lit (.bool false)], args := [d1, d2, d3] }
  | _ => none }
def CorrectEditsWrongFalsely : Prop := correctEditsRow.holds Tryz.pinned (OpenSpec.ofChange correctEditsWrong)

/-- 'scorebooklaw23.CorrectBack': WHATEVER THE INPUT: true; the input reads as it did. -/
def correctBackSpec : ChangeSpec := { name := "correctBack", fn := fun _ => fun
  | [d1, d2, d3] => { results := [.lit (.bool true)], args := [d1, d2, d3] }
  | _ => none }
def correctBackRow : OpenClaim := { program := "ytibhmjjjbblhmaagreat", sum := "341d9157600d3c56f910dc232ebfb25f47927d1d3db3c728412dfa30b7edecc6", func := "scorebook/scorebooklaw23.CorrectBack", spec := "correctBack", inPlace := ["internal/bytealg.IndexByteString"], unfollowed := true, recurses := true, apart := false }
def CorrectBackSaid : Prop := correctBackRow.holds Tryz.pinned (OpenSpec.ofChange correctBackSpec)

/-- ITS FALSE NEIGHBOUR: 'it returns false'. Refute it at one input. -/
def correctBackWrong : ChangeSpec := { name := "correctBack", fn := fun _ => fun
  | [d1, d2, d3] => { results := [.lit (.bool false)], args := [d1, d2, d3] }
  | _ => none }
def CorrectBackWrongFalsely : Prop := correctBackRow.holds Tryz.pinned (OpenSpec.ofChange correctBackWrong)

/- THE SECOND FORM. 'bulk': how many values and letters a reading holds, each counted each time it is reached (what is shared counts as often as it is met; a slice's spare places count too). A statement '..UptoSaid' is the law's where the arguments, and the package variables that the reading takes, are together of bulk at most 1048576: NARROWER than '..Said'. Prove '..Said' where nothing that the law and all that it calls make is longer than what came in: it says more and counts as full. Else prove '..UptoSaid'. A law counts once. -/
mutual
def uptoBulk {H : Type} : DataW H → Nat
  | .lit (.string bytes) => bytes.length + 1
  | .lit _ => 1
  | .nil => 1
  | .ptr d => uptoBulk d + 1
  | .slice elems spare => uptoBulkAll elems + uptoBulkAll spare + 1
  | .agg parts => uptoBulkAll parts + 1
  | .iface _ d => uptoBulk d + 1
  | .map entries => uptoBulkEntries entries + 1
  | .held _ => 1
def uptoBulkAll {H : Type} : List (DataW H) → Nat
  | [] => 0
  | d :: r => uptoBulk d + uptoBulkAll r
def uptoBulkEntries {H : Type} : List (Lit × DataW H) → Nat
  | [] => 0
  | x :: r => uptoBulkEntry x + uptoBulkEntries r
def uptoBulkEntry {H : Type} : Lit × DataW H → Nat
  | (.string bytes, d) => bytes.length + uptoBulk d + 1
  | (_, d) => uptoBulk d + 1
 end
def uptoSmall : (H : Type) → List (DataW H) → Bool := fun _ ds => decide (uptoBulkAll ds ≤ 1048576)
def OpenSpec.upto (s : _root_.Go.ChangeSpec) : _root_.Go.OpenSpec := { _root_.Go.OpenSpec.ofChange s with cond := some uptoSmall }

/-- 'scorebooklaw23.CorrectExtents', WHERE WHAT IT READS IS OF BULK AT MOST 1048576: true; the input reads as it did. -/
def correctExtentsUptoRow : OpenClaim := { program := "ytibhmjjjbblhmaagreat", sum := "341d9157600d3c56f910dc232ebfb25f47927d1d3db3c728412dfa30b7edecc6", func := "scorebook/scorebooklaw23.CorrectExtents", spec := "correctExtents", inPlace := ["internal/bytealg.IndexByteString"], unfollowed := true, recurses := true, apart := false, narrowed := true }
def CorrectExtentsUptoSaid : Prop := correctExtentsUptoRow.holds Tryz.pinned (OpenSpec.upto correctExtentsSpec)

/-- 'scorebooklaw23.CorrectBefore', WHERE WHAT IT READS IS OF BULK AT MOST 1048576: true; the input reads as it did. -/
def correctBeforeUptoRow : OpenClaim := { program := "ytibhmjjjbblhmaagreat", sum := "341d9157600d3c56f910dc232ebfb25f47927d1d3db3c728412dfa30b7edecc6", func := "scorebook/scorebooklaw23.CorrectBefore", spec := "correctBefore", inPlace := ["internal/bytealg.IndexByteString"], unfollowed := true, recurses := true, apart := false, narrowed := true }
def CorrectBeforeUptoSaid : Prop := correctBeforeUptoRow.holds Tryz.pinned (OpenSpec.upto correctBeforeSpec)

/-- 'scorebooklaw23.CorrectRefuses', WHERE WHAT IT READS IS OF BULK AT MOST 1048576: true; the input reads as it did. -/
def correctRefusesUptoRow : OpenClaim := { program := "ytibhmjjjbblhmaagreat", sum := "341d9157600d3c56f910dc232ebfb25f47927d1d3db3c728412dfa30b7edecc6", func := "scorebook/scorebooklaw23.CorrectRefuses", spec := "correctRefuses", inPlace := ["internal/bytealg.IndexByteString"], unfollowed := true, recurses := true, apart := false, narrowed := true }
def CorrectRefusesUptoSaid : Prop := correctRefusesUptoRow.holds Tryz.pinned (OpenSpec.upto correctRefusesSpec)

/-- 'scorebooklaw23.CorrectEdits', WHERE WHAT IT READS IS OF BULK AT MOST 1048576: true; the input reads as it did. -/
def correctEditsUptoRow : OpenClaim := { program := "ytibhmjjjbblhmaagreat", sum := "341d9157600d3c56f910dc232ebfb25f47927d1d3db3c728412dfa30b7edecc6", func := "scorebook/scorebooklaw23.CorrectEdits", spec := "correctEdits", inPlace := ["internal/bytealg.IndexByteString"], unfollowed := true, recurses := true, apart := false, narrowed := true }
def CorrectEditsUptoSaid : Prop := correctEditsUptoRow.holds Tryz.pinned (OpenSpec.upto correctEditsSpec)

/-- 'scorebooklaw23.CorrectBack', WHERE WHAT IT READS IS OF BULK AT MOST 1048576: true; the input reads as it did. -/
def correctBackUptoRow : OpenClaim := { program := "ytibhmjjjbblhmaagreat", sum := "341d9157600d3c56f910dc232ebfb25f47927d1d3db3c728412dfa30b7edecc6", func := "scorebook/scorebooklaw23.CorrectBack", spec := "correctBack", inPlace := ["internal/bytealg.IndexByteString"], unfollowed := true, recurses := true, apart := false, narrowed := true }
def CorrectBackUptoSaid : Prop := correctBackUptoRow.holds Tryz.pinned (OpenSpec.upto correctBackSpec)

end Rows
end Go.Proofs.YtibhmjjjbblhmaaGreat
