/-
  NARROWER THAN 'FOR EVERY INPUT', by the rows' own cells (each row's printed sentence says how): MatchSteps: laid · MatchStops: laid · MatchStarts: laid · MatchLooks: laid · MatchRefuses: laid · MatchKeeps: laid.
  DERIVED. THE GIVEN ROWS OF THIS SEAT. 6 by the template 'for every input the law returns true; each argument reads behind the call as it read before'; 0 by the template 'total and deterministic' (their statements: YtapipgdcgmmkaaaGreatDoorTotals.lean).
  GIVEN WITH THE SEED: the statements are not yours to turn. If you find one false, say at which input.
  Laid BY PROGRAM, IN A SANDBOX (cutbox-rows.mjs): the forced cells as the released guide's own fill.sh prints them over the translation 8fd93da712b6ae8b… (all of the seat's roots in one cut). By AI agents, Wed Nov 11 2026. No macro, syntax, notation, axiom, sorry.
-/
import Derived.Test.YtapipgdcgmmkaaaGreatDoorChecked
import GoSem.Claim
import GoSem.ClaimJoined
import GoSem.ClaimMapViews
import Derived.JoinedTies
import Derived.KernelRfl
namespace Go.Proofs.YtapipgdcgmmkaaaGreatDoor
/- THE CELL 'sum', in the pinned program and in every row, IS THE sha256 OF THE DUMP (.gsa) THAT YtapipgdcgmmkaaaGreatDoorProg.lean LOADS. Nothing in Lean hashes anything: it is a label: what it is worth is what the hold of that sum in a sandbox is worth. -/
noncomputable def Tryz.pinned : Pinned := { name := "ytapipgdcgmmkaaagreatdoor", sum := "8fd93da712b6ae8b03ea44fc204da7376fca88c0cd163b4143b51f2003f1e7e4", checked := Tryz.checked }
namespace Rows
def none {H : Type} : Left H := { results := [], args := [] }

/- WHAT THE LISTED PACKAGE-LEVEL VARIABLES READ AS WHEN THE CALL BEGINS. Each datum BY PROGRAM (the guide's laid-datum.mjs) off the statement by which the dump's own 'gosem.cut.vars' lays the variable. In a bare row this is a premise. The card (YtapipgdcgmmkaaaGreatDoorCards.lean) ties it to the program's text. -/
def laid_math_bits_deBruijn32tab {H : Type} : DataW H := .agg [.lit (.int .u8 0), .lit (.int .u8 1), .lit (.int .u8 28), .lit (.int .u8 2), .lit (.int .u8 29), .lit (.int .u8 14), .lit (.int .u8 24), .lit (.int .u8 3), .lit (.int .u8 30), .lit (.int .u8 22), .lit (.int .u8 20), .lit (.int .u8 15), .lit (.int .u8 25), .lit (.int .u8 17), .lit (.int .u8 4), .lit (.int .u8 8), .lit (.int .u8 31), .lit (.int .u8 27), .lit (.int .u8 13), .lit (.int .u8 23), .lit (.int .u8 21), .lit (.int .u8 19), .lit (.int .u8 16), .lit (.int .u8 7), .lit (.int .u8 26), .lit (.int .u8 12), .lit (.int .u8 18), .lit (.int .u8 6), .lit (.int .u8 11), .lit (.int .u8 5), .lit (.int .u8 10), .lit (.int .u8 9)]
def laid_math_bits_deBruijn64tab {H : Type} : DataW H := .agg [.lit (.int .u8 0), .lit (.int .u8 1), .lit (.int .u8 56), .lit (.int .u8 2), .lit (.int .u8 57), .lit (.int .u8 49), .lit (.int .u8 28), .lit (.int .u8 3), .lit (.int .u8 61), .lit (.int .u8 58), .lit (.int .u8 42), .lit (.int .u8 50), .lit (.int .u8 38), .lit (.int .u8 29), .lit (.int .u8 17), .lit (.int .u8 4), .lit (.int .u8 62), .lit (.int .u8 47), .lit (.int .u8 59), .lit (.int .u8 36), .lit (.int .u8 45), .lit (.int .u8 43), .lit (.int .u8 51), .lit (.int .u8 22), .lit (.int .u8 53), .lit (.int .u8 39), .lit (.int .u8 33), .lit (.int .u8 30), .lit (.int .u8 24), .lit (.int .u8 18), .lit (.int .u8 12), .lit (.int .u8 5), .lit (.int .u8 63), .lit (.int .u8 55), .lit (.int .u8 48), .lit (.int .u8 27), .lit (.int .u8 60), .lit (.int .u8 41), .lit (.int .u8 37), .lit (.int .u8 16), .lit (.int .u8 46), .lit (.int .u8 35), .lit (.int .u8 44), .lit (.int .u8 21), .lit (.int .u8 52), .lit (.int .u8 32), .lit (.int .u8 23), .lit (.int .u8 11), .lit (.int .u8 54), .lit (.int .u8 26), .lit (.int .u8 40), .lit (.int .u8 15), .lit (.int .u8 34), .lit (.int .u8 20), .lit (.int .u8 31), .lit (.int .u8 10), .lit (.int .u8 25), .lit (.int .u8 14), .lit (.int .u8 19), .lit (.int .u8 9), .lit (.int .u8 13), .lit (.int .u8 8), .lit (.int .u8 7), .lit (.int .u8 6)]
def laid_internal_strconv_uint64pow10 {H : Type} : DataW H := .agg [.lit (.int .u64 1), .lit (.int .u64 10), .lit (.int .u64 100), .lit (.int .u64 1000), .lit (.int .u64 10000), .lit (.int .u64 100000), .lit (.int .u64 1000000), .lit (.int .u64 10000000), .lit (.int .u64 100000000), .lit (.int .u64 1000000000), .lit (.int .u64 10000000000), .lit (.int .u64 100000000000), .lit (.int .u64 1000000000000), .lit (.int .u64 10000000000000), .lit (.int .u64 100000000000000), .lit (.int .u64 1000000000000000), .lit (.int .u64 10000000000000000), .lit (.int .u64 100000000000000000), .lit (.int .u64 1000000000000000000), .lit (.int .u64 10000000000000000000)]

/-- 'scorebooklaw15.MatchSteps': WHATEVER THE INPUT: true; the input reads as it did. -/
def matchStepsSpec : ChangeSpec := { name := "matchSteps", fn := fun _ => fun
  | [d1, d2] => { results := [.lit (.bool true)], args := [d1, d2] }
  | _ => none }
def matchStepsRow : OpenClaim := { program := "ytapipgdcgmmkaaagreatdoor", sum := "8fd93da712b6ae8b03ea44fc204da7376fca88c0cd163b4143b51f2003f1e7e4", func := "scorebook/scorebooklaw15.MatchSteps", spec := "matchSteps", inPlace := ["internal/bytealg.IndexByteString", "internal/abi.NoEscape", "internal/bytealg.MakeNoZero"], unfollowed := true, recurses := true, named := ["internal/strconv.uint64pow10", "math/bits.deBruijn32tab", "math/bits.deBruijn64tab"], apart := false, laid := [("math/bits.deBruijn32tab", laid_math_bits_deBruijn32tab), ("math/bits.deBruijn64tab", laid_math_bits_deBruijn64tab), ("internal/strconv.uint64pow10", laid_internal_strconv_uint64pow10)] }
def MatchStepsSaid : Prop := matchStepsRow.holds Tryz.pinned (OpenSpec.ofChange matchStepsSpec)

/-- ITS FALSE NEIGHBOUR: 'it returns false'. Refute it at one input. -/
def matchStepsWrong : ChangeSpec := { name := "matchSteps", fn := fun _ => fun
  | [d1, d2] => { results := [.lit (.bool false)], args := [d1, d2] }
  | _ => none }
def MatchStepsWrongFalsely : Prop := matchStepsRow.holds Tryz.pinned (OpenSpec.ofChange matchStepsWrong)

/-- 'scorebooklaw15.MatchStops': WHATEVER THE INPUT: true; the input reads as it did. -/
def matchStopsSpec : ChangeSpec := { name := "matchStops", fn := fun _ => fun
  | [d] => { results := [.lit (.bool true)], args := [d] }
  | _ => none }
def matchStopsRow : OpenClaim := { program := "ytapipgdcgmmkaaagreatdoor", sum := "8fd93da712b6ae8b03ea44fc204da7376fca88c0cd163b4143b51f2003f1e7e4", func := "scorebook/scorebooklaw15.MatchStops", spec := "matchStops", inPlace := ["internal/bytealg.IndexByteString", "internal/abi.NoEscape", "internal/bytealg.MakeNoZero"], unfollowed := true, recurses := true, named := ["internal/strconv.uint64pow10", "math/bits.deBruijn32tab", "math/bits.deBruijn64tab"], apart := false, laid := [("math/bits.deBruijn32tab", laid_math_bits_deBruijn32tab), ("math/bits.deBruijn64tab", laid_math_bits_deBruijn64tab), ("internal/strconv.uint64pow10", laid_internal_strconv_uint64pow10)] }
def MatchStopsSaid : Prop := matchStopsRow.holds Tryz.pinned (OpenSpec.ofChange matchStopsSpec)

/-- ITS FALSE NEIGHBOUR: 'it returns false'. Refute it at one input. -/
def matchStopsWrong : ChangeSpec := { name := "matchStops", fn := fun _ => fun
  | [d] => { results := [.lit (.bool false)], args := [d] }
  | _ => none }
def MatchStopsWrongFalsely : Prop := matchStopsRow.holds Tryz.pinned (OpenSpec.ofChange matchStopsWrong)

/-- 'scorebooklaw15.MatchStarts': WHATEVER THE INPUT: true; the input reads as it did. -/
def matchStartsSpec : ChangeSpec := { name := "matchStarts", fn := fun _ => fun
  | [d1, d2] => { results := [.lit (.bool true)], args := [d1, d2] }
  | _ => none }
def matchStartsRow : OpenClaim := { program := "ytapipgdcgmmkaaagreatdoor", sum := "8fd93da712b6ae8b03ea44fc204da7376fca88c0cd163b4143b51f2003f1e7e4", func := "scorebook/scorebooklaw15.MatchStarts", spec := "matchStarts", inPlace := ["internal/bytealg.IndexByteString", "internal/abi.NoEscape", "internal/bytealg.MakeNoZero"], unfollowed := true, recurses := true, named := ["internal/strconv.uint64pow10", "math/bits.deBruijn32tab", "math/bits.deBruijn64tab"], apart := false, laid := [("math/bits.deBruijn32tab", laid_math_bits_deBruijn32tab), ("math/bits.deBruijn64tab", laid_math_bits_deBruijn64tab), ("internal/strconv.uint64pow10", laid_internal_strconv_uint64pow10)] }
def MatchStartsSaid : Prop := matchStartsRow.holds Tryz.pinned (OpenSpec.ofChange matchStartsSpec)

/-- ITS FALSE NEIGHBOUR: 'it returns false'. Refute it at one input. -/
def matchStartsWrong : ChangeSpec := { name := "matchStarts", fn := fun _ => fun
  | [d1, d2] => { results := [.lit (.bool false)], args := [d1, d2] }
  | _ => none }
def MatchStartsWrongFalsely : Prop := matchStartsRow.holds Tryz.pinned (OpenSpec.ofChange matchStartsWrong)

/-- 'scorebooklaw15.MatchLooks': WHATEVER THE INPUT: true; the input reads as it did. -/
def matchLooksSpec : ChangeSpec := { name := "matchLooks", fn := fun _ => fun
  | [d1, d2] => { results := [.lit (.bool true)], args := [d1, d2] }
  | _ => none }
def matchLooksRow : OpenClaim := { program := "ytapipgdcgmmkaaagreatdoor", sum := "8fd93da712b6ae8b03ea44fc204da7376fca88c0cd163b4143b51f2003f1e7e4", func := "scorebook/scorebooklaw15.MatchLooks", spec := "matchLooks", inPlace := ["internal/bytealg.IndexByteString", "internal/abi.NoEscape", "internal/bytealg.MakeNoZero"], unfollowed := true, recurses := true, named := ["internal/strconv.uint64pow10", "math/bits.deBruijn32tab", "math/bits.deBruijn64tab"], apart := false, laid := [("math/bits.deBruijn32tab", laid_math_bits_deBruijn32tab), ("math/bits.deBruijn64tab", laid_math_bits_deBruijn64tab), ("internal/strconv.uint64pow10", laid_internal_strconv_uint64pow10)] }
def MatchLooksSaid : Prop := matchLooksRow.holds Tryz.pinned (OpenSpec.ofChange matchLooksSpec)

/-- ITS FALSE NEIGHBOUR: 'it returns false'. Refute it at one input. -/
def matchLooksWrong : ChangeSpec := { name := "matchLooks", fn := fun _ => fun
  | [d1, d2] => { results := [.lit (.bool false)], args := [d1, d2] }
  | _ => none }
def MatchLooksWrongFalsely : Prop := matchLooksRow.holds Tryz.pinned (OpenSpec.ofChange matchLooksWrong)

/-- 'scorebooklaw15.MatchRefuses': WHATEVER THE INPUT: true; the input reads as it did. -/
def matchRefusesSpec : ChangeSpec := { name := "matchRefuses", fn := fun _ => fun
  | [d1, d2] => { results := [.lit (.bool true)], args := [d1, d2] }
  | _ => none }
def matchRefusesRow : OpenClaim := { program := "ytapipgdcgmmkaaagreatdoor", sum := "8fd93da712b6ae8b03ea44fc204da7376fca88c0cd163b4143b51f2003f1e7e4", func := "scorebook/scorebooklaw15.MatchRefuses", spec := "matchRefuses", inPlace := ["internal/bytealg.IndexByteString", "internal/abi.NoEscape", "internal/bytealg.MakeNoZero"], unfollowed := true, recurses := true, named := ["internal/strconv.uint64pow10", "math/bits.deBruijn32tab", "math/bits.deBruijn64tab"], apart := false, laid := [("math/bits.deBruijn32tab", laid_math_bits_deBruijn32tab), ("math/bits.deBruijn64tab", laid_math_bits_deBruijn64tab), ("internal/strconv.uint64pow10", laid_internal_strconv_uint64pow10)] }
def MatchRefusesSaid : Prop := matchRefusesRow.holds Tryz.pinned (OpenSpec.ofChange matchRefusesSpec)

/-- ITS FALSE NEIGHBOUR: 'it returns false'. Refute it at one input. -/
def matchRefusesWrong : ChangeSpec := { name := "matchRefuses", fn := fun _ => fun
  | [d1, d2] => { results := [.lit (.bool false)], args := [d1, d2] }
  | _ => none }
def MatchRefusesWrongFalsely : Prop := matchRefusesRow.holds Tryz.pinned (OpenSpec.ofChange matchRefusesWrong)

/-- 'scorebooklaw15.MatchKeeps': WHATEVER THE INPUT: true; the input reads as it did. -/
def matchKeepsSpec : ChangeSpec := { name := "matchKeeps", fn := fun _ => fun
  | [d] => { results := [.lit (.bool true)], args := [d] }
  | _ => none }
def matchKeepsRow : OpenClaim := { program := "ytapipgdcgmmkaaagreatdoor", sum := "8fd93da712b6ae8b03ea44fc204da7376fca88c0cd163b4143b51f2003f1e7e4", func := "scorebook/scorebooklaw15.MatchKeeps", spec := "matchKeeps", inPlace := ["internal/bytealg.IndexByteString", "internal/abi.NoEscape", "internal/bytealg.MakeNoZero"], unfollowed := true, recurses := true, named := ["internal/strconv.uint64pow10", "math/bits.deBruijn32tab", "math/bits.deBruijn64tab"], apart := false, laid := [("math/bits.deBruijn32tab", laid_math_bits_deBruijn32tab), ("math/bits.deBruijn64tab", laid_math_bits_deBruijn64tab), ("internal/strconv.uint64pow10", laid_internal_strconv_uint64pow10)] }
def MatchKeepsSaid : Prop := matchKeepsRow.holds Tryz.pinned (OpenSpec.ofChange matchKeepsSpec)

/-- ITS FALSE NEIGHBOUR: 'it returns false'. Refute it at one input. -/
def matchKeepsWrong : ChangeSpec := { name := "matchKeeps", fn := fun _ => fun
  | [d] => { results := [.lit (.bool false)], args := [d] }
  | _ => none }
def MatchKeepsWrongFalsely : Prop := matchKeepsRow.holds Tryz.pinned (OpenSpec.ofChange matchKeepsWrong)

/- THE SECOND FORM. 'bulk': how many values and letters a reading holds, each counted each time it is reached (what is shared counts as often as it is met; a slice's spare places count too). A statement '..UptoSaid' is the law's where the arguments, and the package variables that the reading takes, are together of bulk at most 1048576: NARROWER than '..Said'. Prove '..Said' where nothing that the law and all that it calls make is longer than what came in: it says more and counts as full. Else prove '..UptoSaid'. A law counts once. -/
mutual
def uptoBulk {H : Type} : DataW H → Nat
  | .lit (.string bytes) => bytes.length + 1
  | .lit _ => 1
  | .nil => 1
  | .ptr d => uptoBulk d + 1
  | .slice elems spare => uptoBulkAll elems + uptoBulkAll spare + 1
  | .agg parts => uptoBulkAll parts + 1
  | .iface _ d => uptoBulk d + 1
  | .map entries => uptoBulkEntries entries + 1
  | .held _ => 1
def uptoBulkAll {H : Type} : List (DataW H) → Nat
  | [] => 0
  | d :: r => uptoBulk d + uptoBulkAll r
def uptoBulkEntries {H : Type} : List (Lit × DataW H) → Nat
  | [] => 0
  | x :: r => uptoBulkEntry x + uptoBulkEntries r
def uptoBulkEntry {H : Type} : Lit × DataW H → Nat
  | (.string bytes, d) => bytes.length + uptoBulk d + 1
  | (_, d) => uptoBulk d + 1
 end
def uptoSmall : (H : Type) → List (DataW H) → Bool := fun _ ds => decide (uptoBulkAll ds ≤ 1048576)
def OpenSpec.upto (s : _root_.Go.ChangeSpec) : _root_.Go.OpenSpec := { _root_.Go.OpenSpec.ofChange s with cond := some uptoSmall }

/-- 'scorebooklaw15.MatchSteps', WHERE WHAT IT READS IS OF BULK AT MOST 1048576: true; the input reads as it did. -/
def matchStepsUptoRow : OpenClaim := { program := "ytapipgdcgmmkaaagreatdoor", sum := "8fd93da712b6ae8b03ea44fc204da7376fca88c0cd163b4143b51f2003f1e7e4", func := "scorebook/scorebooklaw15.MatchSteps", spec := "matchSteps", inPlace := ["internal/bytealg.IndexByteString", "internal/abi.NoEscape", "internal/bytealg.MakeNoZero"], unfollowed := true, recurses := true, named := ["internal/strconv.uint64pow10", "math/bits.deBruijn32tab", "math/bits.deBruijn64tab"], apart := false, laid := [("math/bits.deBruijn32tab", laid_math_bits_deBruijn32tab), ("math/bits.deBruijn64tab", laid_math_bits_deBruijn64tab), ("internal/strconv.uint64pow10", laid_internal_strconv_uint64pow10)], narrowed := true }
def MatchStepsUptoSaid : Prop := matchStepsUptoRow.holds Tryz.pinned (OpenSpec.upto matchStepsSpec)

/-- 'scorebooklaw15.MatchStops', WHERE WHAT IT READS IS OF BULK AT MOST 1048576: true; the input reads as it did. -/
def matchStopsUptoRow : OpenClaim := { program := "ytapipgdcgmmkaaagreatdoor", sum := "8fd93da712b6ae8b03ea44fc204da7376fca88c0cd163b4143b51f2003f1e7e4", func := "scorebook/scorebooklaw15.MatchStops", spec := "matchStops", inPlace := ["internal/bytealg.IndexByteString", "internal/abi.NoEscape", "internal/bytealg.MakeNoZero"], unfollowed := true, recurses := true, named := ["internal/strconv.uint64pow10", "math/bits.deBruijn32tab", "math/bits.deBruijn64tab"], apart := false, laid := [("math/bits.deBruijn32tab", laid_math_bits_deBruijn32tab), ("math/bits.deBruijn64tab", laid_math_bits_deBruijn64tab), ("internal/strconv.uint64pow10", laid_internal_strconv_uint64pow10)], narrowed := true }
def MatchStopsUptoSaid : Prop := matchStopsUptoRow.holds Tryz.pinned (OpenSpec.upto matchStopsSpec)

/-- 'scorebooklaw15.MatchStarts', WHERE WHAT IT READS IS OF BULK AT MOST 1048576: true; the input reads as it did. -/
def matchStartsUptoRow : OpenClaim := { program := "ytapipgdcgmmkaaagreatdoor", sum := "8fd93da712b6ae8b03ea44fc204da7376fca88c0cd163b4143b51f2003f1e7e4", func := "scorebook/scorebooklaw15.MatchStarts", spec := "matchStarts", inPlace := ["internal/bytealg.IndexByteString", "internal/abi.NoEscape", "internal/bytealg.MakeNoZero"], unfollowed := true, recurses := true, named := ["internal/strconv.uint64pow10", "math/bits.deBruijn32tab", "math/bits.deBruijn64tab"], apart := false, laid := [("math/bits.deBruijn32tab", laid_math_bits_deBruijn32tab), ("math/bits.deBruijn64tab", laid_math_bits_deBruijn64tab), ("internal/strconv.uint64pow10", laid_internal_strconv_uint64pow10)], narrowed := true }
def MatchStartsUptoSaid : Prop := matchStartsUptoRow.holds Tryz.pinned (OpenSpec.upto matchStartsSpec)

/-- 'scorebooklaw15.MatchLooks', WHERE WHAT IT READS IS OF BULK AT MOST 1048576: true; the input reads as it did. -/
def matchLooksUptoRow : OpenClaim := { program := "ytapipgdcgmmkaaagreatdoor", sum := "8fd93da712b6ae8b03ea44fc204da7376fca88c0cd163b4143b51f2003f1e7e4", func := "scorebook/scorebooklaw15.MatchLooks", spec := "matchLooks", inPlace := ["internal/bytealg.IndexByteString", "internal/abi.NoEscape", "internal/bytealg.MakeNoZero"], unfollowed := true, recurses := true, named := ["internal/strconv.uint64pow10", "math/bits.deBruijn32tab", "math/bits.deBruijn64tab"], apart := false, laid := [("math/bits.deBruijn32tab", laid_math_bits_deBruijn32tab), ("math/bits.deBruijn64tab", laid_math_bits_deBruijn64tab), ("internal/strconv.uint64pow10", laid_internal_strconv_uint64pow10)], narrowed := true }
def MatchLooksUptoSaid : Prop := matchLooksUptoRow.holds Tryz.pinned (OpenSpec.upto matchLooksSpec)

/-- 'scorebooklaw15.MatchRefuses', WHERE WHAT IT READS IS OF BULK AT MOST 1048576: true; the input reads as it did. -/
def matchRefusesUptoRow : OpenClaim := { program := "ytapipgdcgmmkaaagreatdoor", sum := "8fd93da712b6ae8b03ea44fc204da7376fca88c0cd163b4143b51f2003f1e7e4", func := "scorebook/scorebooklaw15.MatchRefuses", spec := "matchRefuses", inPlace := ["internal/bytealg.IndexByteString", "internal/abi.NoEscape", "internal/bytealg.MakeNoZero"], unfollowed := true, recurses := true, named := ["internal/strconv.uint64pow10", "math/bits.deBruijn32tab", "math/bits.deBruijn64tab"], apart := false, laid := [("math/bits.deBruijn32tab", laid_math_bits_deBruijn32tab), ("math/bits.deBruijn64tab", laid_math_bits_deBruijn64tab), ("internal/strconv.uint64pow10", laid_internal_strconv_uint64pow10)], narrowed := true }
def MatchRefusesUptoSaid : Prop := matchRefusesUptoRow.holds Tryz.pinned (OpenSpec.upto matchRefusesSpec)

/-- 'scorebooklaw15.MatchKeeps', WHERE WHAT IT READS IS OF BULK AT MOST 1048576: true; the input reads as it did. -/
def matchKeepsUptoRow : OpenClaim := { program := "ytapipgdcgmmkaaagreatdoor", sum := "8fd93da712b6ae8b03ea44fc204da7376fca88c0cd163b4143b51f2003f1e7e4", func := "scorebook/scorebooklaw15.MatchKeeps", spec := "matchKeeps", inPlace := ["internal/bytealg.IndexByteString", "internal/abi.NoEscape", "internal/bytealg.MakeNoZero"], unfollowed := true, recurses := true, named := ["internal/strconv.uint64pow10", "math/bits.deBruijn32tab", "math/bits.deBruijn64tab"], apart := false, laid := [("math/bits.deBruijn32tab", laid_math_bits_deBruijn32tab), ("math/bits.deBruijn64tab", laid_math_bits_deBruijn64tab), ("internal/strconv.uint64pow10", laid_internal_strconv_uint64pow10)], narrowed := true }
def MatchKeepsUptoSaid : Prop := matchKeepsUptoRow.holds Tryz.pinned (OpenSpec.upto matchKeepsSpec)

end Rows
end Go.Proofs.YtapipgdcgmmkaaaGreatDoor
