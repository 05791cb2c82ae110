/-
  No cell of these rows narrows 'for every input' (looked for: loops, veiled, ifaces, maps, wideKeys, modest, calm, conditions, laid).
  DERIVED. THE GIVEN ROWS OF THIS SEAT. 4 by the template 'for every input the law returns true; each argument reads behind the call as it read before'; 0 by the template 'total and deterministic' (their statements: YtdpnocjfbplgjaaGreatTotals.lean).
  GIVEN WITH THE SEED: the statements are not yours to turn. If you find one false, say at which input.
  Laid BY PROGRAM, IN A SANDBOX (cutbox-rows.mjs): the forced cells as the released guide's own fill.sh prints them over the translation 1b41f31f3f70ba60… (all of the seat's roots in one cut). By AI agents, Wed Nov 11 2026. No macro, syntax, notation, axiom, sorry.
-/
import Derived.Test.YtdpnocjfbplgjaaGreatChecked
import GoSem.Claim
import GoSem.ClaimJoined
import GoSem.ClaimMapViews
import Derived.JoinedTies
import Derived.KernelRfl
namespace Go.Proofs.YtdpnocjfbplgjaaGreat
/- THE CELL 'sum', in the pinned program and in every row, IS THE sha256 OF THE DUMP (.gsa) THAT YtdpnocjfbplgjaaGreatProg.lean LOADS. Nothing in Lean hashes anything: it is a label: what it is worth is what the hold of that sum in a sandbox is worth. -/
noncomputable def Tryz.pinned : Pinned := { name := "ytdpnocjfbplgjaagreat", sum := "1b41f31f3f70ba6086bd4d8f9c5496b197ba717454d840f167f4e6082df11338", checked := Tryz.checked }
namespace Rows
def none {H : Type} : Left H := { results := [], args := [] }

/-- 'scorebooklaw27.WheelSectors': WHATEVER THE INPUT: true; the input reads as it did. -/
def wheelSectorsSpec : ChangeSpec := { name := "wheelSectors", fn := fun _ => fun
  | [d1, d2, d3] => { results := [.lit (.bool true)], args := [d1, d2, d3] }
  | _ => none }
def wheelSectorsRow : OpenClaim := { program := "ytdpnocjfbplgjaagreat", sum := "1b41f31f3f70ba6086bd4d8f9c5496b197ba717454d840f167f4e6082df11338", func := "scorebook/scorebooklaw27.WheelSectors", spec := "wheelSectors", inPlace := ["internal/bytealg.IndexByteString"], unfollowed := true, recurses := true, apart := false }
def WheelSectorsSaid : Prop := wheelSectorsRow.holds Tryz.pinned (OpenSpec.ofChange wheelSectorsSpec)

/-- ITS FALSE NEIGHBOUR: 'it returns false'. Refute it at one input. -/
def wheelSectorsWrong : ChangeSpec := { name := "wheelSectors", fn := fun _ => fun
  | [d1, d2, d3] => { results := [.lit (.bool false)], args := [d1, d2, d3] }
  | _ => none }
def WheelSectorsWrongFalsely : Prop := wheelSectorsRow.holds Tryz.pinned (OpenSpec.ofChange wheelSectorsWrong)

/-- 'scorebooklaw27.WheelMirrors': WHATEVER THE INPUT: true; the input reads as it did. -/
def wheelMirrorsSpec : ChangeSpec := { name := "wheelMirrors", fn := fun _ => fun
  | [d] => { results := [.lit (.bool true)], args := [d] }
  | _ => none }
def wheelMirrorsRow : OpenClaim := { program := "ytdpnocjfbplgjaagreat", sum := "1b41f31f3f70ba6086bd4d8f9c5496b197ba717454d840f167f4e6082df11338", func := "scorebook/scorebooklaw27.WheelMirrors", spec := "wheelMirrors", inPlace := ["internal/bytealg.IndexByteString"], unfollowed := true, recurses := true, apart := false }
def WheelMirrorsSaid : Prop := wheelMirrorsRow.holds Tryz.pinned (OpenSpec.ofChange wheelMirrorsSpec)

/-- ITS FALSE NEIGHBOUR: 'it returns false'. Refute it at one input. -/
def wheelMirrorsWrong : ChangeSpec := { name := "wheelMirrors", fn := fun _ => fun
  | [d] => { results := [.lit (.bool false)], args := [d] }
  | _ => none }
def WheelMirrorsWrongFalsely : Prop := wheelMirrorsRow.holds Tryz.pinned (OpenSpec.ofChange wheelMirrorsWrong)

/-- 'scorebooklaw27.WheelOvers': WHATEVER THE INPUT: true; the input reads as it did. -/
def wheelOversSpec : ChangeSpec := { name := "wheelOvers", fn := fun _ => fun
  | [d1, d2, d3] => { results := [.lit (.bool true)], args := [d1, d2, d3] }
  | _ => none }
def wheelOversRow : OpenClaim := { program := "ytdpnocjfbplgjaagreat", sum := "1b41f31f3f70ba6086bd4d8f9c5496b197ba717454d840f167f4e6082df11338", func := "scorebook/scorebooklaw27.WheelOvers", spec := "wheelOvers", inPlace := ["internal/bytealg.IndexByteString"], unfollowed := true, recurses := true, apart := false }
def WheelOversSaid : Prop := wheelOversRow.holds Tryz.pinned (OpenSpec.ofChange wheelOversSpec)

/-- ITS FALSE NEIGHBOUR: 'it returns false'. Refute it at one input. -/
def wheelOversWrong : ChangeSpec := { name := "wheelOvers", fn := fun _ => fun
  | [d1, d2, d3] => { results := [.lit (.bool false)], args := [d1, d2, d3] }
  | _ => none }
def WheelOversWrongFalsely : Prop := wheelOversRow.holds Tryz.pinned (OpenSpec.ofChange wheelOversWrong)

/-- 'scorebooklaw27.WheelAddsUp': WHATEVER THE INPUT: true; the input reads as it did. -/
def wheelAddsUpSpec : ChangeSpec := { name := "wheelAddsUp", fn := fun _ => fun
  | [d1, d2] => { results := [.lit (.bool true)], args := [d1, d2] }
  | _ => none }
def wheelAddsUpRow : OpenClaim := { program := "ytdpnocjfbplgjaagreat", sum := "1b41f31f3f70ba6086bd4d8f9c5496b197ba717454d840f167f4e6082df11338", func := "scorebook/scorebooklaw27.WheelAddsUp", spec := "wheelAddsUp", inPlace := ["internal/bytealg.IndexByteString"], unfollowed := true, recurses := true, apart := false }
def WheelAddsUpSaid : Prop := wheelAddsUpRow.holds Tryz.pinned (OpenSpec.ofChange wheelAddsUpSpec)

/-- ITS FALSE NEIGHBOUR: 'it returns false'. Refute it at one input. -/
def wheelAddsUpWrong : ChangeSpec := { name := "wheelAddsUp", fn := fun _ => fun
  | [d1, d2] => { results := [.lit (.bool false)], args := [d1, d2] }
  | _ => none }
def WheelAddsUpWrongFalsely : Prop := wheelAddsUpRow.holds Tryz.pinned (OpenSpec.ofChange wheelAddsUpWrong)

/- THE SECOND FORM. 'bulk': how many values and letters a reading holds, each counted each time it is reached (what is shared counts as often as it is met; a slice's spare places count too). A statement '..UptoSaid' is the law's where the arguments, and the package variables that the reading takes, are together of bulk at most 1048576: NARROWER than '..Said'. Prove '..Said' where nothing that the law and all that it calls make is longer than what came in: it says more and counts as full. Else prove '..UptoSaid'. A law counts once. -/
mutual
def uptoBulk {H : Type} : DataW H → Nat
  | .lit (.string bytes) => bytes.length + 1
  | .lit _ => 1
  | .nil => 1
  | .ptr d => uptoBulk d + 1
  | .slice elems spare => uptoBulkAll elems + uptoBulkAll spare + 1
  | .agg parts => uptoBulkAll parts + 1
  | .iface _ d => uptoBulk d + 1
  | .map entries => uptoBulkEntries entries + 1
  | .held _ => 1
def uptoBulkAll {H : Type} : List (DataW H) → Nat
  | [] => 0
  | d :: r => uptoBulk d + uptoBulkAll r
def uptoBulkEntries {H : Type} : List (Lit × DataW H) → Nat
  | [] => 0
  | x :: r => uptoBulkEntry x + uptoBulkEntries r
def uptoBulkEntry {H : Type} : Lit × DataW H → Nat
  | (.string bytes, d) => bytes.length + uptoBulk d + 1
  | (_, d) => uptoBulk d + 1
 end
def uptoSmall : (H : Type) → List (DataW H) → Bool := fun _ ds => decide (uptoBulkAll ds ≤ 1048576)
def OpenSpec.upto (s : _root_.Go.ChangeSpec) : _root_.Go.OpenSpec := { _root_.Go.OpenSpec.ofChange s with cond := some uptoSmall }

/-- 'scorebooklaw27.WheelSectors', WHERE WHAT IT READS IS OF BULK AT MOST 1048576: true; the input reads as it did. -/
def wheelSectorsUptoRow : OpenClaim := { program := "ytdpnocjfbplgjaagreat", sum := "1b41f31f3f70ba6086bd4d8f9c5496b197ba717454d840f167f4e6082df11338", func := "scorebook/scorebooklaw27.WheelSectors", spec := "wheelSectors", inPlace := ["internal/bytealg.IndexByteString"], unfollowed := true, recurses := true, apart := false, narrowed := true }
def WheelSectorsUptoSaid : Prop := wheelSectorsUptoRow.holds Tryz.pinned (OpenSpec.upto wheelSectorsSpec)

/-- 'scorebooklaw27.WheelMirrors', WHERE WHAT IT READS IS OF BULK AT MOST 1048576: true; the input reads as it did. -/
def wheelMirrorsUptoRow : OpenClaim := { program := "ytdpnocjfbplgjaagreat", sum := "1b41f31f3f70ba6086bd4d8f9c5496b197ba717454d840f167f4e6082df11338", func := "scorebook/scorebooklaw27.WheelMirrors", spec := "wheelMirrors", inPlace := ["internal/bytealg.IndexByteString"], unfollowed := true, recurses := true, apart := false, narrowed := true }
def WheelMirrorsUptoSaid : Prop := wheelMirrorsUptoRow.holds Tryz.pinned (OpenSpec.upto wheelMirrorsSpec)

/-- 'scorebooklaw27.WheelOvers', WHERE WHAT IT READS IS OF BULK AT MOST 1048576: true; the input reads as it did. -/
def wheelOversUptoRow : OpenClaim := { program := "ytdpnocjfbplgjaagreat", sum := "1b41f31f3f70ba6086bd4d8f9c5496b197ba717454d840f167f4e6082df11338", func := "scorebook/scorebooklaw27.WheelOvers", spec := "wheelOvers", inPlace := ["internal/bytealg.IndexByteString"], unfollowed := true, recurses := true, apart := false, narrowed := true }
def WheelOversUptoSaid : Prop := wheelOversUptoRow.holds Tryz.pinned (OpenSpec.upto wheelOversSpec)

/-- 'scorebooklaw27.WheelAddsUp', WHERE WHAT IT READS IS OF BULK AT MOST 1048576: true; the input reads as it did. -/
def wheelAddsUpUptoRow : OpenClaim := { program := "ytdpnocjfbplgjaagreat", sum := "1b41f31f3f70ba6086bd4d8f9c5496b197ba717454d840f167f4e6082df11338", func := "scorebook/scorebooklaw27.WheelAddsUp", spec := "wheelAddsUp", inPlace := ["internal/bytealg.IndexByteString"], unfollowed := true, recurses := true, apart := false, narrowed := true }
def WheelAddsUpUptoSaid : Prop := wheelAddsUpUptoRow.holds Tryz.pinned (OpenSpec.upto wheelAddsUpSpec)

end Rows
end Go.Proofs.YtdpnocjfbplgjaaGreat
