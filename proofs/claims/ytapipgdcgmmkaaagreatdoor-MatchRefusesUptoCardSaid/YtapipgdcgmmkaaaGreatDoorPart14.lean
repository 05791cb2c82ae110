/- Part 14. -/
import Derived.Test.YtapipgdcgmmkaaaGreatDoorPart08
import Derived.KernelRfl
set_option linter.unusedVariables false
set_option linter.unusedSimpArgs false
namespace Go.Px
theorem dN : Ii 4194304 [] = some [.bool true] := by kernel_rfl
end Go.Px
