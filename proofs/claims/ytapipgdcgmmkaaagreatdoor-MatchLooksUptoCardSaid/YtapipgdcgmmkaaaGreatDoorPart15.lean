/- Part 15. -/
import Derived.Test.YtapipgdcgmmkaaaGreatDoorPart09
import Derived.KernelRfl
set_option linter.unusedVariables false
set_option linter.unusedSimpArgs false
namespace Go.Px
theorem Xt : FA 4194304 [] = some [.bool true] := by kernel_rfl
end Go.Px
