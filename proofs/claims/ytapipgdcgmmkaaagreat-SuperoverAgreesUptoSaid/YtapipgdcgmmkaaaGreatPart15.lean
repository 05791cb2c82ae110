/- Part 15. -/
import Derived.Test.YtapipgdcgmmkaaaGreatPart08
import Derived.KernelRfl
set_option linter.unusedVariables false
set_option linter.unusedSimpArgs false
namespace Go.Px
theorem dL : I7 4194304 [] = some [.bool true] := by kernel_rfl
end Go.Px
