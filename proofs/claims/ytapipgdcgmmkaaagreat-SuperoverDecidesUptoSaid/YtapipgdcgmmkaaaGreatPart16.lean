/- Part 16. -/
import Derived.Test.YtapipgdcgmmkaaaGreatPart09
import Derived.KernelRfl
set_option linter.unusedVariables false
set_option linter.unusedSimpArgs false
namespace Go.Px
theorem rf : K7 4194304 [] = some [.bool true] := by kernel_rfl
end Go.Px
