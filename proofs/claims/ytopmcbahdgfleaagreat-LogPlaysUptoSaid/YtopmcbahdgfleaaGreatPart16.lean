/- Part 16. -/
import Derived.Test.YtopmcbahdgfleaaGreatPart09
import Derived.KernelRfl
set_option linter.unusedVariables false
set_option linter.unusedSimpArgs false
namespace Go.Px
theorem sW : IK 4194304 [] = some [.bool true] := by kernel_rfl
end Go.Px
