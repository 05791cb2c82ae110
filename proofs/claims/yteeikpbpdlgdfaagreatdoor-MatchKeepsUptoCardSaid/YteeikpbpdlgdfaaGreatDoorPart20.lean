/- Part 20. -/
import Derived.Test.YteeikpbpdlgdfaaGreatDoorPart11
import Derived.KernelRfl
set_option linter.unusedVariables false
set_option linter.unusedSimpArgs false
namespace Go.Px
theorem aN:FG 4194304 []=some [.bool true]:=by kernel_rfl
end Go.Px
