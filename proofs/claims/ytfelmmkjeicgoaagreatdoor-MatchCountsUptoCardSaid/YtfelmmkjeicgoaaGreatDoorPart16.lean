/- Part 16. -/
import Derived.Test.YtfelmmkjeicgoaaGreatDoorPart09
import Derived.KernelRfl
set_option linter.unusedVariables false
set_option linter.unusedSimpArgs false
namespace Go.Px
theorem YI:E9 4194304 []=some [.bool true]:=by kernel_rfl
end Go.Px
