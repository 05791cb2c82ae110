/- Part 19. -/
import Derived.Test.YtokmalmdcihogabGreatPart11
import Derived.KernelRfl
set_option linter.unusedVariables false
set_option linter.unusedSimpArgs false
namespace Go.Px
theorem qJ:D1 4194304 []=some [.bool true]:=by kernel_rfl
end Go.Px
