/- CheckerLimits: the run of case 1. -/
import Derived.Test.YtikafojlhinonaaSC1
set_option linter.unusedVariables false
set_option linter.unusedSimpArgs false
set_option maxRecDepth 100000
namespace Go.Proofs.Ytikafojlhinonaa
open Go.Ev Go.RowKit Go.Fw
theorem lim1 : Yes Γc1 20000 (.l (.l .h)) [.a (.i .i64 (.v 0))] := by unfold Yes; kernel_rfl
end Go.Proofs.Ytikafojlhinonaa
