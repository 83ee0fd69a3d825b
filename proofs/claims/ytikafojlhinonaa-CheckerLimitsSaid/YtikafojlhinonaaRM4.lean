/- CheckerLimits: the run of case 4. -/
import Derived.Test.YtikafojlhinonaaSC4
set_option linter.unusedVariables false
set_option linter.unusedSimpArgs false
set_option maxRecDepth 100000
namespace Go.Proofs.Ytikafojlhinonaa
open Go.Ev Go.RowKit Go.Fw
theorem lim4 : Yes Γc4 20000 (.l (.l .h)) [.a (.i .i64 (.v 0))] := by unfold Yes; kernel_rfl
end Go.Proofs.Ytikafojlhinonaa
