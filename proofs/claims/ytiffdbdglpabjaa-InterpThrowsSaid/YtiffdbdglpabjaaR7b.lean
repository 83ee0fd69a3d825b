/- InterpThrows: runs of the evaluator. -/
import Derived.Test.YtiffdbdglpabjaaKt
set_option linter.unusedVariables false
set_option linter.unusedSimpArgs false
set_option maxRecDepth 100000
namespace Go.Proofs.Ytiffdbdglpabjaa
open Go.Ev Go.RowKit Go.Fw
theorem throws_1 : Yes (Γt 1) 20000 (.l (.r .h)) argsT := by unfold Yes; kernel_rfl
theorem throws_3 : Yes (Γt 3) 20000 (.l (.r .h)) argsT := by unfold Yes; kernel_rfl
theorem throws_5 : Yes (Γt 5) 20000 (.l (.r .h)) argsT := by unfold Yes; kernel_rfl
end Go.Proofs.Ytiffdbdglpabjaa
