/- InterpThrows: runs of the evaluator. -/
import Derived.Test.YtiffdbdglpabjaaKt
set_option linter.unusedVariables false
set_option linter.unusedSimpArgs false
set_option maxRecDepth 100000
namespace Go.Proofs.Ytiffdbdglpabjaa
open Go.Ev Go.RowKit Go.Fw
theorem throws_0 : Yes (Γt 0) 20000 (.l (.r .h)) argsT := by unfold Yes; kernel_rfl
theorem throws_2 : Yes (Γt 2) 20000 (.l (.r .h)) argsT := by unfold Yes; kernel_rfl
theorem throws_4 : Yes (Γt 4) 20000 (.l (.r .h)) argsT := by unfold Yes; kernel_rfl
theorem throws_6 : Yes (Γt 6) 20000 (.l (.r .h)) argsT := by unfold Yes; kernel_rfl
end Go.Proofs.Ytiffdbdglpabjaa
