/- InterpCalls: runs of the evaluator. -/
import Derived.Test.YtiffdbdglpabjaaKc
set_option linter.unusedVariables false
set_option linter.unusedSimpArgs false
set_option maxRecDepth 100000
namespace Go.Proofs.Ytiffdbdglpabjaa
open Go.Ev Go.RowKit Go.Fw
theorem calls_1 : Yes (Γc 1) 20000 (.r (.l .h)) argsC := by unfold Yes; kernel_rfl
theorem calls_3 : Yes (Γc 3) 20000 (.r (.l .h)) argsC := by unfold Yes; kernel_rfl
theorem calls_5 : Yes (Γc 5) 20000 (.r (.l .h)) argsC := by unfold Yes; kernel_rfl
theorem calls_7 : Yes (Γc 7) 20000 (.r (.l .h)) argsC := by unfold Yes; kernel_rfl
theorem calls_9 : Yes (Γc 9) 20000 (.r (.l .h)) argsC := by unfold Yes; kernel_rfl
theorem calls_11 : Yes (Γc 11) 20000 (.r (.l .h)) argsC := by unfold Yes; kernel_rfl
end Go.Proofs.Ytiffdbdglpabjaa
