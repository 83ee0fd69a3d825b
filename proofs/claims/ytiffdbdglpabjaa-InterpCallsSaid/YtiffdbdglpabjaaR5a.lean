/- InterpCalls: runs of the evaluator. -/
import Derived.Test.YtiffdbdglpabjaaKc
set_option linter.unusedVariables false
set_option linter.unusedSimpArgs false
set_option maxRecDepth 100000
namespace Go.Proofs.Ytiffdbdglpabjaa
open Go.Ev Go.RowKit Go.Fw
theorem calls_0 : Yes (Γc 0) 20000 (.r (.l .h)) argsC := by unfold Yes; kernel_rfl
theorem calls_2 : Yes (Γc 2) 20000 (.r (.l .h)) argsC := by unfold Yes; kernel_rfl
theorem calls_4 : Yes (Γc 4) 20000 (.r (.l .h)) argsC := by unfold Yes; kernel_rfl
theorem calls_6 : Yes (Γc 6) 20000 (.r (.l .h)) argsC := by unfold Yes; kernel_rfl
theorem calls_8 : Yes (Γc 8) 20000 (.r (.l .h)) argsC := by unfold Yes; kernel_rfl
theorem calls_10 : Yes (Γc 10) 20000 (.r (.l .h)) argsC := by unfold Yes; kernel_rfl
end Go.Proofs.Ytiffdbdglpabjaa
