/- CheckerErrors: runs of the evaluator. -/
import Derived.Test.YtkljfafphnohoaaKe
set_option linter.unusedVariables false
set_option linter.unusedSimpArgs false
set_option maxRecDepth 100000
namespace Go.Proofs.Ytkljfafphnohoaa
open Go.Ev Go.RowKit Go.Fw
theorem errs_0_0 : Yes (Γe 0 0) 20000 (.l (.l .h)) argsE := by unfold Yes; kernel_rfl
theorem errs_1_0 : Yes (Γe 1 0) 20000 (.l (.l .h)) argsE := by unfold Yes; kernel_rfl
theorem errs_2_0 : Yes (Γe 2 0) 20000 (.l (.l .h)) argsE := by unfold Yes; kernel_rfl
theorem errs_3_0 : Yes (Γe 3 0) 20000 (.l (.l .h)) argsE := by unfold Yes; kernel_rfl
theorem errs_4_0 : Yes (Γe 4 0) 20000 (.l (.l .h)) argsE := by unfold Yes; kernel_rfl
theorem errs_5_0 : Yes (Γe 5 0) 20000 (.l (.l .h)) argsE := by unfold Yes; kernel_rfl
theorem errs_6_0 : Yes (Γe 6 0) 20000 (.l (.l .h)) argsE := by unfold Yes; kernel_rfl
theorem errs_7_0 : Yes (Γe 7 0) 20000 (.l (.l .h)) argsE := by unfold Yes; kernel_rfl
theorem errs_8_0 : Yes (Γe 8 0) 20000 (.l (.l .h)) argsE := by unfold Yes; kernel_rfl
theorem errs_9_0 : Yes (Γe 9 0) 20000 (.l (.l .h)) argsE := by unfold Yes; kernel_rfl
theorem errs_10_0 : Yes (Γe 10 0) 20000 (.l (.l .h)) argsE := by unfold Yes; kernel_rfl
theorem errs_11_0 : Yes (Γe 11 0) 20000 (.l (.l .h)) argsE := by unfold Yes; kernel_rfl
theorem errs_12_0 : Yes (Γe 12 0) 20000 (.l (.l .h)) argsE := by unfold Yes; kernel_rfl
theorem errs_13_0 : Yes (Γe 13 0) 20000 (.l (.l .h)) argsE := by unfold Yes; kernel_rfl
theorem errs_14_0 : Yes (Γe 14 0) 20000 (.l (.l .h)) argsE := by unfold Yes; kernel_rfl
theorem errs_15_0 : Yes (Γe 15 0) 20000 (.l (.l .h)) argsE := by unfold Yes; kernel_rfl
theorem errs_16_0 : Yes (Γe 16 0) 20000 (.l (.l .h)) argsE := by unfold Yes; kernel_rfl
end Go.Proofs.Ytkljfafphnohoaa
