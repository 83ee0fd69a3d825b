/- CheckerErrors: runs of the evaluator. -/
import Derived.Test.YtkljfafphnohoaaKe
set_option linter.unusedVariables false
set_option linter.unusedSimpArgs false
set_option maxRecDepth 100000
namespace Go.Proofs.Ytkljfafphnohoaa
open Go.Ev Go.RowKit Go.Fw
theorem errs_0_1 : Yes (Γe 0 1) 20000 (.l (.l .h)) argsE := by unfold Yes; kernel_rfl
theorem errs_1_1 : Yes (Γe 1 1) 20000 (.l (.l .h)) argsE := by unfold Yes; kernel_rfl
theorem errs_2_1 : Yes (Γe 2 1) 20000 (.l (.l .h)) argsE := by unfold Yes; kernel_rfl
theorem errs_3_1 : Yes (Γe 3 1) 20000 (.l (.l .h)) argsE := by unfold Yes; kernel_rfl
theorem errs_4_1 : Yes (Γe 4 1) 20000 (.l (.l .h)) argsE := by unfold Yes; kernel_rfl
theorem errs_5_1 : Yes (Γe 5 1) 20000 (.l (.l .h)) argsE := by unfold Yes; kernel_rfl
theorem errs_6_1 : Yes (Γe 6 1) 20000 (.l (.l .h)) argsE := by unfold Yes; kernel_rfl
theorem errs_7_1 : Yes (Γe 7 1) 20000 (.l (.l .h)) argsE := by unfold Yes; kernel_rfl
theorem errs_8_1 : Yes (Γe 8 1) 20000 (.l (.l .h)) argsE := by unfold Yes; kernel_rfl
theorem errs_9_1 : Yes (Γe 9 1) 20000 (.l (.l .h)) argsE := by unfold Yes; kernel_rfl
theorem errs_10_1 : Yes (Γe 10 1) 20000 (.l (.l .h)) argsE := by unfold Yes; kernel_rfl
theorem errs_11_1 : Yes (Γe 11 1) 20000 (.l (.l .h)) argsE := by unfold Yes; kernel_rfl
theorem errs_12_1 : Yes (Γe 12 1) 20000 (.l (.l .h)) argsE := by unfold Yes; kernel_rfl
theorem errs_13_1 : Yes (Γe 13 1) 20000 (.l (.l .h)) argsE := by unfold Yes; kernel_rfl
theorem errs_14_1 : Yes (Γe 14 1) 20000 (.l (.l .h)) argsE := by unfold Yes; kernel_rfl
theorem errs_15_1 : Yes (Γe 15 1) 20000 (.l (.l .h)) argsE := by unfold Yes; kernel_rfl
theorem errs_16_1 : Yes (Γe 16 1) 20000 (.l (.l .h)) argsE := by unfold Yes; kernel_rfl
end Go.Proofs.Ytkljfafphnohoaa
