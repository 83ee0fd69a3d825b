/- CheckerErrors: runs of the evaluator. -/
import Derived.Test.YtkljfafphnohoaaKe
set_option linter.unusedVariables false
set_option linter.unusedSimpArgs false
set_option maxRecDepth 100000
namespace Go.Proofs.Ytkljfafphnohoaa
open Go.Ev Go.RowKit Go.Fw
theorem errs_0_2 : Yes (Γe 0 2) 20000 (.l (.l .h)) argsE := by unfold Yes; kernel_rfl
theorem errs_1_2 : Yes (Γe 1 2) 20000 (.l (.l .h)) argsE := by unfold Yes; kernel_rfl
theorem errs_2_2 : Yes (Γe 2 2) 20000 (.l (.l .h)) argsE := by unfold Yes; kernel_rfl
theorem errs_3_2 : Yes (Γe 3 2) 20000 (.l (.l .h)) argsE := by unfold Yes; kernel_rfl
theorem errs_4_2 : Yes (Γe 4 2) 20000 (.l (.l .h)) argsE := by unfold Yes; kernel_rfl
theorem errs_5_2 : Yes (Γe 5 2) 20000 (.l (.l .h)) argsE := by unfold Yes; kernel_rfl
theorem errs_6_2 : Yes (Γe 6 2) 20000 (.l (.l .h)) argsE := by unfold Yes; kernel_rfl
theorem errs_7_2 : Yes (Γe 7 2) 20000 (.l (.l .h)) argsE := by unfold Yes; kernel_rfl
theorem errs_8_2 : Yes (Γe 8 2) 20000 (.l (.l .h)) argsE := by unfold Yes; kernel_rfl
theorem errs_9_2 : Yes (Γe 9 2) 20000 (.l (.l .h)) argsE := by unfold Yes; kernel_rfl
theorem errs_10_2 : Yes (Γe 10 2) 20000 (.l (.l .h)) argsE := by unfold Yes; kernel_rfl
theorem errs_11_2 : Yes (Γe 11 2) 20000 (.l (.l .h)) argsE := by unfold Yes; kernel_rfl
theorem errs_12_2 : Yes (Γe 12 2) 20000 (.l (.l .h)) argsE := by unfold Yes; kernel_rfl
theorem errs_13_2 : Yes (Γe 13 2) 20000 (.l (.l .h)) argsE := by unfold Yes; kernel_rfl
theorem errs_14_2 : Yes (Γe 14 2) 20000 (.l (.l .h)) argsE := by unfold Yes; kernel_rfl
theorem errs_15_2 : Yes (Γe 15 2) 20000 (.l (.l .h)) argsE := by unfold Yes; kernel_rfl
theorem errs_16_2 : Yes (Γe 16 2) 20000 (.l (.l .h)) argsE := by unfold Yes; kernel_rfl
end Go.Proofs.Ytkljfafphnohoaa
