/- CheckerErrors: runs of the evaluator. -/
import Derived.Test.YtkljfafphnohoaaKe
set_option linter.unusedVariables false
set_option linter.unusedSimpArgs false
set_option maxRecDepth 100000
namespace Go.Proofs.Ytkljfafphnohoaa
open Go.Ev Go.RowKit Go.Fw
theorem errs_0_3 : Yes (Γe 0 3) 20000 (.l (.l .h)) argsE := by unfold Yes; kernel_rfl
theorem errs_1_3 : Yes (Γe 1 3) 20000 (.l (.l .h)) argsE := by unfold Yes; kernel_rfl
theorem errs_2_3 : Yes (Γe 2 3) 20000 (.l (.l .h)) argsE := by unfold Yes; kernel_rfl
theorem errs_3_3 : Yes (Γe 3 3) 20000 (.l (.l .h)) argsE := by unfold Yes; kernel_rfl
theorem errs_4_3 : Yes (Γe 4 3) 20000 (.l (.l .h)) argsE := by unfold Yes; kernel_rfl
theorem errs_5_3 : Yes (Γe 5 3) 20000 (.l (.l .h)) argsE := by unfold Yes; kernel_rfl
theorem errs_6_3 : Yes (Γe 6 3) 20000 (.l (.l .h)) argsE := by unfold Yes; kernel_rfl
theorem errs_7_3 : Yes (Γe 7 3) 20000 (.l (.l .h)) argsE := by unfold Yes; kernel_rfl
theorem errs_8_3 : Yes (Γe 8 3) 20000 (.l (.l .h)) argsE := by unfold Yes; kernel_rfl
theorem errs_9_3 : Yes (Γe 9 3) 20000 (.l (.l .h)) argsE := by unfold Yes; kernel_rfl
theorem errs_10_3 : Yes (Γe 10 3) 20000 (.l (.l .h)) argsE := by unfold Yes; kernel_rfl
theorem errs_11_3 : Yes (Γe 11 3) 20000 (.l (.l .h)) argsE := by unfold Yes; kernel_rfl
theorem errs_12_3 : Yes (Γe 12 3) 20000 (.l (.l .h)) argsE := by unfold Yes; kernel_rfl
theorem errs_13_3 : Yes (Γe 13 3) 20000 (.l (.l .h)) argsE := by unfold Yes; kernel_rfl
theorem errs_14_3 : Yes (Γe 14 3) 20000 (.l (.l .h)) argsE := by unfold Yes; kernel_rfl
theorem errs_15_3 : Yes (Γe 15 3) 20000 (.l (.l .h)) argsE := by unfold Yes; kernel_rfl
theorem errs_16_3 : Yes (Γe 16 3) 20000 (.l (.l .h)) argsE := by unfold Yes; kernel_rfl
end Go.Proofs.Ytkljfafphnohoaa
