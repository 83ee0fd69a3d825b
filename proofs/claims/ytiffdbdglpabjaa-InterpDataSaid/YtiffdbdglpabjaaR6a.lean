/- InterpData: the runs of the evaluator. -/
import Derived.Test.YtiffdbdglpabjaaFn
set_option linter.unusedVariables false
set_option maxRecDepth 100000
namespace Go.Proofs.Ytiffdbdglpabjaa
open Go.Ev Go.RowKit Go.Fw
noncomputable def tD1 : SE := .b .add .i64 (.b .add .i64 (.b .sub .i64 (.v 0) (.v 1)) (.b .mul .i64 (.v 0) (.n 2))) (.n 0)
noncomputable def tD2 : SE := .b .add .i64 (.b .sub .i64 (.v 0) (.v 1)) (.b .mul .i64 (.n 2) (.v 0))
noncomputable def Γd (r : SE) : Env := ⟨tab, sites, [(.b .rem .i64 (.v 2) (.n 3), r)], [(.eql, .v 0, .v 0, true), (.eql, tD1, tD2, true)]⟩
noncomputable def argsD : List V := [.a (.i .i64 (.v 0)), .a (.i .i64 (.v 1)), .a (.i .i64 (.v 2))]
theorem interpData_0 : Yes (Γd (.n 0)) 20000 (.r (.r .h)) argsD := by unfold Yes; kernel_rfl
theorem interpData_1 : Yes (Γd (.n 1)) 20000 (.r (.r .h)) argsD := by unfold Yes; kernel_rfl
theorem interpData_2 : Yes (Γd (.n 2)) 20000 (.r (.r .h)) argsD := by unfold Yes; kernel_rfl
theorem interpData_m1 : Yes (Γd (.g 0)) 20000 (.r (.r .h)) argsD := by unfold Yes; kernel_rfl
theorem interpData_m2 : Yes (Γd (.g 1)) 20000 (.r (.r .h)) argsD := by unfold Yes; kernel_rfl
end Go.Proofs.Ytiffdbdglpabjaa
