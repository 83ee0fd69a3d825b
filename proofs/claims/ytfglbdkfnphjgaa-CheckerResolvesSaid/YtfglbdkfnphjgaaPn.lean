/- The known example of chapter 04: the program's answer, computed. -/
import Derived.Test.YtfglbdkfnphjgaaLh
set_option linter.unusedVariables false
namespace Go.Proofs.Ytfglbdkfnphjgaa
open Go.RowKit Go.Fw
set_option maxRecDepth 100000 in
theorem k_known:m_l04_known 10100=some true:=by kernel_rfl
end Go.Proofs.Ytfglbdkfnphjgaa
