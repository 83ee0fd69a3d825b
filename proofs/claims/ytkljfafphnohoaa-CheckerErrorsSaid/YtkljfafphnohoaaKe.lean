/- CheckerErrors: what is assumed. -/
import Derived.Test.YtkljfafphnohoaaKnE
set_option linter.unusedVariables false
set_option linter.unusedSimpArgs false
set_option maxRecDepth 100000
namespace Go.Proofs.Ytkljfafphnohoaa
open Go.Ev Go.RowKit Go.Fw
noncomputable def Γe (k j : Nat) : Env := ⟨tab, sites, [], [], [kMod 0 17 k, kMod 1 4 j, kKnown4]⟩
noncomputable def argsE : List V := [.a (.i .i64 (.v 0)), .a (.i .i64 (.v 1))]
end Go.Proofs.Ytkljfafphnohoaa
