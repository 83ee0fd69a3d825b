/- InterpCalls: what is assumed. -/
import Derived.Test.YtiffdbdglpabjaaKn
set_option linter.unusedVariables false
set_option linter.unusedSimpArgs false
set_option maxRecDepth 100000
namespace Go.Proofs.Ytiffdbdglpabjaa
open Go.Ev Go.RowKit Go.Fw
noncomputable def Γc (k : Nat) : Env := ⟨tab, sites, [], [], [kMod 0 12 k, kKnown]⟩
noncomputable def argsC : List V := [.a (.i .i64 (.v 0))]
end Go.Proofs.Ytiffdbdglpabjaa
