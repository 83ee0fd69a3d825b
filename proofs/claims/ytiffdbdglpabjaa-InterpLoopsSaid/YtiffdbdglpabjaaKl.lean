/- InterpLoops: what is assumed. -/
import Derived.Test.YtiffdbdglpabjaaKn
set_option linter.unusedVariables false
set_option linter.unusedSimpArgs false
set_option maxRecDepth 100000
namespace Go.Proofs.Ytiffdbdglpabjaa
open Go.Ev Go.RowKit Go.Fw
noncomputable def Γl (k : Nat) (t : SE) : Env := ⟨tab, sites, [], [(.eql, t, t, true), (.neq, t, t, false)], [kMod 0 30 k, kKnown]⟩
noncomputable def argsL : List V := [.a (.i .i64 (.v 0)), .a (.i .i64 (.v 1))]
end Go.Proofs.Ytiffdbdglpabjaa
