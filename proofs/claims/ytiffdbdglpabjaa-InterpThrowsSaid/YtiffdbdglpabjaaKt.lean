/- InterpThrows: what is assumed. -/
import Derived.Test.YtiffdbdglpabjaaKn
set_option linter.unusedVariables false
set_option linter.unusedSimpArgs false
set_option maxRecDepth 100000
namespace Go.Proofs.Ytiffdbdglpabjaa
open Go.Ev Go.RowKit Go.Fw
noncomputable def tT : SE := .b .add .i64 (.v 0) (.n 1)
noncomputable def Γt (k : Nat) : Env := ⟨tab, sites, [(.b .sub .i64 (.v 0) (.v 0), .n 0)], [(.eql, .v 0, .v 0, true), (.eql, tT, tT, true), (.neq, .v 0, .v 0, false), (.neq, tT, tT, false)], [kMod 1 7 k, kKnown]⟩
noncomputable def argsT : List V := [.a (.i .i64 (.v 0)), .a (.i .i64 (.v 1))]
end Go.Proofs.Ytiffdbdglpabjaa
