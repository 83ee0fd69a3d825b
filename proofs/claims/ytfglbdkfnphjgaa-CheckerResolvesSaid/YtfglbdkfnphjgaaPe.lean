/- Statements, functions and the whole checker of the specification. -/
import Derived.Test.YtfglbdkfnphjgaaPc
set_option linter.unusedVariables false
set_option linter.unusedSimpArgs false
namespace Go.Proofs.Ytfglbdkfnphjgaa
open Go.RowKit Go.Fw
def UP (S:GState115) (V:List GVarInfo) (S':GState115):Prop:=∃ V',Stp S V S' V'∧∃ ext,S'.open_=S.open_ ++ ext
theorem UP.trans {S S1 S2:GState115} {V V1:List GVarInfo} (h:Stp S V S1 V1) (ho:S1.open_=S.open_) (k:UP S1 V1 S2):UP S V S2:=by
 obtain ⟨V2,k1,ext,k2⟩:=k
 exact ⟨V2,h.trans k1,ext,by rw [k2,ho]⟩
section
variable {fu:Nat} {f:GState115→List GStmt→Option (List GStmt × GState115)} {g:GState115→GStmt→Option (GStmt × GState115)}
end
end Go.Proofs.Ytfglbdkfnphjgaa
