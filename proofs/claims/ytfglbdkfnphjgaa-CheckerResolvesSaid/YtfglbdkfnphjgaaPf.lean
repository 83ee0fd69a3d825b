/- Functions and the whole checker of the specification: it answers, and variables whose scopes meet have different names. -/
import Derived.Test.YtfglbdkfnphjgaaPe
set_option linter.unusedVariables false
set_option linter.unusedSimpArgs false
namespace Go.Proofs.Ytfglbdkfnphjgaa
open Go.RowKit Go.Fw
def NP (V:List GVarInfo):Prop:=∀ (i j:Nat) (x y:GVarInfo),i < j→V[i]?=some x→V[j]?=some y→x.Name≠y.Name ∨ x.To < y.From
structure UF (S S':GState115):Prop where
 f:S'.f=S.f
 pg:S'.out_.Program=S.out_.Program
 vs:∀ k:Nat,(k:Int)≠S.f→S'.out_.Vars[k]?=S.out_.Vars[k]?
 vl:S'.out_.Vars.length=S.out_.Vars.length
 st:S'.out_.Stmts.length≤200
 np:S'.e=0→∀ V,S'.out_.Vars[S.f.toNat]?=some V→NP V∧V.length≤24
theorem NI.np {S:GState115} {V:List GVarInfo} (h:NI S V):NP V:=fun i j x y hij hi hj=>(h.pr i j x y hij hi hj).imp id And.right
theorem NI.nil {S:GState115}:NI S []:=⟨fun i x hi=>(by cases hi),fun i j x y _ hi=>(by cases hi)⟩
theorem UF.of {S S':GState115} (h:UF ⟨S.out_,S.f,[],S.line,S.e⟩ S'):UF S S':=⟨h.f,h.pg,h.vs,h.vl,h.st,h.np⟩
end Go.Proofs.Ytfglbdkfnphjgaa
