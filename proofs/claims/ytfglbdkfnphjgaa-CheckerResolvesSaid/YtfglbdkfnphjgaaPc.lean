/- The checker of the specification answers for any program; variables in scope together have different names. -/
import Derived.Test.YtfglbdkfnphjgaaPu
import Derived.Test.YtfglbdkfnphjgaaLg
set_option linter.unusedVariables false
set_option linter.unusedSimpArgs false
namespace Go.Proofs.Ytfglbdkfnphjgaa
open Go.RowKit Go.Fw
structure SI (S:GState115) (V:List GVarInfo):Prop where
 f0:0≤S.f
 vl:(S.out_.Vars.length:Int)=S.f+1
 v:S.out_.Vars[S.f.toNat]?=some V
 vn:V.length≤24
 op:∀ v ∈ S.open_,0≤v∧v < V.length
 ol:S.open_.length≤V.length
 st:S.out_.Stmts.length≤200
 rk:∀ x ∈ V,x.Kind=2→0≤x.Record∧x.Record < S.out_.Program.Records.length
structure NI (S:GState115) (V:List GVarInfo):Prop where
 cl:∀ (i:Nat) (x:GVarInfo),V[i]?=some x→(i:Int) ∉ S.open_→x.To < S.out_.Stmts.length
 pr:∀ (i j:Nat) (x y:GVarInfo),i < j→V[i]?=some x→V[j]?=some y→x.Name≠y.Name ∨ ((i:Int) ∉ S.open_∧x.To < y.From)
structure Stp (S:GState115) (V:List GVarInfo) (S':GState115) (V':List GVarInfo):Prop where
 si:SI S' V'
 f:S'.f=S.f
 pg:S'.out_.Program=S.out_.Program
 vs:∀ k:Nat,(k:Int)≠S.f→S'.out_.Vars[k]?=S.out_.Vars[k]?
 st:S.out_.Stmts.length≤S'.out_.Stmts.length
 e:S'.e=0→S.e=0
 vle:V.length≤V'.length
 ni:S'.e=0→NI S V→NI S' V'
theorem Stp.rfl' {S:GState115} {V:List GVarInfo} (h:SI S V):Stp S V S V:=⟨h,rfl,rfl,fun _ _=>rfl,Nat.le_refl _,id,Nat.le_refl _,fun _ k=>k⟩
theorem Stp.trans {S S1 S2:GState115} {V V1 V2:List GVarInfo} (h:Stp S V S1 V1) (k:Stp S1 V1 S2 V2):Stp S V S2 V2:=
 ⟨k.si,k.f.trans h.f,k.pg.trans h.pg,fun x hx=>(k.vs x (by rw [h.f];exact hx)).trans (h.vs x hx),Nat.le_trans h.st k.st,fun z=>h.e (k.e z),Nat.le_trans h.vle k.vle,fun z n=>k.ni z (h.ni (k.e z) n)⟩
structure Sme (S S':GState115):Prop where
 out:S'.out_=S.out_
 f:S'.f=S.f
 op:S'.open_=S.open_
 e:S'.e=0→S.e=0
theorem Sme.rfl' {S:GState115}:Sme S S:=⟨rfl,rfl,rfl,id⟩
theorem Sme.trans {S S1 S2:GState115} (h:Sme S S1) (k:Sme S1 S2):Sme S S2:=⟨k.out.trans h.out,k.f.trans h.f,k.op.trans h.op,fun z=>h.e (k.e z)⟩
theorem Sme.si {S S':GState115} {V:List GVarInfo} (k:Sme S S') (h:SI S V):SI S' V:=
 ⟨by rw [k.f];exact h.f0,by rw [k.out,k.f];exact h.vl,by rw [k.out,k.f];exact h.v,h.vn,by rw [k.op];exact h.op,by rw [k.op];exact h.ol,by rw [k.out];exact h.st,by rw [k.out];exact h.rk⟩
theorem SI.ix {S:GState115} {V:List GVarInfo} (h:SI S V):Tot (ix S.out_.Vars S.f) (fun r=>r=V):=by
 have h1:=h.vl;have h2:=h.f0
 refine (Tot.ix h2 (by omega)).imp fun v hv=>?_
 rw [h.v] at hv
 exact (Option.some.inj hv).symm
section
variable {fu:Nat} {f:GState115→GExpr→Int→Option (GExpr × GState115)} {g:GState115→List GExpr→Int→Option (List GExpr × GState115)}
end
structure Tos (N:Int) (C:Nat→Prop) (V V':List GVarInfo):Prop where
 len:V'.length=V.length
 el:∀ (i:Nat) (x':GVarInfo),V'[i]?=some x'→∃ x,V[i]?=some x∧x'.Name=x.Name∧x'.Kind=x.Kind∧x'.Record=x.Record∧x'.From=x.From∧(x'.To=N ∨ x'.To=x.To)∧(C i→x'.To=N)∧(¬ C i→x'.To=x.To)
theorem Tos.rfl' {N:Int} {V:List GVarInfo}:Tos N (fun _=>False) V V:=⟨rfl,fun i x h=>⟨x,h,rfl,rfl,rfl,rfl,.inr rfl,fun z=>z.elim,fun _=>rfl⟩⟩
theorem Tos.trans {N:Int} {C C2:Nat→Prop} {V V1 V2:List GVarInfo} (h:Tos N C V V1) (k:Tos N C2 V1 V2):Tos N (fun i=>C i ∨ C2 i) V V2:=⟨k.len.trans h.len,fun i x hx=>by
 obtain ⟨y,hy,a1,a2,a3,a4,a5,a6,a7⟩:=k.el i x hx
 obtain ⟨z,hz,b1,b2,b3,b4,b5,b6,b7⟩:=h.el i y hy
 refine ⟨z,hz,a1.trans b1,a2.trans b2,a3.trans b3,a4.trans b4,?_,fun c=>?_,fun c=>?_⟩
 · rcases a5 with a5 | a5
   · exact .inl a5
   · rw [a5];exact b5
 · rcases c with c | c
   · rcases a5 with a5 | a5
     · exact a5
     · rw [a5];exact b6 c
   · exact a6 c
 · rw [a7 fun y=>c (.inr y)];exact b7 fun y=>c (.inl y)⟩
theorem Tos.one {N:Int} {V:List GVarInfo} {i:Nat} {x:GVarInfo} (hx:V[i]?=some x):Tos N (·=i) V (V.set i ⟨x.Name,x.Kind,x.Record,x.Words,x.Param,x.From,N⟩):=⟨List.length_set,fun j y hy=>by
 by_cases c:j=i
 · subst c
   rw [List.getElem?_set_self (lt_of_get hx)] at hy
   obtain rfl:=Option.some.inj hy
   exact ⟨x,hx,rfl,rfl,rfl,rfl,.inl rfl,fun _=>rfl,fun z=>absurd rfl z⟩
 · rw [List.getElem?_set_ne (Ne.symm c)] at hy
   exact ⟨y,hy,rfl,rfl,rfl,rfl,.inr rfl,fun z=>absurd z c,fun _=>rfl⟩⟩
section
variable {fu:Nat} {f:GState115→List GStmt→Option (List GStmt × GState115)} {g:GState115→GStmt→Option (GStmt × GState115)}
end
end Go.Proofs.Ytfglbdkfnphjgaa
