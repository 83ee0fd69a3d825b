/- The law of numbers. -/
import Derived.Test.YtfglbdkfnphjgaaPz
import Derived.Test.YtfglbdkfnphjgaaPl
import Derived.Test.YtfglbdkfnphjgaaPn
set_option linter.unusedVariables false
set_option linter.unusedSimpArgs false
namespace Go.Proofs.Ytfglbdkfnphjgaa
open Go.RowKit Go.Fw
theorem o_b {α β:Type} {x:α} {f:α→Option β}:(some x).bind f=f x:=rfl
theorem SN.le {K:List GStmtInfo} {V:List GVarInfo} {S:List Int} {f:Int} {l:List GStmt} {a b:Nat} (h:SN K V S f l a b):a≤b:=by
 induction h with
 | nil=>exact Nat.le_refl _
 | cons h k r1 r2 _ _ _ i1 i2 i3=>omega
theorem Parse_err {fu:Nat} {s:ByteArray} {p:GProgram} {ln e:Int} (h:m_r03_Parse fu s=some (p,ln,e)) (he:e≠0):p=⟨[],[]⟩:=by
 unfold m_r03_Parse at h
 obtain ⟨⟨l,x1,x2⟩,_,h⟩:=bs h
 replace h:=pi (pi h)
 rcases ite_inv h with ⟨_,h⟩|⟨_,h⟩
 · have h:=sm h
   injection h with h _
   exact h.symm
 obtain ⟨⟨p',S⟩,_,h⟩:=bs h
 replace h:=pi h
 rcases ite_inv h with ⟨_,h⟩|⟨_,h⟩
 · have h:=sm h
   injection h with h _
   exact h.symm
 · have h:=sm h
   injection h with _ h
   injection h with _ h
   exact absurd h.symm he
theorem POk.nil {N:Nat}:POk N ⟨[],[]⟩:=⟨Nat.zero_le _,fun r hr=>(by cases hr),Nat.zero_le _,fun r hr=>(by cases hr)⟩
theorem d_Text {fu:Nat} (hf:50≤fu) {l:List Int} (hl:l.length≤1000):Tot (m_kit_Text fu l) (fun _=>True):=by
 unfold m_kit_Text
 exact .bd (g_Program (by omega) hl) fun p hp=>.bd (p_Print hf hp) fun s hs=>.mk trivial
theorem d_Parse {fu:Nat} (hf:5300≤fu) {s:ByteArray}:Tot (m_r03_Parse fu s) (fun r=>pel r fun p r=>pel r fun _ e=>POk 5000 p):=by
 obtain ⟨⟨p,ln,e⟩,h1,h2⟩:=t_Parse (fu:=fu) (s:=s) hf
 refine ⟨_,h1,?_⟩
 by_cases c:e=0
 · exact h2 c
 · rw [Parse_err h1 c]
   exact POk.nil
theorem B_le {s:GSource} {B:Nat→Nat} (h200:s.Stmts.length≤200) (hl:s.Program.Funcs.length=s.Vars.length) (hB:B s.Vars.length=s.Stmts.length) (hF:∀ (i:Nat) (fn:GFunc) (V:List GVarInfo),s.Program.Funcs[i]?=some fn→s.Vars[i]?=some V→FK s.Stmts i fn V (B i) (B (i+1))):∀ (k i:Nat),i+k=s.Vars.length→B i≤200
 | 0,i,h=>by rw [show i=s.Vars.length from by omega,hB];exact h200
 | k+1,i,h=>by
  obtain ⟨fn,hfn⟩:=get_ex (l:=s.Program.Funcs) (k:=i) (by omega)
  obtain ⟨V,hV⟩:=get_ex (l:=s.Vars) (k:=i) (by omega)
  have:=(hF i fn V hfn hV).sn.le
  have:=B_le h200 hl hB hF k (i+1) (by omega)
  omega
end Go.Proofs.Ytfglbdkfnphjgaa
