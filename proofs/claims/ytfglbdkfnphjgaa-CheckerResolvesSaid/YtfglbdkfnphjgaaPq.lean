/- Statements, functions and the whole program: the parser answers, and what it answers has the shape of a program. -/
import Derived.Test.YtfglbdkfnphjgaaPp
set_option linter.unusedVariables false
set_option linter.unusedSimpArgs false
namespace Go.Proofs.Ytfglbdkfnphjgaa
open Go.RowKit Go.Fw
structure Shape (x:GStmt):Prop where
 decl:x.Kind=1→x.Target=[]∧x.Args=[]∧x.Body=[]∧x.Else=[]∧x.Func=be
 call:x.Kind=3→x.Func≠be∧∀ y ∈ x.Target,1≤y.Op∧y.Op≤3
 func:x.Func≠be→(x.Kind=3 ∨ x.Kind=6)∧x.Body=[]∧x.Else=[]
 type:0 < x.Len→x.Type_=be
 kind:1≤x.Kind∧x.Kind≤10
 ret:x.Kind=6→x.Target=[]
def SOk (E:Nat):Nat→GStmt→Prop
 | 0,_=>False
 | n+1,x=>(x.Target.length≤1∧∀ y ∈ x.Target,EOk E y)∧(x.Args.length≤5000∧∀ y ∈ x.Args,EOk E y)∧(x.Body.length≤5000∧∀ y ∈ x.Body,SOk E n y)∧(x.Else.length≤5000∧∀ y ∈ x.Else,SOk E n y)∧Shape x
theorem SOk.mono {E:Nat}:∀ {n m:Nat} {x:GStmt},SOk E n x→n≤m→SOk E m x
 | 0,_,_,h,_=>h.elim
 | n+1,0,_,h,k=>by omega
 | n+1,m+1,x,h,k=>⟨h.1,h.2.1,⟨h.2.2.1.1,fun y hy=>SOk.mono (h.2.2.1.2 y hy) (by omega)⟩,⟨h.2.2.2.1.1,fun y hy=>SOk.mono (h.2.2.2.1.2 y hy) (by omega)⟩,h.2.2.2.2⟩
theorem len0 {α:Type} {p:α→Prop} {b:Nat}:([]:List α).length≤b∧∀ y ∈ ([]:List α),p y:=⟨Nat.zero_le _,fun y hy=>by cases hy⟩
theorem len1 {α:Type} {p:α→Prop} {b:Nat} {x:α} (h:p x) (hb:1≤b):[x].length≤b∧∀ y ∈ [x],p y:=⟨hb,fun y hy=>by
 simp only [List.mem_cons,List.not_mem_nil,or_false] at hy;subst hy;exact h⟩
theorem EP.ok {S S':GState} {x:GExpr} (h:PS S) (k:EP S x S') (z:S'.e=0):EOk S.l.length x:=by
 obtain ⟨a,n,b,c⟩:=k.2 z
 exact c.mono (by have:=k.1.hi;have:=h.lo;omega)
theorem t_args_L1 {fu:Nat} {S0:GState} (h0:PS S0) (hf:S0.l.length+105≤fu) {O:List GExpr × GState→Prop}:∀ (n:Nat) (out:List GExpr) (S:GState),Nx S0 S→S0.l.length+1≤n+S.at_→(S.e=0→(out.length:Int)≤S.at_∧∀ y ∈ out,EOk S0.l.length y)→
  1≤n→Tot (m_r03_arguments_L1 fu n S.l S.at_ S.line S.e out) (LdP (fun r=>pel r fun a r=>pel r fun b r=>pel r fun c r=>pel r fun d o=>Nx S ⟨a,b,c,d⟩∧(d=0→(o.length:Int)≤b∧∀ y ∈ o,EOk S0.l.length y)) O)
 | 0,out,S,h,hn,ho,h1=>by omega
 | n+1,out,S,h,hn,ho,_=>by
  have hS:=h.ps h0
  rw [m_r03_arguments_L1]
  refine .ite (fun c=>?_) (fun c=>.go ⟨Nx.rfl' hS,ho⟩)
  refine .bd (t_is hS) fun b hb=>?_
  refine .ite (fun d=>?_) (fun d=>.go ⟨Nx.rfl' hS,ho⟩)
  have hs:=Nx.step hS (hb d)
  have hw:wr (S.at_+1)=S.at_+1:=hS.wr1
  have hl:S.l=S0.l:=h.l
  refine .bp ((t_exprs fu).1 _ 1 0 (hs.ps hS) (by decide) (by decide) (by decide) (by decide) (by dsimp only;rw [hl];omega)) fun x S1 hx=>?_
  have hlen:=h0.tl.len;have hi:=h.hi
  refine .bd (.app (by have:=(ho c).1;simp only [List.length_cons,List.length_nil];omega)) fun r hr=>?_
  have k:=hs.trans hx.1
  have hat:=hx.1.lo
  dsimp only at hat
  rw [hw] at hat
  have hlo:=h.lo
  have h0lo:=h0.lo
  have hhi:=k.hi
  rw [hl] at hhi
  refine (t_args_L1 h0 hf (O:=O) n r S1 (h.trans k) (by omega) (fun z=>?_) (by omega)).imp fun v hv=>?_
  · subst hr
    have:=(ho c).1
    refine ⟨by simp only [List.length_append,List.length_cons,List.length_nil];omega,fun y hy=>?_⟩
    rcases List.mem_append.1 hy with hy | hy
    · exact (ho c).2 y hy
    · simp only [List.mem_cons,List.not_mem_nil,or_false] at hy
      subst hy
      have:=hx.ok (hs.ps hS) z
      dsimp only at this
      rwa [hl] at this
  · obtain v | v:=v
    · obtain ⟨a,b,c,d,o⟩:=v
      exact ⟨k.trans hv.1,hv.2⟩
    · exact hv
theorem t_args {fu:Nat} {S:GState} (h:PS S) (hf:S.l.length+105≤fu):Tot (m_r03_arguments fu S) (fun r=>pel r fun l S'=>Nx S S'∧(S'.e=0→S.at_ < S'.at_∧l.length≤5000∧∀ y ∈ l,EOk S.l.length y)):=by
 unfold m_r03_arguments
 refine .bd (t_take h) fun S1 h1=>?_
 have hS1:=h1.1.ps h
 have hl:=h1.1.l
 have hJ:Tot (m_r03_arguments_J0 fu S1) (LdP (fun r=>pel r fun o r=>pel r fun a r=>pel r fun b r=>pel r fun c d=>Nx S1 ⟨a,b,c,d⟩∧(d=0→(o.length:Int)≤b∧∀ y ∈ o,EOk S.l.length y)) (fun _=>False)):=by
  unfold m_r03_arguments_J0
  have hnil:Nx S1 ⟨S1.l,S1.at_,S1.line,S1.e⟩∧(S1.e=0→(([]:List GExpr).length:Int)≤S1.at_∧∀ y ∈ ([]:List GExpr),EOk S.l.length y):=⟨Nx.rfl' hS1,fun _=>⟨by have:=hS1.lo;simp only [List.length_nil];omega,fun y hy=>by cases hy⟩⟩
  refine .ite (fun c=>?_) fun c=>.go hnil
  refine .bd (t_is hS1) fun b hb=>.ite (fun d=>?_) fun d=>.go hnil
  refine .bp ((t_exprs fu).1 _ 1 0 hS1 (by decide) (by decide) (by decide) (by decide) (by rw [hl];omega)) fun x S2 hx=>?_
  refine .bd (.app (by simp only [List.length_cons,List.length_nil];omega)) fun r hr=>?_
  have h2:=hx.1.ps hS1
  have a1:=hx.1.lo;have a2:=hS1.lo
  refine .eoo (t_args_L1 h (by omega) fu r S2 (h1.1.trans hx.1) (by omega) (fun z=>?_) (by omega)) fun s hs=>?_
  · subst hr
    obtain ⟨b1,n,b2,b3⟩:=hx.2 z
    refine ⟨by simp only [List.nil_append,List.length_cons,List.length_nil];omega,fun y hy=>?_⟩
    simp only [List.nil_append,List.mem_cons,List.not_mem_nil,or_false] at hy
    subst hy
    have:=hx.ok hS1 z
    rwa [hl] at this
  · refine .pp hs fun a r hs=>.pp hs fun b r hs=>.pp hs fun c r hs=>.pp hs fun d o hs=>.go ⟨hx.1.trans hs.1,hs.2⟩
 refine .el hJ (fun s hs=>?_) fun _ z=>z.elim
 refine .pp hs fun o r hs=>.pp hs fun a r hs=>.pp hs fun b r hs=>.pp hs fun c d hs=>?_
 refine .bd (t_take (hs.1.ps hS1)) fun S3 h3=>.mk ⟨(h1.1.trans hs.1).trans h3.1,fun z=>?_⟩
 have k1:=h3.1.e z
 have k2:=hs.2 k1
 have k3:=h1.2 (hs.1.e k1)
 have k4:=hs.1.lo;have k5:=h3.1.lo;have k6:=hs.1.hi;have k7:=h.tl.len
 dsimp only at k4 k5 k6
 rw [hl] at k6
 exact ⟨by omega,by omega,k2.2⟩
theorem t_typed {fu:Nat} {S:GState} {x:GStmt} (h:PS S) (h1:x.Type_=be) (h2:x.Len=0):Tot (m_r03_typed fu S x) (fun r=>pel r fun S' x'=>Nx S S'∧(S'.e=0→S.at_ < S'.at_∧∃ T L,x'=⟨x.Kind,x.Line,x.Id,x.Name,T,L,x.Var,x.Target,x.Func,x.Callee,x.Args,x.Body,x.Else⟩∧(0 < L→T=be))):=by
 obtain ⟨a1,a2,a3,a4,a5,a6,a7,a8,a9,a10,a11,a12,a13⟩:=x
 dsimp only at h1 h2
 subst h1 h2
 unfold m_r03_typed
 refine .ite (fun c=>.mk ⟨Nx.rfl' h,fun z=>absurd z c⟩) fun c=>?_
 refine .bd (t_is h) fun b hb=>.ite (fun d=>?_) fun d=>?_
 · refine .bp (t_name h) fun n S1 hn=>.mk ⟨hn.1.1,fun z=>?_⟩
   have:=hn.1.2 z
   exact ⟨by omega,n,0,rfl,fun z=>by omega⟩
 have hs:=Nx.step h (hb (by simpa using d))
 have hP:=hs.ps h
 have hw:wr (S.at_+1)=S.at_+1:=h.wr1
 have hlo:=h.lo
 refine .bd (t_is hP) fun b hb=>.ite (fun d=>?_) fun d=>?_
 · exact .mk ⟨hs,fun z=>⟨by dsimp only;omega,be,0,rfl,fun _=>rfl⟩⟩
 have hs2:=Nx.step hP (hb (by simpa using d))
 dsimp only at hs2
 have hP2:=hs2.ps hP
 have hw2:wr (wr (S.at_+1)+1)=S.at_+2:=by have:=hP.wr1;dsimp only at this;rw [this];omega
 refine .bd (t_kind hP2) fun b hb=>.ite (fun d=>?_) fun d=>?_
 · refine .bd (t_fail hP2 (by decide)) fun S1 hS1=>.mk ⟨(hs.trans hs2).trans hS1.1,fun z=>absurd z hS1.2.1⟩
 obtain ⟨tk,htk,_,_,hb⟩:=hb
 have hb:=hb (by simpa using d) (by decide)
 refine .bd (.ix hP2.lo hP2.hi) fun e he=>?_
 have hJ:Tot (m_r03_typed_J0 fu e) (LdP (fun _=>True) (fun _=>False)):=by
   unfold m_r03_typed_J0
   exact .ite (fun _=>.go trivial) fun _=>.go trivial
 refine .el hJ (fun s _=>?_) fun _ z=>z.elim
 refine .ite (fun _=>?_) fun _=>?_
 · refine .bd (t_fail hP2 (by decide)) fun S1 hS1=>.mk ⟨(hs.trans hs2).trans hS1.1,fun z=>absurd z hS1.2.1⟩
 have hs3:=Nx.step hP2 hb
 refine .bd (t_take (hs3.ps hP2)) fun S1 hS1=>.mk ⟨((hs.trans hs2).trans hs3).trans hS1.1,fun z=>⟨?_,be,e.Number,rfl,fun _=>rfl⟩⟩
 have k1:=hS1.1.lo
 have k2:=hP2.wr1
 dsimp only at k1 k2
 rw [k2,hw2] at k1
 omega
theorem t_value {fu:Nat} {S:GState} {x:GStmt} {call:Bool} (h:PS S) (hf:S.l.length+105≤fu):Tot (m_r03_value fu S x call) (fun r=>pel r fun S' x'=>Nx S S'∧(S'.e=0→S.at_ < S'.at_∧∃ f a,x'=⟨x.Kind,x.Line,x.Id,x.Name,x.Type_,x.Len,x.Var,x.Target,f,x.Callee,a,x.Body,x.Else⟩∧(a.length≤5000∧∀ y ∈ a,EOk S.l.length y)∧(f=x.Func ∨ call=true)∧(call=true→m_r03_call fu S=some true→f≠be))):=by
 unfold m_r03_value
 have hJ:Tot (m_r03_value_J0 fu S x call) (LdP (fun _=>S.e=0→call=true→m_r03_call fu S=some true→False) (fun r=>pel r fun S' x'=>Nx S S'∧(S'.e=0→S.at_ < S'.at_∧∃ f a,x'=⟨x.Kind,x.Line,x.Id,x.Name,x.Type_,x.Len,x.Var,x.Target,f,x.Callee,a,x.Body,x.Else⟩∧(a.length≤5000∧∀ y ∈ a,EOk S.l.length y)∧(f=x.Func ∨ call=true)∧(call=true→m_r03_call fu S=some true→f≠be)))):=by
  unfold m_r03_value_J0
  refine .ite (fun c=>?_) fun c=>.go fun z=>absurd z c
  refine .ite (fun c2=>?_) fun c2=>.go fun _ z=>absurd z c2
  refine Tot.bde (t_call h) fun b hb _=>.ite (fun d=>?_) fun d=>.go fun _ _ z=>by rw [hb] at z;exact d (Option.some.inj z)
  refine .bp (t_name h) fun n S1 h1=>?_
  have hS1:=h1.1.1.ps h
  have hl:=h1.1.1.l
  refine .bp (t_args hS1 (by rw [hl];omega)) fun a S2 h2=>.out ⟨h1.1.1.trans h2.1,fun z=>?_⟩
  obtain ⟨k1,k2,k3⟩:=h2.2 z
  rw [hl] at k3
  have k4:=h1.1.1.lo
  exact ⟨by omega,n,a,rfl,⟨k2,k3⟩,.inr c2,fun _ _=>h1.2.1 (h2.1.e z)⟩
 refine .eo hJ fun _ hs=>?_
 refine .bp ((t_exprs fu).1 _ 1 0 h (by decide) (by decide) (by decide) (by decide) (by omega)) fun y S1 hy=>.mk ⟨hy.1,fun z=>?_⟩
 exact ⟨(hy.2 z).1,x.Func,[y],rfl,len1 (hy.ok h z) (by decide),.inl rfl,fun c d=>(hs (hy.1.e z) c d).elim⟩
def TP (N n:Nat) (S:GState) (x:GStmt) (S':GState):Prop:=Nx S S'∧(S'.e=0→S.at_ < S'.at_∧SOk N n x)
theorem t_effect {fu n:Nat} {S:GState} {ln:Int} (h:PS S) (hf:S.l.length+105≤fu):Tot (m_r03_effect fu S ⟨0,ln,0,be,be,0,0,[],be,0,[],[],[]⟩) (fun r=>pel r fun S' x=>TP S.l.length (n+1) S x S'):=by
 unfold m_r03_effect
 refine Tot.bde (t_call h) fun b hb _=>.ite (fun d=>?_) fun d=>?_
 · subst d
   refine .bp (t_value h hf) fun S1 x h1=>.mk ⟨h1.1,fun z=>?_⟩
   obtain ⟨k1,f,a,rfl,k2,k3,k4⟩:=h1.2 z
   have k5:=k4 rfl hb
   refine ⟨k1,len0,k2,len0,len0,⟨fun z=>(by cases z),fun _=>⟨k5,fun y hy=>(by cases hy)⟩,fun _=>⟨.inl rfl,rfl,rfl⟩,fun z=>absurd z (Int.lt_irrefl 0),(by dsimp only;decide),fun z=>by cases z⟩⟩
 refine .bp ((t_exprs fu).2.2 S 0 h (by decide) (by decide) (by omega)) fun y S1 h1=>?_
 have hS1:=h1.1.1.ps h
 refine .bd (t_take hS1) fun S2 h2=>?_
 have hl:S2.l=S.l:=h2.1.l.trans h1.1.1.l
 refine .bp (t_value (h2.1.ps hS1) (by rw [hl];exact hf)) fun S3 x h3=>?_
 have k:=(h1.1.1.trans h2.1).trans h3.1
 have hy:S3.e=0→[y].length≤1∧∀ q ∈ [y],EOk S.l.length q:=fun z=>len1 (h1.1.ok h (h2.1.e (h3.1.e z))) (Nat.le_refl 1)
 have hat:S3.e=0→S.at_ < S3.at_:=fun z=>by
   have:=(h1.1.2 (h2.1.e (h3.1.e z))).1;have:=h2.1.lo;have:=h3.1.lo;omega
 refine .ite (fun c=>.mk ⟨k,fun z=>?_⟩) fun c=>.mk ⟨k,fun z=>?_⟩
 · obtain ⟨k1,f,a,rfl,k2,k3,k4⟩:=h3.2 z
   rw [hl] at k2
   dsimp only at c
   refine ⟨hat z,hy z,k2,len0,len0,⟨fun z=>(by cases z),fun z=>(by cases z),fun z=>absurd c z,fun z=>absurd z (Int.lt_irrefl 0),(by dsimp only;decide),fun z=>by cases z⟩⟩
 · obtain ⟨k1,f,a,rfl,k2,k3,k4⟩:=h3.2 z
   rw [hl] at k2
   dsimp only at c
   refine ⟨hat z,hy z,k2,len0,len0,⟨fun z=>(by cases z),fun _=>⟨c,fun y' hy'=>?_⟩,fun _=>⟨.inl rfl,rfl,rfl⟩,fun z=>absurd z (Int.lt_irrefl 0),(by dsimp only;decide),fun z=>by cases z⟩⟩
   simp only [List.mem_cons,List.not_mem_nil,or_false] at hy'
   subst hy'
   exact ⟨h1.2.1,h1.2.2⟩
def Tblk (f:GState→Int→Option ((List GStmt) × Int × GState)) (fu:Nat):Prop:=∀ S nest,PS S→1≤nest→nest≤9→S.l.length+110+2 * (10 - nest)+1≤(fu:Int)→Tot (f S nest) (fun r=>pel r fun l r=>pel r fun _ S'=>(Nx S S'∧(S'.e=0→S.at_ < S'.at_∧l.length≤5000∧∀ y ∈ l,SOk S.l.length (11 - nest).toNat y))∧l.length≤5000)
def Tstm (f:GState→Int→Option (GStmt × GState)) (fu:Nat):Prop:=∀ S nest,PS S→1≤nest→nest≤8→S.l.length+110+2 * (10 - nest)≤(fu:Int)→Tot (f S nest) (fun r=>pel r fun x S'=>TP S.l.length (11 - nest).toNat S x S')
section
variable {fu:Nat} {f:GState→Int→Option ((List GStmt) × Int × GState)} {g:GState→Int→Option (GStmt × GState)}
theorem t_block_L0 (hg:Tstm g fu) {nest:Int} (h1:1≤nest) (h2:nest≤9) {S0:GState} (h0:PS S0) (hf:S0.l.length+110+2 * (10 - nest)+1≤(fu:Int)+1) {O:(List GStmt) × Int × GState→Prop}:∀ (n:Nat) (out:List GStmt) (S:GState),Nx S0 S→(S.e=0→S0.l.length+1≤n+S.at_)→1≤n→(S.e=0→(out.length:Int)≤S.at_∧∀ y ∈ out,SOk S0.l.length (11 - nest).toNat y)→out.length≤5000→
  Tot (F_r03_block_L0 fu f g nest n out S.l S.at_ S.line S.e) (LdP (fun r=>pel r fun o r=>pel r fun a r=>pel r fun b r=>pel r fun c d=>(Nx S0 ⟨a,b,c,d⟩∧(d=0→(o.length:Int)≤b∧∀ y ∈ o,SOk S0.l.length (11 - nest).toNat y))∧o.length≤5000) O)
 | 0,out,S,h,hn,hn1,ho,hq=>by omega
 | n+1,out,S,h,hn,_,ho,hq=>by
  have hS:=h.ps h0
  have hlen:=h0.tl.len;have hi:=h.hi;have hlo:=hS.lo
  rw [F_r03_block_L0]
  refine .ite (fun c=>?_) (fun c=>.go ⟨⟨h,ho⟩,hq⟩)
  have hn:=hn c
  refine .bd (t_is hS) fun b hb=>.ite (fun d=>?_) (fun d=>.go ⟨⟨h,ho⟩,hq⟩)
  refine .bd (t_begins hS) fun b hb=>.ite (fun d=>?_) (fun d=>.ite (fun d2=>?_) fun d2=>?_)
  · exact .bd (t_fail hS (by decide)) fun S1 k=>t_block_L0 hg h1 h2 h0 hf n out S1 (h.trans k.1) (fun z=>absurd z k.2.1) (by omega) (fun z=>absurd z k.2.1) hq
  · exact .bd (t_fail hS (by decide)) fun S1 k=>t_block_L0 hg h1 h2 h0 hf n out S1 (h.trans k.1) (fun z=>absurd z k.2.1) (by omega) (fun z=>absurd z k.2.1) hq
  · refine .bp (hg _ nest hS h1 (by omega) (by dsimp only;rw [h.l];omega)) fun x S1 hx=>?_
    have ho:=ho c
    refine .bd (.app (by simp only [List.length_cons,List.length_nil];omega)) fun r hr=>?_
    refine t_block_L0 hg h1 h2 h0 hf n r S1 (h.trans hx.1) (fun z=>?_) (by omega) (fun z=>?_) ?_
    · have:=(hx.2 z).1;dsimp only at this;omega
    · have k1:=(hx.2 z).1;have k2:=(hx.2 z).2
      dsimp only at k1 k2
      rw [h.l] at k2
      subst hr
      refine ⟨by simp only [List.length_append,List.length_cons,List.length_nil];omega,fun y hy=>?_⟩
      rcases List.mem_append.1 hy with hy | hy
      · exact ho.2 y hy
      · simp only [List.mem_cons,List.not_mem_nil,or_false] at hy
        subst hy
        exact k2
    · subst hr
      simp only [List.length_append,List.length_cons,List.length_nil]
      omega
theorem t_block (hg:Tstm g fu):Tblk (F_r03_block fu f g) (fu+1):=by
 intro S nest h h1 h2 hf
 unfold F_r03_block
 refine .bd (t_take h) fun S1 hS1=>?_
 have hP:=hS1.1.ps h
 have hlo:=h.lo;have hlo1:=hS1.1.lo;have hi1:=hS1.1.hi
 refine .el (t_block_L0 (O:=fun _=>False) hg h1 h2 h (by omega) fu [] S1 hS1.1 (fun _=>by omega) (by omega) (fun _=>⟨by simp only [List.length_nil];omega,fun y hy=>by cases hy⟩) (Nat.zero_le _)) (fun s hs=>?_) fun _ z=>z.elim
 refine .pp hs fun o r hs=>.pp hs fun a r hs=>.pp hs fun b r hs=>.pp hs fun c d hs=>?_
 obtain ⟨hs,hq⟩:=hs
 have hP2:=hs.1.ps h
 have hJ:Tot (F_r03_block_J1 fu f g a b d) (LdP (fun _=>True) (fun _=>False)):=by
  unfold F_r03_block_J1
  exact .ite (fun _=>.bd (.ix hP2.lo hP2.hi) fun _ _=>.go trivial) fun _=>.go trivial
 refine .el hJ (fun ln _=>?_) fun _ z=>z.elim
 refine .bd (t_take hP2) fun S3 h3=>.mk ⟨⟨hs.1.trans h3.1,fun z=>?_⟩,hq⟩
 have k0:=h3.1.e z;have k1:=h3.2 z;have k2:=hs.1.lo;have k3:=hs.2 k0;have k4:=hs.1.hi;have k5:=h.tl.len
 dsimp only at k1 k2 k3 k4
 exact ⟨by omega,by omega,k3.2⟩
theorem t_statement (hf:Tblk f fu):Tstm (F_r03_statement fu f g) (fu+1):=by
 intro S nest h h1 h2 hfu
 have hlo:=h.lo
 unfold F_r03_statement
 refine .bd (.ix h.lo h.hi) fun e he=>?_
 have hJ:Tot (F_r03_statement_J0 fu f g S e) (LdP (fun r=>pel r fun w a=>Nx S ⟨S.l,a,S.line,S.e⟩) (fun _=>False)):=by
   unfold F_r03_statement_J0
   refine .bd (t_kind h) fun b hb=>.ite (fun d=>.go ?_) fun d=>.go (Nx.rfl' h)
   obtain ⟨_,_,_,_,hb⟩:=hb
   exact Nx.step h (hb d (by decide))
 refine .el hJ (fun s hs=>.pp hs fun w a hs=>?_) fun _ z=>z.elim
 have hP:=hs.ps h
 have ha:S.at_≤a:=hs.lo
 have hN:(11 - nest).toNat=(10 - nest).toNat+1:=by omega
 have hn:wr (nest+1)=nest+1:=wr_id (by omega) (by omega)
 have hd:(11 - (nest+1)).toNat=(10 - nest).toNat:=by omega
 rw [hN,hn]
 have blk:∀ S1,Nx S S1→Tot (f S1 (nest+1)) (fun r=>pel r fun l r=>pel r fun _ S'=>Nx S1 S'∧(S'.e=0→S1.at_ < S'.at_∧l.length≤5000∧∀ y ∈ l,SOk S.l.length (10 - nest).toNat y)):=fun S1 k=>by
   have:=hf S1 (nest+1) (k.ps h) (by omega) (by omega) (by rw [k.l];omega)
   rw [k.l,hd] at this
   refine this.imp fun v hv=>?_
   obtain ⟨l,b,S2⟩:=v
   exact hv.1
 have expr:∀ S1,Nx S S1→Tot (m_r03_expression fu S1 1 0) (fun r=>pel r fun x S'=>Nx S1 S'∧(S'.e=0→S1.at_ < S'.at_∧EOk S.l.length x)):=fun S1 k=>by
   refine ((t_exprs fu).1 S1 1 0 (k.ps h) (by decide) (by decide) (by decide) (by decide) (by rw [k.l];omega)).imp fun v hv=>?_
   obtain ⟨x,S2⟩:=v
   refine ⟨hv.1,fun z=>⟨(hv.2 z).1,?_⟩⟩
   have:=EP.ok (k.ps h) hv z
   rwa [k.l] at this
 have e1:(0:Int) < 0→be=be:=fun _=>rfl
 have e2:be≠be→∀ {p:Prop},p:=fun z=>absurd rfl z
 refine .ite (fun c=>?_) fun c=>.ite (fun c=>?_) fun c=>.ite (fun c=>?_) fun c=>.ite (fun c=>?_) fun c=>.ite (fun c=>?_) fun c=>.ite (fun c=>?_) fun c=>.ite (fun c=>?_) fun c=>?_
 · -- var
   refine .bp (t_name hP) fun n S1 k1=>?_
   have q1:=hs.trans k1.1.1
   refine .bd (t_take (q1.ps h)) fun S2 k2=>?_
   have q2:=q1.trans k2.1
   refine .bp (t_typed (q2.ps h) rfl rfl) fun S3 x k3=>?_
   have q3:=q2.trans k3.1
   refine .bd (t_take (q3.ps h)) fun S4 k4=>.mk ⟨q3.trans k4.1,fun z=>?_⟩
   have z3:=k4.1.e z
   obtain ⟨a1,T,L,rfl,a2⟩:=k3.2 z3
   have a3:=q2.lo;have a4:=k4.1.lo
   exact ⟨by omega,len0,len0,len0,len0,⟨fun _=>⟨rfl,rfl,rfl,rfl,rfl⟩,fun z=>(by cases z),fun z=>absurd rfl z,a2,(by dsimp only;decide),fun z=>(by cases z)⟩⟩
 · -- if
   refine .bp (expr _ hs) fun x S1 k1=>?_
   have q1:=hs.trans k1.1
   refine .bp (blk _ q1) fun l r k2=>.pp k2 fun ln S2 k2=>?_
   have q2:=q1.trans k2.1
   have fin:∀ S3 l2,Nx S2 S3→(S3.e=0→l2.length≤5000∧∀ y ∈ l2,SOk S.l.length (10 - nest).toNat y)→TP S.l.length ((10 - nest).toNat+1) S ⟨4,e.Line,0,be,be,0,0,[],be,0,[x],l,l2⟩ S3:=fun S3 l2 k3 k4=>⟨q2.trans k3,fun z=>by
    have z2:=k3.e z;have z1:=k2.1.e z2
    have a1:=k1.2 z1;have a2:=k2.2 z2;have a3:=k3.lo;have a4:=hs.lo
    dsimp only at a1 a4
    exact ⟨by omega,len0,len1 a1.2 (by decide),a2.2,k4 z,⟨fun z=>(by cases z),fun z=>(by cases z),fun z=>absurd rfl z,e1,(by dsimp only;decide),fun z=>(by cases z)⟩⟩⟩
   have P2:=q2.ps h
   refine .ite (fun d=>?_) fun d=>.mk (fin S2 [] (Nx.rfl' P2) fun _=>len0)
   refine .bd (t_is P2) fun b hb=>.ite (fun d2=>?_) fun d2=>.mk (fin S2 [] (Nx.rfl' P2) fun _=>len0)
   have ks:=Nx.step P2 (hb d2)
   exact .bp (blk _ (q2.trans ks)) fun l2 r k3=>.pp k3 fun ln S3 k3=>.mk (fin S3 l2 (ks.trans k3.1) fun z=>(k3.2 z).2)
 · -- while
   refine .bp (expr _ hs) fun x S1 k1=>?_
   have q1:=hs.trans k1.1
   refine .bp (blk _ q1) fun l r k2=>.pp k2 fun ln S2 k2=>.mk ⟨q1.trans k2.1,fun z=>?_⟩
   have z1:=k2.1.e z
   have a1:=k1.2 z1;have a2:=k2.2 z;have a4:=hs.lo
   dsimp only at a1 a4
   exact ⟨by omega,len0,len1 a1.2 (by decide),a2.2,len0,⟨fun z=>(by cases z),fun z=>(by cases z),fun z=>absurd rfl z,e1,(by dsimp only;decide),fun z=>(by cases z)⟩⟩
 · -- try
   refine .bp (blk _ hs) fun l r k2=>.pp k2 fun ln S2 k2=>?_
   have q2:=hs.trans k2.1
   refine .bd (t_take (q2.ps h)) fun S3 k3=>?_
   have q3:=q2.trans k3.1
   refine .bp (t_name (q3.ps h)) fun n S4 k4=>?_
   have q4:=q3.trans k4.1.1
   refine .bp (blk _ q4) fun l2 r k5=>.pp k5 fun ln S5 k5=>.mk ⟨q4.trans k5.1,fun z=>?_⟩
   have z2:=k3.1.e (k4.1.1.e (k5.1.e z))
   have a2:=k2.2 z2;have a3:=k5.2 z;have a4:=hs.lo;have a5:=k3.1.lo;have a6:=k4.1.1.lo
   dsimp only at a2 a4
   exact ⟨by omega,len0,len0,a2.2,a3.2,⟨fun z=>(by cases z),fun z=>(by cases z),fun z=>absurd rfl z,e1,(by dsimp only;decide),fun z=>(by cases z)⟩⟩
 · -- return
   refine .bp (t_value hP (by dsimp only;omega)) fun S1 x k1=>?_
   have q1:=hs.trans k1.1
   refine .bd (t_take (q1.ps h)) fun S2 k2=>.mk ⟨q1.trans k2.1,fun z=>?_⟩
   obtain ⟨a1,f',a',rfl,a2,a3,a4⟩:=k1.2 (k2.1.e z)
   have a5:=k2.1.lo;have a6:=hs.lo
   dsimp only at a1 a6
   exact ⟨by omega,len0,a2,len0,len0,⟨fun z=>(by cases z),fun z=>(by cases z),fun _=>⟨.inr rfl,rfl,rfl⟩,e1,(by dsimp only;decide),fun _=>rfl⟩⟩
 · -- throw
   refine .bp (t_value hP (by dsimp only;omega)) fun S1 x k1=>?_
   have q1:=hs.trans k1.1
   refine .bd (t_take (q1.ps h)) fun S2 k2=>.mk ⟨q1.trans k2.1,fun z=>?_⟩
   obtain ⟨a1,f',a',rfl,a2,a3,a4⟩:=k1.2 (k2.1.e z)
   have a5:=k2.1.lo;have a6:=hs.lo
   dsimp only at a1 a6
   have a7:f'=be:=a3.elim id fun q=>(by cases q)
   subst a7
   exact ⟨by omega,len0,a2,len0,len0,⟨fun z=>(by cases z),fun z=>(by cases z),fun z=>absurd rfl z,e1,(by dsimp only;decide),fun z=>(by cases z)⟩⟩
 · -- print
   refine .bp (t_value hP (by dsimp only;omega)) fun S1 x k1=>?_
   have q1:=hs.trans k1.1
   refine .bd (t_take (q1.ps h)) fun S2 k2=>.mk ⟨q1.trans k2.1,fun z=>?_⟩
   obtain ⟨a1,f',a',rfl,a2,a3,a4⟩:=k1.2 (k2.1.e z)
   have a5:=k2.1.lo;have a6:=hs.lo
   dsimp only at a1 a6
   have a7:f'=be:=a3.elim id fun q=>(by cases q)
   subst a7
   exact ⟨by omega,len0,a2,len0,len0,⟨fun z=>(by cases z),fun z=>(by cases z),fun z=>absurd rfl z,e1,(by dsimp only;decide),fun z=>(by cases z)⟩⟩
 · -- an assignment or a call
   refine .bp (t_effect (n:=(10 - nest).toNat) hP (by dsimp only;omega)) fun S1 x k1=>?_
   have q1:=hs.trans k1.1
   refine .bd (t_take (q1.ps h)) fun S2 k2=>.mk ⟨q1.trans k2.1,fun z=>?_⟩
   have a1:=k1.2 (k2.1.e z);have a5:=k2.1.lo;have a6:=hs.lo
   dsimp only at a1 a6
   exact ⟨by omega,a1.2⟩
end
theorem t_blocks:∀ fu:Nat,Tblk (m_r03_block fu) fu∧Tstm (m_r03_statement fu) fu
 | 0=>by
  refine ⟨fun S a h _ _ hb=>?_,fun S b h _ _ hb=>?_⟩
  all_goals have:=h.hi;have:=h.lo;omega
 | fu+1=>⟨t_block (t_blocks fu).2,t_statement (t_blocks fu).1⟩
end Go.Proofs.Ytfglbdkfnphjgaa
