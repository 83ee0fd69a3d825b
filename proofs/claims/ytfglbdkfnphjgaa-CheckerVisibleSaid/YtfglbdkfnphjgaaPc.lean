/- The checker of the specification answers for any program; variables in scope together have different names. -/
import Derived.Test.YtfglbdkfnphjgaaPu
import Derived.Test.YtfglbdkfnphjgaaLg
set_option linter.unusedVariables false
set_option linter.unusedSimpArgs false
namespace Go.Proofs.Ytfglbdkfnphjgaa
open Go.RowKit Go.Fw
structure SI (S:GState115) (V:List GVarInfo):Prop where
 f0:0≤S.f
 vl:(S.out_.Vars.length:Int)=S.f+1
 v:S.out_.Vars[S.f.toNat]?=some V
 vn:V.length≤24
 op:∀ v ∈ S.open_,0≤v∧v < V.length
 ol:S.open_.length≤V.length
 st:S.out_.Stmts.length≤200
 rk:∀ x ∈ V,x.Kind=2→0≤x.Record∧x.Record < S.out_.Program.Records.length
structure NI (S:GState115) (V:List GVarInfo):Prop where
 cl:∀ (i:Nat) (x:GVarInfo),V[i]?=some x→(i:Int) ∉ S.open_→x.To < S.out_.Stmts.length
 pr:∀ (i j:Nat) (x y:GVarInfo),i < j→V[i]?=some x→V[j]?=some y→x.Name≠y.Name ∨ ((i:Int) ∉ S.open_∧x.To < y.From)
structure Stp (S:GState115) (V:List GVarInfo) (S':GState115) (V':List GVarInfo):Prop where
 si:SI S' V'
 f:S'.f=S.f
 pg:S'.out_.Program=S.out_.Program
 vs:∀ k:Nat,(k:Int)≠S.f→S'.out_.Vars[k]?=S.out_.Vars[k]?
 st:S.out_.Stmts.length≤S'.out_.Stmts.length
 e:S'.e=0→S.e=0
 vle:V.length≤V'.length
 ni:S'.e=0→NI S V→NI S' V'
theorem Stp.rfl' {S:GState115} {V:List GVarInfo} (h:SI S V):Stp S V S V:=⟨h,rfl,rfl,fun _ _=>rfl,Nat.le_refl _,id,Nat.le_refl _,fun _ k=>k⟩
theorem Stp.trans {S S1 S2:GState115} {V V1 V2:List GVarInfo} (h:Stp S V S1 V1) (k:Stp S1 V1 S2 V2):Stp S V S2 V2:=
 ⟨k.si,k.f.trans h.f,k.pg.trans h.pg,fun x hx=>(k.vs x (by rw [h.f];exact hx)).trans (h.vs x hx),Nat.le_trans h.st k.st,fun z=>h.e (k.e z),Nat.le_trans h.vle k.vle,fun z n=>k.ni z (h.ni (k.e z) n)⟩
structure Sme (S S':GState115):Prop where
 out:S'.out_=S.out_
 f:S'.f=S.f
 op:S'.open_=S.open_
 e:S'.e=0→S.e=0
theorem Sme.rfl' {S:GState115}:Sme S S:=⟨rfl,rfl,rfl,id⟩
theorem Sme.trans {S S1 S2:GState115} (h:Sme S S1) (k:Sme S1 S2):Sme S S2:=⟨k.out.trans h.out,k.f.trans h.f,k.op.trans h.op,fun z=>h.e (k.e z)⟩
theorem Sme.si {S S':GState115} {V:List GVarInfo} (k:Sme S S') (h:SI S V):SI S' V:=
 ⟨by rw [k.f];exact h.f0,by rw [k.out,k.f];exact h.vl,by rw [k.out,k.f];exact h.v,h.vn,by rw [k.op];exact h.op,by rw [k.op];exact h.ol,by rw [k.out];exact h.st,by rw [k.out];exact h.rk⟩
theorem Sme.stp {S S':GState115} {V:List GVarInfo} (k:Sme S S') (h:SI S V):Stp S V S' V:=
 ⟨k.si h,k.f,by rw [k.out],fun x _=>by rw [k.out],by rw [k.out];exact Nat.le_refl _,k.e,Nat.le_refl _,fun _ n=>⟨fun i x hi ho=>by rw [k.out];rw [k.op] at ho;exact n.cl i x hi ho,fun i j x y hij hi hj=>by rw [k.op];exact n.pr i j x y hij hi hj⟩⟩
theorem u_fail {fu:Nat} {S:GState115} {ln e:Int} (he:e≠0):Tot (m_r04_fail fu S ln e) (fun S'=>Sme S S'∧S'.e≠0):=by
 unfold m_r04_fail
 exact .ite (fun c=>.mk ⟨⟨rfl,rfl,rfl,fun z=>absurd z he⟩,he⟩) fun c=>.mk ⟨.rfl',c⟩
theorem u_record_L0 {fu:Nat} {n:ByteArray}:∀ (l:List GRecord) (k:Nat),Tot (m_r04_record_L0 fu n l k) (LdP (fun _=>True) (fun r=>pel r fun v b=>(k:Int)≤v∧v < k+l.length))
 | [],_=>.go trivial
 | u :: r,k=>by
  rw [m_r04_record_L0,List.length_cons]
  refine .ite (fun _=>.out ⟨Int.le_refl _,by omega⟩) fun _=>(u_record_L0 r (k+1)).imp fun v hv=>?_
  obtain v | v:=v
  · trivial
  · obtain ⟨a,b⟩:=v
    exact ⟨by have:=hv.1;omega,by have:=hv.2;omega⟩
theorem u_record {fu:Nat} {S:GState115} {n:ByteArray}:Tot (m_r04_record fu S n) (fun r=>pel r fun v b=>b=true→0≤v∧v < S.out_.Program.Records.length):=by
 unfold m_r04_record
 refine .el (u_record_L0 _ 0) (fun _ _=>.mk fun z=>(by cases z)) fun o ho=>.mk ?_
 obtain ⟨a,b⟩:=o
 exact fun _=>⟨by have:=ho.1;omega,by have:=ho.2;omega⟩
theorem u_Find_L0 {fu:Nat} {n:ByteArray}:∀ (l:List GFunc) (k:Nat),Tot (m_r04_Find_L0 fu n l k) (LdP (fun _=>True) (fun r=>pel r fun v b=>(k:Int)≤v∧v < k+l.length))
 | [],_=>.go trivial
 | u :: r,k=>by
  rw [m_r04_Find_L0,List.length_cons]
  refine .ite (fun _=>.out ⟨Int.le_refl _,by omega⟩) fun _=>(u_Find_L0 r (k+1)).imp fun v hv=>?_
  obtain v | v:=v
  · trivial
  · obtain ⟨a,b⟩:=v
    exact ⟨by have:=hv.1;omega,by have:=hv.2;omega⟩
theorem u_Find {fu:Nat} {s:GSource} {n:ByteArray}:Tot (m_r04_Find fu s n) (fun r=>pel r fun v b=>b=true→0≤v∧v < s.Program.Funcs.length):=by
 unfold m_r04_Find
 refine .el (u_Find_L0 _ 0) (fun _ _=>.mk fun z=>(by cases z)) fun o ho=>.mk ?_
 obtain ⟨a,b⟩:=o
 exact fun _=>⟨by have:=ho.1;omega,by have:=ho.2;omega⟩
theorem SI.ix {S:GState115} {V:List GVarInfo} (h:SI S V):Tot (ix S.out_.Vars S.f) (fun r=>r=V):=by
 have h1:=h.vl;have h2:=h.f0
 refine (Tot.ix h2 (by omega)).imp fun v hv=>?_
 rw [h.v] at hv
 exact (Option.some.inj hv).symm
theorem u_lookup_L0 {fu:Nat} {S:GState115} {V:List GVarInfo} (h:SI S V) {n:ByteArray}:∀ (l:List Int) (k:Nat),(∀ v ∈ l,v ∈ S.open_)→Tot (m_r04_lookup_L0 fu S n l k) (LdP (fun _=>∀ v ∈ l,∀ x,V[v.toNat]?=some x→x.Name≠n) (fun r=>pel r fun v b=>b=true∧v ∈ S.open_∧∃ x,V[v.toNat]?=some x∧x.Name=n))
 | [],_,_=>.go fun v hv=>(by cases hv)
 | u :: r,k,hl=>by
  rw [m_r04_lookup_L0]
  have hu:=h.op u (hl u (.head _))
  refine .bd h.ix fun e he=>?_
  subst he
  refine .bd (.ix hu.1 hu.2) fun x hx=>.ite (fun c=>.out ⟨rfl,hl u (.head _),x,hx,c⟩) fun c=>(u_lookup_L0 h r (k+1) fun v hv=>hl v (.tail _ hv)).imp fun v hv=>?_
  obtain v | v:=v
  · intro w hw y hy
    rcases List.mem_cons.1 hw with rfl | hw
    · rw [hx] at hy
      obtain rfl:=Option.some.inj hy
      exact c
    · exact hv w hw y hy
  · exact hv
theorem u_lookup {fu:Nat} {S:GState115} {V:List GVarInfo} (h:SI S V) {n:ByteArray}:Tot (m_r04_lookup fu S n) (fun r=>pel r fun v b=>(b=true→v ∈ S.open_∧∃ x,V[v.toNat]?=some x∧x.Name=n)∧(b=false→∀ v ∈ S.open_,∀ x,V[v.toNat]?=some x→x.Name≠n)):=by
 unfold m_r04_lookup
 refine .el (u_lookup_L0 h S.open_ 0 fun v hv=>hv) (fun _ hs=>.mk ⟨fun z=>(by cases z),fun _=>hs⟩) fun o ho=>.mk ?_
 obtain ⟨a,b⟩:=o
 obtain ⟨rfl,h1,h2⟩:=ho
 exact ⟨fun _=>⟨h1,h2⟩,fun z=>(by cases z)⟩
theorem u_declare {fu:Nat} {S:GState115} {V:List GVarInfo} (h:SI S V) {ln:Int} {x:GVarInfo} (hx:x.Kind=2→0≤x.Record∧x.Record < S.out_.Program.Records.length) (hf:S.out_.Stmts.length≤x.From) :
   Tot (m_r04_declare fu S ln x) (fun r=>pel r fun v S'=>∃ V',Stp S V S' V'∧(∃ ext,S'.open_=S.open_ ++ ext)∧(S'.e=0→V'=V ++ [x]∧v=V.length∧S'.open_=S.open_ ++ [(V.length:Int)])):=by
 unfold m_r04_declare
 refine .bp (u_lookup h) fun v b hv=>.bd h.ix fun e he=>?_
 subst he
 have same:∀ S',Sme S S'→S'.e≠0→∃ V',Stp S e S' V'∧(∃ ext,S'.open_=S.open_ ++ ext)∧(S'.e=0→V'=e ++ [x]∧(0:Int)=e.length∧S'.open_=S.open_ ++ [(e.length:Int)]):=fun S' k z=>⟨e,k.stp h,⟨[],by rw [k.op,List.append_nil]⟩,fun y=>absurd y z⟩
 refine .ite (fun c=>.mk (same S .rfl' c)) fun c=>?_
 have c:S.e=0:=by omega
 refine .ite (fun d=>.bd (u_fail (by decide)) fun S' k=>.mk (same S' k.1 k.2)) fun d=>?_
 refine .ite (fun d2=>.bd (u_fail (by decide)) fun S' k=>.mk (same S' k.1 k.2)) fun d2=>?_
 have a1:=h.vn;have a2:=h.ol;have a3:=h.f0;have a4:=h.vl
 refine .bd (.app (by simp only [List.length_cons,List.length_nil];omega)) fun r hr=>?_
 refine .bd (.app (by simp only [List.length_cons,List.length_nil];omega)) fun o ho=>?_
 refine .bd (.st (by omega)) fun vs hvs=>.mk ?_
 subst hr ho hvs
 have hb:b=false:=by cases b <;> simp_all
 refine ⟨e ++ [x],⟨⟨h.f0,by simp only [List.length_set];exact h.vl,?_,by rw [len_snoc];omega,?_,by rw [len_snoc,len_snoc];omega,h.st,mem_snoc h.rk hx⟩,rfl,rfl,fun k hk=>?_,Nat.le_refl _,fun _=>c,by rw [len_snoc];omega,fun _ n=>⟨fun i y hi ho=>?_,fun i j y z hij hi hj=>?_⟩⟩,⟨[_],rfl⟩,fun _=>⟨rfl,rfl,rfl⟩⟩
 · show (S.out_.Vars.set S.f.toNat (e ++ [x]))[S.f.toNat]?=_
   rw [List.getElem?_set_self (by omega)]
 · refine mem_snoc (fun v hv=>?_) ?_
   · have:=h.op v hv;rw [len_snoc];omega
   · rw [len_snoc];omega
 · show (S.out_.Vars.set S.f.toNat (e ++ [x]))[k]?=_
   rw [List.getElem?_set_ne (by omega)]
 · dsimp only at ho ⊢
   rw [List.mem_append,not_or] at ho
   have hi2:i < e.length:=by
     have:=lt_of_get hi
     rw [len_snoc] at this
     have h3:i≠e.length:=fun z=>ho.2 (by rw [z];exact .head _)
     omega
   rw [List.getElem?_append_left hi2] at hi
   exact n.cl i y hi ho.1
 · dsimp only
   have hi2:i < e.length:=by have:=lt_of_get hj;rw [len_snoc] at this;omega
   rw [List.getElem?_append_left hi2] at hi
   have hne:(i:Int) ∉ S.open_→(i:Int) ∉ S.open_ ++ [(e.length:Int)]:=fun z y=>by
     rcases List.mem_append.1 y with y | y
     · exact z y
     · simp only [List.mem_cons,List.not_mem_nil,or_false] at y
       omega
   by_cases hj2:j < e.length
   · rw [List.getElem?_append_left hj2] at hj
     rcases n.pr i j y z hij hi hj with k | k
     · exact .inl k
     · exact .inr ⟨hne k.1,k.2⟩
   · have:j=e.length:=by have:=lt_of_get hj;rw [len_snoc] at this;omega
     subst this
     rw [List.getElem?_append_right (Nat.le_refl _),Nat.sub_self] at hj
     obtain rfl:=Option.some.inj hj
     by_cases ho:(i:Int) ∈ S.open_
     · exact .inl (hv.2 hb _ ho y hi)
     · exact .inr ⟨hne ho,by have:=n.cl i y hi ho;omega⟩
def Uexp (f:GState115→GExpr→Int→Option (GExpr × GState115)) (fu:Nat):Prop:=∀ S V x ln n,SI S V→EOk n x→2 * n≤fu→Tot (f S x ln) (fun r=>pel r fun _ S'=>Sme S S')
def Uexps (f:GState115→List GExpr→Int→Option (List GExpr × GState115)) (fu:Nat):Prop:=∀ S V l ln n,SI S V→(∀ y ∈ l,EOk n y)→l.length≤5000→2 * n+1≤fu→Tot (f S l ln) (fun r=>pel r fun l' S'=>Sme S S'∧l'.length=l.length)
section
variable {fu:Nat} {f:GState115→GExpr→Int→Option (GExpr × GState115)} {g:GState115→List GExpr→Int→Option (List GExpr × GState115)}
theorem u_expr_L2 {x:GExpr} {O:GExpr × GState115→Prop}:∀ (l:List ByteArray) (k:Nat) (n:Int),Tot (F_r04_expr_L2 fu g f x l k n) (LdP (fun _=>True) O)
 | [],_,_=>.go trivial
 | u :: r,k,n=>by
  rw [F_r04_expr_L2]
  exact .ite (fun _=>u_expr_L2 r (k+1) _) fun _=>u_expr_L2 r (k+1) n
theorem u_expr (hg:Uexps g fu):Uexp (F_r04_expr fu g f) (fu+1):=by
 intro S V x ln n h hx hn
 cases n with
 | zero=>exact hx.elim
 | succ n=>
 unfold F_r04_expr
 refine .ite (fun c=>.mk .rfl') fun c=>?_
 have hJ:Tot (F_r04_expr_J0 fu g f S x ln) (LdP (fun r=>pel r fun _ r=>pel r fun _ r=>pel r fun a r=>pel r fun b r=>pel r fun c r=>pel r fun d r=>pel r fun e r=>pel r fun f r=>pel r fun g h=>Sme S ⟨⟨⟨a,e⟩,f,g⟩,b,h,c,d⟩) (fun r=>pel r fun _ S'=>Sme S S')):=by
  unfold F_r04_expr_J0
  have hJ1:Tot (F_r04_expr_J1 fu g f x) (LdP (fun b=>b=true→x.Op=1 ∨ x.Op=2 ∨ x.Op=3) (fun _=>False)):=by
    unfold F_r04_expr_J1
    refine .ite (fun c=>.go fun _=>.inl c) fun _=>.ite (fun c=>.go fun _=>.inr (.inl c)) fun _=>.go fun z=>.inr (.inr (of_decide_eq_true z))
  refine .el hJ1 (fun b hb=>?_) fun _ z=>z.elim
  refine .ite (fun c=>?_) fun c=>.go .rfl'
  refine .bp (u_lookup h) fun v is hv=>.ite (fun d=>?_) fun d=>?_
  · exact .bd (u_fail (by decide)) fun S' k=>.out k.1
  have hv:=hv.1 (by simpa using d)
  refine .bd h.ix fun e he=>?_
  subst he
  have ho:=h.op v hv.1
  refine .bd (.ix ho.1 ho.2) fun y hy=>.ite (fun _=>?_) fun d2=>?_
  · exact .bd (u_fail (by decide)) fun S' k=>.out k.1
  refine .ite (fun c2=>?_) fun _=>.go .rfl'
  have hk:y.Kind=2:=by
    rw [c2,show wr ((1:Int)+2)=3 from wr_id (by omega) (by omega),show wr ((3:Int) - 1)=2 from wr_id (by omega) (by omega)] at d2
    omega
  have hr:=h.rk y (List.mem_of_getElem? hy) hk
  refine .bd (.ix hr.1 hr.2) fun rc _=>.eoo (u_expr_L2 _ 0 _) fun m _=>?_
  exact .ite (fun _=>.bd (u_fail (by decide)) fun S' k=>.go k.1) fun _=>.go .rfl'
 refine .eo hJ fun s hs=>?_
 refine .pp hs fun a1 r hs=>.pp hs fun a2 r hs=>.pp hs fun a3 r hs=>.pp hs fun a4 r hs=>.pp hs fun a5 r hs=>.pp hs fun a6 r hs=>.pp hs fun a7 r hs=>.pp hs fun a8 r hs=>.pp hs fun a9 a10 hs=>?_
 exact .bp (hg _ V _ ln n (hs.si h) hx.2 hx.1 (by omega)) fun l' S' k=>.mk (hs.trans k.1)
theorem u_exprs_L0 (hf:Uexp f fu) {V:List GVarInfo} {ln:Int} {n:Nat} (hn:2 * n≤fu) {S0:GState115} (h:SI S0 V) {O:List GExpr × GState115→Prop}:∀ (l:List GExpr) (k:Nat) (out:List GExpr) (S:GState115),Sme S0 S→(∀ y ∈ l,EOk n y)→out.length+l.length≤5000→
  Tot (F_r04_exprs_L0 fu g f ln l k out S.out_.Program.Records S.f S.line S.e S.out_.Program.Funcs S.out_.Vars S.out_.Stmts S.open_) (LdP (fun r=>pel r fun o r=>pel r fun a r=>pel r fun b r=>pel r fun c r=>pel r fun d r=>pel r fun e r=>pel r fun f r=>pel r fun g h=>Sme S0 ⟨⟨⟨a,e⟩,f,g⟩,b,h,c,d⟩∧o.length=out.length+l.length) O)
 | [],_,out,S,hS,_,_=>.go ⟨hS,rfl⟩
 | u :: r,k,out,S,hS,hl,hlen=>by
  rw [F_r04_exprs_L0]
  rw [List.length_cons] at hlen
  refine .bp (hf _ V u ln n (hS.si h) (hl u (.head _)) hn) fun x S1 k1=>?_
  refine .bd (.app (by simp only [List.length_cons,List.length_nil];omega)) fun o ho=>?_
  subst ho
  refine (u_exprs_L0 hf hn h (O:=O) r (k+1) _ S1 (hS.trans k1) (fun y hy=>hl y (.tail _ hy)) (by rw [len_snoc];omega)).imp fun v hv=>?_
  obtain v | v:=v
  · obtain ⟨a1,a2,a3,a4,a5,a6,a7,a8,a9⟩:=v
    exact ⟨hv.1,by rw [hv.2,len_snoc,List.length_cons];omega⟩
  · exact hv
theorem u_exprs (hf:Uexp f fu):Uexps (F_r04_exprs fu g f) (fu+1):=by
 intro S V l ln n h hl hlen hn
 unfold F_r04_exprs
 refine .el (u_exprs_L0 (O:=fun _=>False) hf (by omega) h l 0 [] S .rfl' hl (by simp only [List.length_nil];omega)) (fun s hs=>?_) fun _ z=>z.elim
 refine .pp hs fun a1 r hs=>.pp hs fun a2 r hs=>.pp hs fun a3 r hs=>.pp hs fun a4 r hs=>.pp hs fun a5 r hs=>.pp hs fun a6 r hs=>.pp hs fun a7 r hs=>.pp hs fun a8 a9 hs=>.mk ⟨hs.1,?_⟩
 rw [hs.2,List.length_nil,Nat.zero_add]
end
theorem u_exps:∀ fu:Nat,Uexp (m_r04_expr fu) fu∧Uexps (m_r04_exprs fu) fu
 | 0=>by
  refine ⟨fun S V x ln n h hx hn=>?_,fun S V l ln n h hl hlen hn=>by omega⟩
  obtain rfl:n=0:=by omega
  exact hx.elim
 | fu+1=>⟨u_expr (u_exps fu).2,u_exprs (u_exps fu).1⟩
theorem u_callee {fu:Nat} {S:GState115} {x:GStmt}:Tot (m_r04_callee fu S x) (fun r=>pel r fun S' x'=>Sme S S'∧∃ c,x'=⟨x.Kind,x.Line,x.Id,x.Name,x.Type_,x.Len,x.Var,x.Target,x.Func,c,x.Args,x.Body,x.Else⟩):=by
 unfold m_r04_callee
 have hx:x=⟨x.Kind,x.Line,x.Id,x.Name,x.Type_,x.Len,x.Var,x.Target,x.Func,x.Callee,x.Args,x.Body,x.Else⟩:=by cases x;rfl
 refine .ite (fun _=>.mk ⟨.rfl',_,hx⟩) fun _=>?_
 refine .bp u_Find fun v b hv=>.ite (fun _=>?_) fun d=>?_
 · exact .bd (u_fail (by decide)) fun S' k=>.mk ⟨k.1,_,rfl⟩
 have hv:=hv (by simpa using d)
 refine .bd (.ix hv.1 hv.2) fun fn _=>.ite (fun _=>?_) fun _=>.mk ⟨.rfl',_,rfl⟩
 exact .bd (u_fail (by decide)) fun S' k=>.mk ⟨k.1,_,rfl⟩
structure Tos (N:Int) (C:Nat→Prop) (V V':List GVarInfo):Prop where
 len:V'.length=V.length
 el:∀ (i:Nat) (x':GVarInfo),V'[i]?=some x'→∃ x,V[i]?=some x∧x'.Name=x.Name∧x'.Kind=x.Kind∧x'.Record=x.Record∧x'.From=x.From∧(x'.To=N ∨ x'.To=x.To)∧(C i→x'.To=N)∧(¬ C i→x'.To=x.To)
theorem Tos.rfl' {N:Int} {V:List GVarInfo}:Tos N (fun _=>False) V V:=⟨rfl,fun i x h=>⟨x,h,rfl,rfl,rfl,rfl,.inr rfl,fun z=>z.elim,fun _=>rfl⟩⟩
theorem Tos.trans {N:Int} {C C2:Nat→Prop} {V V1 V2:List GVarInfo} (h:Tos N C V V1) (k:Tos N C2 V1 V2):Tos N (fun i=>C i ∨ C2 i) V V2:=⟨k.len.trans h.len,fun i x hx=>by
 obtain ⟨y,hy,a1,a2,a3,a4,a5,a6,a7⟩:=k.el i x hx
 obtain ⟨z,hz,b1,b2,b3,b4,b5,b6,b7⟩:=h.el i y hy
 refine ⟨z,hz,a1.trans b1,a2.trans b2,a3.trans b3,a4.trans b4,?_,fun c=>?_,fun c=>?_⟩
 · rcases a5 with a5 | a5
   · exact .inl a5
   · rw [a5];exact b5
 · rcases c with c | c
   · rcases a5 with a5 | a5
     · exact a5
     · rw [a5];exact b6 c
   · exact a6 c
 · rw [a7 fun y=>c (.inr y)];exact b7 fun y=>c (.inl y)⟩
theorem Tos.one {N:Int} {V:List GVarInfo} {i:Nat} {x:GVarInfo} (hx:V[i]?=some x):Tos N (·=i) V (V.set i ⟨x.Name,x.Kind,x.Record,x.Words,x.Param,x.From,N⟩):=⟨List.length_set,fun j y hy=>by
 by_cases c:j=i
 · subst c
   rw [List.getElem?_set_self (lt_of_get hx)] at hy
   obtain rfl:=Option.some.inj hy
   exact ⟨x,hx,rfl,rfl,rfl,rfl,.inl rfl,fun _=>rfl,fun z=>absurd rfl z⟩
 · rw [List.getElem?_set_ne (Ne.symm c)] at hy
   exact ⟨y,hy,rfl,rfl,rfl,rfl,.inr rfl,fun z=>absurd z c,fun _=>rfl⟩⟩
theorem set_same {α:Type} {l:List α} {x:α} {k:Nat} (h:l[k]?=some x):l.set k x=l:=by
 obtain ⟨hk,rfl⟩:=List.getElem?_eq_some_iff.1 h
 exact List.set_getElem_self hk
theorem mem_idx {α:Type} {l:List α} {x:α} (h:x ∈ l):∃ i:Nat,l[i]?=some x:=by
 obtain ⟨i,hi,rfl⟩:=List.getElem_of_mem h
 exact ⟨i,List.getElem?_eq_getElem hi⟩
theorem Tos.stp {S:GState115} {V V':List GVarInfo} {C:Nat→Prop} {op:List Int} {vs:List (List GVarInfo)} (h:SI S V) (k:Tos ((S.out_.Stmts.length:Int) - 1) C V V') (hvs:vs=S.out_.Vars.set S.f.toNat V')
   (ho:∀ v ∈ op,v ∈ S.open_) (hl:op.length≤S.open_.length) (hC:∀ i:Nat,C i→(i:Int) ∈ S.open_) (hD:S.e=0→∀ i:Nat,(i:Int) ∈ S.open_→(i:Int) ∉ op→C i):Stp S V ⟨⟨S.out_.Program,vs,S.out_.Stmts⟩,S.f,op,S.line,S.e⟩ V':=by
 have a3:=h.f0;have a4:=h.vl
 subst hvs
 refine ⟨⟨h.f0,by simp only [List.length_set];exact h.vl,?_,by rw [k.len];exact h.vn,fun v hv=>by rw [k.len];exact h.op v (ho v hv),by rw [k.len];exact Nat.le_trans hl h.ol,h.st,fun x hx hk=>?_⟩,rfl,rfl,fun q hq=>?_,Nat.le_refl _,id,by rw [k.len];exact Nat.le_refl _,fun he n=>⟨fun i x hi ho2=>?_,fun i j x y hij hi hj=>?_⟩⟩
 · show (S.out_.Vars.set S.f.toNat V')[S.f.toNat]?=_
   rw [List.getElem?_set_self (by omega)]
 · obtain ⟨i,hi⟩:=mem_idx hx
   obtain ⟨y,hy,_,b1,b2,_⟩:=k.el i x hi
   rw [b2]
   exact h.rk y (List.mem_of_getElem? hy) (b1 ▸ hk)
 · show (S.out_.Vars.set S.f.toNat V')[q]?=_
   rw [List.getElem?_set_ne (by omega)]
 · obtain ⟨y,hy,_,_,_,_,b5,b6,b7⟩:=k.el i x hi
   dsimp only at ho2 ⊢
   by_cases c:(i:Int) ∈ S.open_
   · rw [b6 (hD he i c ho2)];omega
   · rw [b7 fun z=>c (hC i z)];exact n.cl i y hy c
 · obtain ⟨x0,hx0,b1,_,_,_,_,b6,b7⟩:=k.el i x hi
   obtain ⟨y0,hy0,c1,_,_,c4,_⟩:=k.el j y hj
   rw [b1,c1,c4]
   rcases n.pr i j x0 y0 hij hx0 hy0 with m | m
   · exact .inl m
   · exact .inr ⟨fun z=>m.1 (ho _ z),by rw [b7 fun z=>m.1 (hC i z)];exact m.2⟩
def Ublk (f:GState115→List GStmt→Option (List GStmt × GState115)) (fu:Nat):Prop:=∀ S V l n,SI S V→(∀ y ∈ l,SOk 5000 n y)→l.length≤5001→2 * n+10002≤fu→Tot (f S l) (fun r=>pel r fun _ S'=>∃ V',Stp S V S' V'∧S'.open_=S.open_)
def Ustm (f:GState115→GStmt→Option (GStmt × GState115)) (fu:Nat):Prop:=∀ S V x n,SI S V→SOk 5000 n x→2 * n+10001≤fu→Tot (f S x) (fun r=>pel r fun _ S'=>∃ V',Stp S V S' V'∧∃ ext,S'.open_=S.open_ ++ ext)
section
variable {fu:Nat} {f:GState115→List GStmt→Option (List GStmt × GState115)} {g:GState115→GStmt→Option (GStmt × GState115)}
theorem u_block_L0 (hg:Ustm g fu) {n:Nat} (hn:2 * n+10001≤fu) {S0:GState115} {V0:List GVarInfo} (h0:SI S0 V0) {O:List GStmt × GState115→Prop}:∀ (l:List GStmt) (k:Nat) (out:List GStmt) (S:GState115) (V:List GVarInfo),Stp S0 V0 S V→(∃ ext,S.open_=S0.open_ ++ ext)→(∀ y ∈ l,SOk 5000 n y)→out.length+l.length≤5001→
  Tot (F_r04_block_L0 fu f g l k out S.out_.Program.Records S.f S.line S.e S.out_.Program.Funcs S.out_.Vars S.out_.Stmts S.open_) (LdP (fun r=>pel r fun o r=>pel r fun a r=>pel r fun b r=>pel r fun c r=>pel r fun d r=>pel r fun e r=>pel r fun f r=>pel r fun g h=>∃ V',Stp S0 V0 ⟨⟨⟨a,e⟩,f,g⟩,b,h,c,d⟩ V'∧∃ ext,h=S0.open_ ++ ext) O)
 | [],_,out,S,V,hS,he,_,_=>.go ⟨V,hS,he⟩
 | u :: r,k,out,S,V,hS,he,hl,hlen=>by
  rw [F_r04_block_L0]
  rw [List.length_cons] at hlen
  refine .ite (fun c=>.go ⟨V,hS,he⟩) fun c=>?_
  refine .bp (hg _ V u n hS.si (hl u (.head _)) hn) fun x S1 ⟨V1,k1,ext,k2⟩=>?_
  refine .bd (.app (by simp only [List.length_cons,List.length_nil];omega)) fun o ho=>?_
  subst ho
  obtain ⟨e0,he⟩:=he
  exact u_block_L0 hg hn h0 r (k+1) _ S1 V1 (hS.trans k1) ⟨e0 ++ ext,by rw [k2];dsimp only;rw [he,List.append_assoc]⟩ (fun y hy=>hl y (.tail _ hy)) (by rw [len_snoc];omega)
theorem u_block_L1 {S:GState115} {V:List GVarInfo} (h:SI S V) {O:List GStmt × GState115→Prop}:∀ (l:List Int) (k:Nat) (vs:List (List GVarInfo)) (V1:List GVarInfo) (C:Nat→Prop),(∀ v ∈ l,v ∈ S.open_)→vs.length=S.out_.Vars.length→vs=S.out_.Vars.set S.f.toNat V1→Tos ((S.out_.Stmts.length:Int) - 1) C V V1→(∀ i,C i→(i:Int) ∈ S.open_)→
  Tot (F_r04_block_L1 fu f g S.f S.out_.Stmts l k vs) (LdP (fun vs'=>∃ V',vs'=S.out_.Vars.set S.f.toNat V'∧∃ C',Tos ((S.out_.Stmts.length:Int) - 1) C' V V'∧(∀ i,C' i→(i:Int) ∈ S.open_)∧(∀ i,C i→C' i)∧∀ v ∈ l,C' v.toNat) O)
 | [],_,vs,V1,C,_,_,h1,h2,h3=>.go ⟨V1,h1,C,h2,h3,fun _ z=>z,fun v hv=>(by cases hv)⟩
 | u :: r,k,vs,V1,C,hl,hlen,h1,h2,h3=>by
  have a3:=h.f0;have a4:=h.vl;have a5:=h.st
  have hu:=hl u (.head _)
  have hu2:=h.op u hu
  rw [F_r04_block_L1]
  have hg:vs[S.f.toNat]?=some V1:=by rw [h1,List.getElem?_set_self (by omega)]
  refine .bd (.ix (by omega) (by omega)) fun e he=>?_
  rw [hg] at he
  obtain rfl:=Option.some.inj he
  refine .bd (.ix hu2.1 (by rw [h2.len];exact hu2.2)) fun x hx=>?_
  refine .bd (.st (by rw [h2.len];exact hu2)) fun w hw=>?_
  refine .bd (.st (by omega)) fun w2 hw2=>?_
  rw [wr_id (by omega) (by omega)] at hw
  have k1:=Tos.one (N:=(S.out_.Stmts.length:Int) - 1) hx
  rw [← hw] at k1
  refine (u_block_L1 h (O:=O) r (k+1) w2 w _ (fun v hv=>hl v (.tail _ hv)) (by rw [hw2,List.length_set];exact hlen) (by rw [hw2,h1,List.set_set]) (h2.trans k1) (fun i hi=>?_)).imp fun v hv=>?_
  · rcases hi with hi | rfl
    · exact h3 i hi
    · rw [show ((u.toNat:Nat):Int)=u by omega];exact hu
  · obtain v | v:=v
    · obtain ⟨V',b1,C',b2,b3,b4,b5⟩:=hv
      refine ⟨V',b1,C',b2,b3,fun i hi=>b4 i (.inl hi),fun q hq=>?_⟩
      rcases List.mem_cons.1 hq with rfl | hq
      · exact b4 _ (.inr rfl)
      · exact b5 q hq
    · exact hv
theorem u_block (hg:Ustm g fu):Ublk (F_r04_block fu f g) (fu+1):=by
 intro S V l n h hl hlen hn
 unfold F_r04_block
 refine .el (u_block_L0 (O:=fun _=>False) hg (by omega) h l 0 [] S V (.rfl' h) ⟨[],(List.append_nil _).symm⟩ hl (by simp only [List.length_nil];omega)) (fun s hs=>?_) fun _ z=>z.elim
 refine .pp hs fun o r hs=>.pp hs fun a1 r hs=>.pp hs fun a2 r hs=>.pp hs fun a3 r hs=>.pp hs fun a4 r hs=>.pp hs fun a5 r hs=>.pp hs fun a6 r hs=>.pp hs fun a7 a8 hs=>?_
 obtain ⟨V1,h1,ext,rfl⟩:=hs
 have b1:=h1.si.ol;have b2:=h1.si.vn
 dsimp only at b1
 rw [List.length_append] at b1
 refine .bd (.sl (by rw [List.length_append];omega)) fun l1 hl1=>?_
 have e1:l1=ext:=by
   rw [hl1,List.length_append]
   simp only [Int.toNat_natCast,List.drop_left]
   rw [List.take_of_length_le (by omega)]
 subst e1
 clear hl1
 refine .el (u_block_L1 h1.si (O:=fun _=>False) l1 0 a6 V1 (fun _=>False) (fun v hv=>List.mem_append.2 (.inr hv)) rfl (set_same h1.si.v).symm .rfl' (fun _ z=>z.elim)) (fun vs hvs=>?_) fun _ z=>z.elim
 obtain ⟨V2,c1,C,c2,c3,_,c5⟩:=hvs
 refine .bd (.sl (by rw [List.length_append];omega)) fun l2 hl2=>?_
 have e2:l2=S.open_:=by
   rw [hl2]
   simp only [Int.toNat_zero,List.drop_zero,Int.sub_zero,Int.toNat_natCast,List.take_left]
 subst e2
 refine .bd (.app (by simp only [List.length_nil];omega)) fun r hr=>.mk ?_
 rw [List.nil_append] at hr
 subst hr
 refine ⟨V2,h1.trans (Tos.stp h1.si c2 c1 (fun v hv=>List.mem_append.2 (.inl hv)) (by dsimp only;rw [List.length_append];omega) c3 fun _ i hi ho=>?_),rfl⟩
 dsimp only at hi
 rcases List.mem_append.1 hi with hi | hi
 · exact absurd hi ho
 · have:=c5 _ hi
   rwa [Int.toNat_natCast] at this
end
end Go.Proofs.Ytfglbdkfnphjgaa
