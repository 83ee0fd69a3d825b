/- Functions and the whole checker of the specification: it answers, and variables whose scopes meet have different names. -/
import Derived.Test.YtfglbdkfnphjgaaPe
set_option linter.unusedVariables false
set_option linter.unusedSimpArgs false
namespace Go.Proofs.Ytfglbdkfnphjgaa
open Go.RowKit Go.Fw
def NP (V:List GVarInfo):Prop:=∀ (i j:Nat) (x y:GVarInfo),i < j→V[i]?=some x→V[j]?=some y→x.Name≠y.Name ∨ x.To < y.From
theorem u_function_L0 {fu:Nat} {x1:GFunc} {S0:GState115} (h0:SI S0 []) {O:GFunc × GState115→Prop}:∀ (l:List ByteArray) (k:Nat) (S:GState115) (V:List GVarInfo),Stp S0 [] S V→(S.e=0→V.length=k∧∀ i:Nat,i < k→(i:Int) ∈ S.open_)→
  Tot (m_r04_function_L0 fu x1 l k S.open_ S.out_.Program.Records S.f S.line S.e S.out_.Program.Funcs S.out_.Vars S.out_.Stmts) (LdP (fun r=>pel r fun h r=>pel r fun a r=>pel r fun b r=>pel r fun c r=>pel r fun d r=>pel r fun e r=>pel r fun f g=>∃ V',Stp S0 [] ⟨⟨⟨a,e⟩,f,g⟩,b,h,c,d⟩ V'∧(d=0→V'.length=k+l.length∧∀ i:Nat,i < k+l.length→(i:Int) ∈ h)) O)
 | [],k,S,V,hS,hv=>.go ⟨V,hS,hv⟩
 | u :: r,k,S,V,hS,hv=>by
  rw [m_r04_function_L0]
  refine .bp (u_declare hS.si (fun z=>(by cases z)) (Int.le_refl _)) fun v S1 k1=>?_
  obtain ⟨V1,k1,_,k3⟩:=k1
  refine (u_function_L0 h0 (O:=O) r (k+1) S1 V1 (hS.trans k1) fun z=>?_).imp fun v hv=>?_
  · have q:=k3 z
    have q0:=hv (k1.e z)
    refine ⟨by rw [q.1,len_snoc,q0.1],fun i hi=>?_⟩
    rw [q.2.2]
    by_cases c:i < k
    · exact List.mem_append.2 (.inl (q0.2 i c))
    · obtain rfl:i=V.length:=by omega
      exact List.mem_append.2 (.inr (.head _))
  · obtain v | v:=v
    · obtain ⟨a1,a2,a3,a4,a5,a6,a7,a8⟩:=v
      obtain ⟨V',b1,b2⟩:=hv
      rw [List.length_cons]
      exact ⟨V',b1,fun z=>by have:=b2 z;exact ⟨by omega,fun i hi=>this.2 i (by omega)⟩⟩
    · exact hv
theorem u_function_L1 {fu:Nat} {S:GState115} {V:List GVarInfo} (h:SI S V) {O:GFunc × GState115→Prop}:∀ (l:List ByteArray) (k:Nat) (vs:List (List GVarInfo)) (V1:List GVarInfo) (C:Nat→Prop),(∀ i:Nat,k≤i→i < k+l.length→(i:Int) ∈ S.open_)→vs=S.out_.Vars.set S.f.toNat V1→Tos ((S.out_.Stmts.length:Int) - 1) C V V1→(∀ i,C i→(i:Int) ∈ S.open_)→
  Tot (m_r04_function_L1 fu S l k vs) (LdP (fun vs'=>∃ V',vs'=S.out_.Vars.set S.f.toNat V'∧∃ C',Tos ((S.out_.Stmts.length:Int) - 1) C' V V'∧∀ i,C' i→(i:Int) ∈ S.open_) O)
 | [],_,vs,V1,C,_,h1,h2,h3=>.go ⟨V1,h1,C,h2,h3⟩
 | u :: r,k,vs,V1,C,hl,h1,h2,h3=>by
  have a3:=h.f0;have a4:=h.vl;have a5:=h.st
  rw [List.length_cons] at hl
  have hu:=hl k (Nat.le_refl _) (by omega)
  have hu2:=h.op _ hu
  rw [m_r04_function_L1]
  have hlen:vs.length=S.out_.Vars.length:=by rw [h1,List.length_set]
  have hg:vs[S.f.toNat]?=some V1:=by rw [h1,List.getElem?_set_self (by omega)]
  refine .bd (.ix (by omega) (by omega)) fun e he=>?_
  rw [hg] at he
  obtain rfl:=Option.some.inj he
  refine .bd (.ix hu2.1 (by rw [h2.len];exact hu2.2)) fun x hx=>?_
  refine .bd (.st (by rw [h2.len];exact hu2)) fun w hw=>?_
  refine .bd (.st (by omega)) fun w2 hw2=>?_
  rw [wr_id (by omega) (by omega)] at hw
  have k1:=Tos.one (N:=(S.out_.Stmts.length:Int) - 1) hx
  rw [← hw] at k1
  refine u_function_L1 h (O:=O) r (k+1) w2 w _ (fun i hi hi2=>hl i (by omega) (by omega)) (by rw [hw2,h1,List.set_set]) (h2.trans k1) (fun i hi=>?_)
  rcases hi with hi | rfl
  · exact h3 i hi
  · exact hu
structure UF (S S':GState115):Prop where
 f:S'.f=S.f
 pg:S'.out_.Program=S.out_.Program
 vs:∀ k:Nat,(k:Int)≠S.f→S'.out_.Vars[k]?=S.out_.Vars[k]?
 vl:S'.out_.Vars.length=S.out_.Vars.length
 st:S'.out_.Stmts.length≤200
 np:S'.e=0→∀ V,S'.out_.Vars[S.f.toNat]?=some V→NP V∧V.length≤24
theorem Stp.uf {S S':GState115} {V V':List GVarInfo} (h:SI S V) (k:Stp S V S' V') (hn:S'.e=0→NP V'):UF S S':=⟨k.f,k.pg,k.vs,by have:=h.vl;have:=k.si.vl;rw [k.f] at this;omega,k.si.st,fun z W hW=>by
 have:=k.si.v
 rw [k.f,hW] at this
 obtain rfl:=Option.some.inj this
 exact ⟨hn z,k.si.vn⟩⟩
theorem NI.np {S:GState115} {V:List GVarInfo} (h:NI S V):NP V:=fun i j x y hij hi hj=>(h.pr i j x y hij hi hj).imp id And.right
theorem NI.nil {S:GState115}:NI S []:=⟨fun i x hi=>(by cases hi),fun i j x y _ hi=>(by cases hi)⟩
theorem UF.of {S S':GState115} (h:UF ⟨S.out_,S.f,[],S.line,S.e⟩ S'):UF S S':=⟨h.f,h.pg,h.vs,h.vl,h.st,h.np⟩
theorem u_function {fu:Nat} {S:GState115} {x:GFunc} (h:SI ⟨S.out_,S.f,[],S.line,S.e⟩ []) (hx:FOk 5000 x) (hf:10100≤fu):Tot (m_r04_function fu S x) (fun r=>pel r fun _ S'=>UF S S'):=by
 unfold m_r04_function
 refine .ite (fun c=>.bd (u_fail (by decide)) fun S' k=>.mk ⟨k.1.f,by rw [k.1.out],fun _ _=>by rw [k.1.out],by rw [k.1.out],by rw [k.1.out];exact h.st,fun z=>absurd z k.2⟩) fun c=>?_
 refine .el (u_function_L0 (O:=fun _=>False) h x.Params 0 _ [] (.rfl' h) fun _=>⟨rfl,fun i hi=>absurd hi (Nat.not_lt_zero i)⟩) (fun s hs=>?_) fun _ z=>z.elim
 refine .pp hs fun b1 r hs=>.pp hs fun b2 r hs=>.pp hs fun b3 r hs=>.pp hs fun b4 r hs=>.pp hs fun b5 r hs=>.pp hs fun b6 r hs=>.pp hs fun b7 b8 hs=>?_
 obtain ⟨V1,k1,k2⟩:=hs
 refine .ite (fun d=>?_) fun d=>.mk (k1.uf h fun z=>absurd z d).of
 refine .bp ((u_blocks fu).1 _ V1 x.Body 10 k1.si hx.el hx.body (by omega)) fun bd S2 k3=>?_
 obtain ⟨V2,k3,k4⟩:=k3
 have hk2:=k2 d
 refine .el (u_function_L1 (O:=fun _=>False) k3.si x.Params 0 _ V2 (fun _=>False) (fun i _ hi=>?_) (set_same k3.si.v).symm .rfl' (fun _ z=>z.elim)) (fun vs hvs=>.mk ?_) fun _ z=>z.elim
 · rw [k4]
   exact hk2.2 i hi
 · obtain ⟨V3,c1,C,c2,c3⟩:=hvs
   have s2:=(k1.trans k3).trans (Tos.stp k3.si c2 c1 (fun v hv=>hv) (Nat.le_refl _) c3 fun _ i hi ho=>absurd hi ho)
   exact (s2.uf h fun z=>(s2.ni z .nil).np).of
theorem u_heads_L3 {fu:Nat} {S0:GState115} {u:GRecord} {k:Nat} (hk:k < S0.out_.Program.Records.length) (hk2:k≤5000) {O:GState115→Prop}:∀ (n:Nat) (i:Int) (S:GState115),0≤i→i≤k→k+1≤n+i→Sme S0 S→
  Tot (m_r04_heads_L3 fu S0 u k n i S.out_.Program.Records S.f S.line S.e S.out_.Program.Funcs S.out_.Vars S.out_.Stmts S.open_) (LdP (fun r=>pel r fun _ r=>pel r fun a r=>pel r fun b r=>pel r fun c r=>pel r fun d r=>pel r fun e r=>pel r fun f r=>pel r fun g h=>Sme S0 ⟨⟨⟨a,e⟩,f,g⟩,b,h,c,d⟩) O)
 | 0,i,S,h0,h1,hn,hS=>by omega
 | n+1,i,S,h0,h1,hn,hS=>by
  rw [m_r04_heads_L3]
  refine .ite (fun c=>?_) fun _=>.go hS
  rw [wr_id (by omega) (by omega)]
  refine .bd (.ix h0 (by omega)) fun e he=>.ite (fun _=>?_) fun _=>u_heads_L3 hk hk2 n (i+1) S (by omega) (by omega) (by omega) hS
  exact .bd (u_fail (by decide)) fun S' k=>u_heads_L3 hk hk2 n (i+1) S' (by omega) (by omega) (by omega) (hS.trans k.1)
theorem u_heads_L5 {fu:Nat} {S0:GState115} {u:GRecord} {w:ByteArray} {k:Nat} (hk:k < u.Fields.length) (hk2:k≤5000) {O:GState115→Prop}:∀ (n:Nat) (i:Int) (S:GState115),0≤i→i≤k→k+1≤n+i→Sme S0 S→
  Tot (m_r04_heads_L5 fu u w k n i S.out_.Program.Records S.f S.line S.e S.out_.Program.Funcs S.out_.Vars S.out_.Stmts S.open_) (LdP (fun r=>pel r fun _ r=>pel r fun a r=>pel r fun b r=>pel r fun c r=>pel r fun d r=>pel r fun e r=>pel r fun f r=>pel r fun g h=>Sme S0 ⟨⟨⟨a,e⟩,f,g⟩,b,h,c,d⟩) O)
 | 0,i,S,h0,h1,hn,hS=>by omega
 | n+1,i,S,h0,h1,hn,hS=>by
  rw [m_r04_heads_L5]
  refine .ite (fun c=>?_) fun _=>.go hS
  rw [wr_id (by omega) (by omega)]
  refine .bd (.ix h0 (by omega)) fun e he=>.ite (fun _=>?_) fun _=>u_heads_L5 hk hk2 n (i+1) S (by omega) (by omega) (by omega) hS
  exact .bd (u_fail (by decide)) fun S' k=>u_heads_L5 hk hk2 n (i+1) S' (by omega) (by omega) (by omega) (hS.trans k.1)
theorem u_heads_L4 {fu:Nat} (hf:5002≤fu) {S0:GState115} {u:GRecord} (hu:u.Fields.length≤5000) {O:GState115→Prop}:∀ (l:List ByteArray) (k:Nat) (S:GState115),k+l.length=u.Fields.length→Sme S0 S→
  Tot (m_r04_heads_L4 fu u l k S.out_.Program.Records S.f S.line S.e S.out_.Program.Funcs S.out_.Vars S.out_.Stmts S.open_) (LdP (fun r=>pel r fun a r=>pel r fun b r=>pel r fun c r=>pel r fun d r=>pel r fun e r=>pel r fun f r=>pel r fun g h=>Sme S0 ⟨⟨⟨a,e⟩,f,g⟩,b,h,c,d⟩) O)
 | [],_,S,_,hS=>.go hS
 | w :: r,k,S,hk,hS=>by
  rw [List.length_cons] at hk
  rw [m_r04_heads_L4]
  refine .eoo (u_heads_L5 (by omega) (by omega) fu 0 S (Int.le_refl _) (by omega) (by omega) hS) fun s hs=>?_
  exact .pp hs fun _ r hs=>.pp hs fun a1 r hs=>.pp hs fun a2 r hs=>.pp hs fun a3 r hs=>.pp hs fun a4 r hs=>.pp hs fun a5 r hs=>.pp hs fun a6 r hs=>.pp hs fun a7 a8 hs=>u_heads_L4 hf hu (O:=O) _ (k+1) ⟨⟨⟨a1,a5⟩,a6,a7⟩,a2,a8,a3,a4⟩ (by omega) hs
theorem u_heads_L0 {fu:Nat} (hf:5002≤fu) {S0:GState115} (hr:S0.out_.Program.Records.length≤5000) {O:GState115→Prop}:∀ (l:List GRecord) (k:Nat) (S:GState115),k+l.length=S0.out_.Program.Records.length→(∀ u ∈ l,u.Fields.length≤5000)→Sme S0 S→
  Tot (m_r04_heads_L0 fu S0 l k S.out_.Program.Records S.f S.line S.e S.out_.Program.Funcs S.out_.Vars S.out_.Stmts S.open_) (LdP (fun r=>pel r fun a r=>pel r fun b r=>pel r fun c r=>pel r fun d r=>pel r fun e r=>pel r fun f r=>pel r fun g h=>Sme S0 ⟨⟨⟨a,e⟩,f,g⟩,b,h,c,d⟩) O)
 | [],_,S,_,_,hS=>.go hS
 | u :: r,k,S,hk,hl,hS=>by
  rw [List.length_cons] at hk
  rw [m_r04_heads_L0]
  have hJ:Tot (m_r04_heads_J1 fu S.out_.Program.Records S.f S.line S.e S.out_.Program.Funcs S.out_.Vars S.out_.Stmts S.open_ u k) (LdP (fun r=>pel r fun a r=>pel r fun b r=>pel r fun c r=>pel r fun d r=>pel r fun e r=>pel r fun f r=>pel r fun g h=>Sme S0 ⟨⟨⟨a,e⟩,f,g⟩,b,h,c,d⟩) O):=by
   unfold m_r04_heads_J1
   have hJ2:Tot (m_r04_heads_J2 fu u k) (LdP (fun _=>True) O):=by
    unfold m_r04_heads_J2
    exact .ite (fun _=>.go trivial) fun _=>.go trivial
   exact .eoo hJ2 fun b _=>.ite (fun _=>.bd (u_fail (by decide)) fun S' k=>.go (hS.trans k.1)) fun _=>.go hS
  refine .eoo hJ fun s hs=>?_
  refine .pp hs fun a1 r hs=>.pp hs fun a2 r hs=>.pp hs fun a3 r hs=>.pp hs fun a4 r hs=>.pp hs fun a5 r hs=>.pp hs fun a6 r hs=>.pp hs fun a7 a8 hs=>?_
  refine .eoo (u_heads_L3 (by omega) (by omega) fu 0 ⟨⟨⟨a1,a5⟩,a6,a7⟩,a2,a8,a3,a4⟩ (Int.le_refl _) (by omega) (by omega) hs) fun s hs=>?_
  refine .pp hs fun _ r hs=>.pp hs fun a1 r hs=>.pp hs fun a2 r hs=>.pp hs fun a3 r hs=>.pp hs fun a4 r hs=>.pp hs fun a5 r hs=>.pp hs fun a6 r hs=>.pp hs fun a7 a8 hs=>?_
  refine .eoo (u_heads_L4 hf (hl u (.head _)) u.Fields 0 ⟨⟨⟨a1,a5⟩,a6,a7⟩,a2,a8,a3,a4⟩ (by omega) hs) fun s hs=>?_
  exact .pp hs fun a1 r hs=>.pp hs fun a2 r hs=>.pp hs fun a3 r hs=>.pp hs fun a4 r hs=>.pp hs fun a5 r hs=>.pp hs fun a6 r hs=>.pp hs fun a7 a8 hs=>u_heads_L0 hf hr (O:=O) _ (k+1) ⟨⟨⟨a1,a5⟩,a6,a7⟩,a2,a8,a3,a4⟩ (by omega) (fun y hy=>hl y (.tail _ hy)) hs
theorem u_heads_L8 {fu:Nat} {S0:GState115} {fn:GFunc} {m:Int} (hm:m < S0.out_.Program.Funcs.length) (hm2:m≤5000) {O:GState115→Prop}:∀ (n:Nat) (i:Int) (S:GState115),0≤i→i≤m→m+1≤n+i→Sme S0 S→
  Tot (m_r04_heads_L8 fu m fn n i S.out_.Program.Records S.f S.line S.e S.out_.Program.Funcs S.out_.Vars S.out_.Stmts S.open_) (LdP (fun r=>pel r fun _ r=>pel r fun a r=>pel r fun b r=>pel r fun c r=>pel r fun d r=>pel r fun e r=>pel r fun f r=>pel r fun g h=>Sme S0 ⟨⟨⟨a,e⟩,f,g⟩,b,h,c,d⟩) O)
 | 0,i,S,h0,h1,hn,hS=>by omega
 | n+1,i,S,h0,h1,hn,hS=>by
  rw [m_r04_heads_L8]
  refine .ite (fun c=>?_) fun _=>.go hS
  rw [wr_id (by omega) (by omega)]
  refine .bd (.ix h0 (by rw [hS.out];omega)) fun e he=>.ite (fun _=>?_) fun _=>u_heads_L8 hm hm2 n (i+1) S (by omega) (by omega) (by omega) hS
  exact .bd (u_fail (by decide)) fun S' k=>u_heads_L8 hm hm2 n (i+1) S' (by omega) (by omega) (by omega) (hS.trans k.1)
theorem u_heads_L6 {fu:Nat} (hf:5002≤fu) {S0:GState115} (hr:S0.out_.Program.Funcs.length≤5000) {O:GState115→Prop}:∀ (n:Nat) (i:Int) (S:GState115),0≤i→i≤S0.out_.Program.Funcs.length→S0.out_.Program.Funcs.length+1≤n+i→Sme S0 S→
  Tot (m_r04_heads_L6 fu S0.out_.Program.Funcs n i S.out_.Program.Records S.f S.line S.e S.out_.Program.Funcs S.out_.Vars S.out_.Stmts S.open_) (LdP (fun r=>pel r fun _ r=>pel r fun a r=>pel r fun b r=>pel r fun c r=>pel r fun d r=>pel r fun e r=>pel r fun f r=>pel r fun g h=>Sme S0 ⟨⟨⟨a,e⟩,f,g⟩,b,h,c,d⟩) O)
 | 0,i,S,h0,h1,hn,hS=>by omega
 | n+1,i,S,h0,h1,hn,hS=>by
  rw [m_r04_heads_L6]
  refine .ite (fun c=>?_) fun _=>.go hS
  refine .bd (.ix h0 (by rw [hS.out];omega)) fun fn he=>?_
  have hJ:Tot (m_r04_heads_J7 fu i S.out_.Program.Records S.f S.line S.e S.out_.Program.Funcs S.out_.Vars S.out_.Stmts S.open_ fn) (LdP (fun r=>pel r fun a r=>pel r fun b r=>pel r fun c r=>pel r fun d r=>pel r fun e r=>pel r fun f r=>pel r fun g h=>Sme S0 ⟨⟨⟨a,e⟩,f,g⟩,b,h,c,d⟩) O):=by
   unfold m_r04_heads_J7
   exact .ite (fun _=>.bd (u_fail (by decide)) fun S' k=>.go (hS.trans k.1)) fun _=>.go hS
  refine .eoo hJ fun s hs=>?_
  refine .pp hs fun a1 r hs=>.pp hs fun a2 r hs=>.pp hs fun a3 r hs=>.pp hs fun a4 r hs=>.pp hs fun a5 r hs=>.pp hs fun a6 r hs=>.pp hs fun a7 a8 hs=>?_
  refine .eoo (u_heads_L8 (by omega) (by omega) fu 0 ⟨⟨⟨a1,a5⟩,a6,a7⟩,a2,a8,a3,a4⟩ (Int.le_refl _) (by omega) (by omega) hs) fun s hs=>?_
  rw [wr_id (by omega) (by omega)]
  exact .pp hs fun _ r hs=>.pp hs fun a1 r hs=>.pp hs fun a2 r hs=>.pp hs fun a3 r hs=>.pp hs fun a4 r hs=>.pp hs fun a5 r hs=>.pp hs fun a6 r hs=>.pp hs fun a7 a8 hs=>u_heads_L6 hf hr (O:=O) n (i+1) ⟨⟨⟨a1,a5⟩,a6,a7⟩,a2,a8,a3,a4⟩ (by omega) (by omega) (by omega) hs
theorem u_heads {fu:Nat} (hf:5002≤fu) {S:GState115} (h1:S.out_.Program.Records.length≤5000) (h2:∀ u ∈ S.out_.Program.Records,u.Fields.length≤5000) (h3:S.out_.Program.Funcs.length≤5000):Tot (m_r04_heads fu S) (Sme S):=by
 unfold m_r04_heads
 refine .el (u_heads_L0 (O:=fun _=>False) hf h1 _ 0 S (by omega) h2 .rfl') (fun s hs=>?_) fun _ z=>z.elim
 refine .pp hs fun a1 r hs=>.pp hs fun a2 r hs=>.pp hs fun a3 r hs=>.pp hs fun a4 r hs=>.pp hs fun a5 r hs=>.pp hs fun a6 r hs=>.pp hs fun a7 a8 hs=>?_
 have h4:S.out_.Program.Funcs=a5:=by rw [← hs.out]
 subst h4
 refine .el (u_heads_L6 (O:=fun _=>False) hf h3 fu 0 ⟨⟨⟨a1,_⟩,a6,a7⟩,a2,a8,a3,a4⟩ (Int.le_refl _) (by omega) (by omega) hs) (fun s hs=>?_) fun _ z=>z.elim
 exact .pp hs fun _ r hs=>.pp hs fun a1 r hs=>.pp hs fun a2 r hs=>.pp hs fun a3 r hs=>.pp hs fun a4 r hs=>.pp hs fun a5 r hs=>.pp hs fun a6 r hs=>.pp hs fun a7 a8 hs=>.mk hs
theorem u_Check_L0 {fu:Nat} (hf:10100≤fu) {p:GProgram} (hp:POk 5000 p) {O:GSource × Int × Int→Prop}:∀ (n:Nat) (i:Nat) (a:List GRecord) (b c d:Int) (e:List GFunc) (vs:List (List GVarInfo)) (g:List GStmtInfo) (h:List Int),e.length=p.Funcs.length→vs.length=i→i≤p.Funcs.length→p.Funcs.length+1≤n+i→g.length≤200→(d=0→∀ V ∈ vs,NP V∧V.length≤24)→
  Tot (m_r04_Check_L0 fu p n i a b c d e vs g h) (LdP (fun r=>pel r fun _ r=>pel r fun a r=>pel r fun b r=>pel r fun c r=>pel r fun d r=>pel r fun e r=>pel r fun vs r=>pel r fun g h=>d=0→(vs.length=p.Funcs.length∧∀ V ∈ vs,NP V∧V.length≤24)∧g.length≤200) O)
 | 0,i,a,b,c,d,e,vs,g,h,h1,h2,h3,h4,h5,h6=>by omega
 | n+1,i,a,b,c,d,e,vs,g,h,h1,h2,h3,h4,h5,h6=>by
  have hlen:=hp.funcs
  rw [m_r04_Check_L0]
  refine .ite (fun k=>?_) fun k=>.go fun z=>⟨⟨by omega,h6 z⟩,h5⟩
  refine .ite (fun k2=>?_) fun k2=>.go fun z=>absurd z k2
  refine .bd (.app (by simp only [List.length_cons,List.length_nil];omega)) fun r hr=>?_
  subst hr
  refine .bd (.ix (by omega) k) fun fn hfn=>?_
  rw [Int.toNat_natCast] at hfn
  have hsi:SI ⟨⟨⟨a,e⟩,vs ++ [[]],g⟩,(i:Int),[],c,d⟩ []:=⟨by dsimp only;omega,by dsimp only;rw [len_snoc];omega,by dsimp only;rw [Int.toNat_natCast,← h2,List.getElem?_append_right (Nat.le_refl _),Nat.sub_self];rfl,Nat.zero_le _,fun v hv=>(by cases hv),Nat.zero_le _,h5,fun x hx=>(by cases hx)⟩
  refine .bp (u_function (S:=⟨⟨⟨a,e⟩,vs ++ [[]],g⟩,(i:Int),h,c,d⟩) hsi (hp.el _ (List.mem_of_getElem? hfn)) hf) fun fn' S' k3=>?_
  have hF:S'.out_.Program.Funcs.length=p.Funcs.length:=by rw [k3.pg];exact h1
  refine .bd (.ix (by omega) (by omega)) fun _ _=>.bd (.st (by omega)) fun r hr=>?_
  rw [wr_id (by omega) (by omega)]
  have hv:=k3.vl
  dsimp only at hv
  rw [len_snoc] at hv
  refine u_Check_L0 hf hp (O:=O) n (i+1) _ _ _ _ r _ _ _ (by rw [hr,List.length_set];exact hF) (by omega) (by omega) (by omega) k3.st fun z V hV=>?_
  obtain ⟨q,hq⟩:=mem_idx hV
  by_cases hqi:q=i
  · subst hqi
    exact k3.np z V (by dsimp only;rw [Int.toNat_natCast];exact hq)
  · rw [k3.vs q (by dsimp only;omega)] at hq
    dsimp only at hq
    rw [List.getElem?_append_left (by have:=lt_of_get hq;rw [len_snoc] at this;omega)] at hq
    exact h6 k2 V (List.mem_of_getElem? hq)
theorem u_Check {fu:Nat} (hf:10100≤fu) {p:GProgram} (hp:POk 5000 p):Tot (m_r04_Check fu p) (fun r=>pel r fun s r=>pel r fun _ e=>e=0→(s.Vars.length=p.Funcs.length∧∀ V ∈ s.Vars,NP V∧V.length≤24)∧s.Stmts.length≤200):=by
 have hlen:=hp.funcs
 unfold m_r04_Check
 refine .bd (.app (by simp only [List.length_nil];omega)) fun r hr=>?_
 rw [List.nil_append] at hr
 subst hr
 refine .bd (u_heads (by omega) hp.recs hp.fields hp.funcs) fun S hS=>?_
 have h1:=hS.out
 refine .el (u_Check_L0 (O:=fun _=>False) hf hp fu 0 S.out_.Program.Records S.f S.line S.e S.out_.Program.Funcs S.out_.Vars S.out_.Stmts S.open_ (by rw [h1]) (by rw [h1];rfl) (Nat.zero_le _) (by omega) (by rw [h1];exact Nat.zero_le _) fun _ V hV=>(by rw [h1] at hV;cases hV)) (fun s hs=>?_) fun _ z=>z.elim
 refine .pp hs fun _ r hs=>.pp hs fun a1 r hs=>.pp hs fun a2 r hs=>.pp hs fun a3 r hs=>.pp hs fun a4 r hs=>.pp hs fun a5 r hs=>.pp hs fun a6 r hs=>.pp hs fun a7 a8 hs=>?_
 refine .ite (fun c=>.mk fun z=>absurd z c) fun c=>.mk fun _=>hs (by omega)
end Go.Proofs.Ytfglbdkfnphjgaa
