/- The maker of programs answers for any tape: statements and programs. -/
import Derived.Test.YtfglbdkfnphjgaaPg
set_option linter.unusedVariables false
set_option linter.unusedSimpArgs false
namespace Go.Proofs.Ytfglbdkfnphjgaa
open Go.RowKit Go.Fw
def GS:Nat→GStmt→Prop
 | 0,_=>False
 | k+1,x=>(x.Name.size≤4∧x.Type_.size≤4∧x.Func.size≤4∧0≤x.Len∧x.Len≤9)∧(x.Target.length≤1∧∀ y ∈ x.Target,GE 4 y)∧(x.Args.length≤4∧∀ y ∈ x.Args,GE 4 y)∧(x.Body.length≤9∧∀ y ∈ x.Body,GS k y)∧(x.Else.length≤9∧∀ y ∈ x.Else,GS k y)
theorem GS.mono:∀ {n m:Nat} {x:GStmt},GS n x→n≤m→GS m x
 | 0,_,_,h,_=>h.elim
 | n+1,0,_,h,k=>by omega
 | n+1,m+1,x,h,k=>⟨h.1,h.2.1,h.2.2.1,⟨h.2.2.2.1.1,fun y hy=>GS.mono (h.2.2.2.1.2 y hy) (by omega)⟩,⟨h.2.2.2.2.1,fun y hy=>GS.mono (h.2.2.2.2.2 y hy) (by omega)⟩⟩
theorem GS.mk {j:Nat} {kd ln id len vr ca:Int} {nm ty fn:ByteArray} {tg ar:List GExpr} {bo el:List GStmt} (h1:nm.size≤4) (h2:ty.size≤4) (h3:fn.size≤4) (h4:0≤len∧len≤9) (h5:tg.length≤1∧∀ y ∈ tg,GE 4 y) (h6:ar.length≤4∧∀ y ∈ ar,GE 4 y) (h7:bo.length≤9∧∀ y ∈ bo,GS j y) (h8:el.length≤9∧∀ y ∈ el,GS j y):GS (j+1) ⟨kd,ln,id,nm,ty,len,vr,tg,fn,ca,ar,bo,el⟩:=⟨⟨h1,h2,h3,h4.1,h4.2⟩,h5,h6,h7,h8⟩
theorem z9:(0:Int)≤0∧(0:Int)≤9:=by decide
theorem b0:be.size≤4:=Nat.zero_le _
theorem lle {α:Type} {p:α→Prop} {l:List α} {a b:Nat} (h:l.length≤a∧∀ y ∈ l,p y) (k:a≤b):l.length≤b∧∀ y ∈ l,p y:=⟨Nat.le_trans h.1 k,h.2⟩
structure Mr (M M':GMaker):Prop where
 f:M'.f=M.f
 fn:M'.funcs=M.funcs
 pr:M'.params=M.params
 s:M.scalars.length≤M'.scalars.length∧(M'.scalars.length:Int)+M'.left≤M.scalars.length+M.left
 p:M.points.length≤M'.points.length∧(M'.points.length:Int)+M'.left≤M.points.length+M.left
 a:M.arrays.length≤M'.arrays.length∧(M'.arrays.length:Int)+M'.left≤M.arrays.length+M.left
 c:M.count≤M'.count∧M'.count+M'.left≤M.count+M.left
 l:0≤M'.left
 n1:∀ n ∈ M'.scalars,n.size≤4
 n2:∀ n ∈ M'.points,n.size≤4
 n3:∀ n ∈ M'.arrays,n.size≤4
theorem Mr.mp {M M':GMaker} (k:Mr M M') (h:MP M):MP M':=by
 obtain ⟨a1,a2,a3,a4,a5,a6,a7,a8,a9,a10,a11⟩:=k
 obtain ⟨c1,c2,c3,c4,c5,c6,c7⟩:=h
 exact ⟨by rw [a3];exact c1,by rw [a1,a2];exact c2,⟨by omega,a9⟩,⟨by omega,a10⟩,⟨by omega,a11⟩,by omega,a8⟩
theorem Mr.rfl' {M:GMaker} (h:MP M):Mr M M:=⟨rfl,rfl,rfl,⟨Nat.le_refl _,Int.le_refl _⟩,⟨Nat.le_refl _,Int.le_refl _⟩,⟨Nat.le_refl _,Int.le_refl _⟩,⟨Int.le_refl _,Int.le_refl _⟩,h.l,h.ns.2,h.np.2,h.na.2⟩
theorem Mr.trans {M M' M2:GMaker} (k:Mr M M') (j:Mr M' M2):Mr M M2:=by
 obtain ⟨a1,a2,a3,a4,a5,a6,a7,a8,a9,a10,a11⟩:=k
 obtain ⟨c1,c2,c3,c4,c5,c6,c7,c8,c9,c10,c11⟩:=j
 exact ⟨c1.trans a1,c2.trans a2,c3.trans a3,by omega,by omega,by omega,by omega,c8,c9,c10,c11⟩
def dn1 (M:GMaker):GMaker:=⟨M.f,M.funcs,M.params,M.scalars,M.points,M.arrays,M.count,M.left - 1⟩
theorem Mr.dn {M:GMaker} (h:MP M) (h1:0 < M.left):Mr M (dn1 M):=⟨rfl,rfl,rfl,⟨Nat.le_refl _,by dsimp only [dn1];omega⟩,⟨Nat.le_refl _,by dsimp only [dn1];omega⟩,⟨Nat.le_refl _,by dsimp only [dn1];omega⟩,⟨Int.le_refl _,by dsimp only [dn1];omega⟩,by dsimp only [dn1];omega,h.ns.2,h.np.2,h.na.2⟩
def SP (b k:Nat) (M:GMaker) (r:List GStmt × GMaker × GTape):Prop:=pel r fun l r=>pel r fun M' T'=>(l.length≤b∧∀ y ∈ l,GS k y)∧Mr M M'∧TQ T'
def SX (M:GMaker) (r:GStmt × GMaker × GTape):Prop:=pel r fun x r=>pel r fun M' T'=>GS 1 x∧M'=M∧TQ T'
theorem fghk_size:∀ x ∈ ([(⟨#[102]⟩:ByteArray),(⟨#[103]⟩:ByteArray),(⟨#[104]⟩:ByteArray),(⟨#[107]⟩:ByteArray)]:List ByteArray),x.size≤4:=by
 intro x hx
 simp only [List.mem_cons,List.not_mem_nil,or_false] at hx
 rcases hx with rfl | rfl | rfl | rfl <;> decide
theorem g_call_L1 {fu:Nat} (hf:9≤fu) {M:GMaker} (hM:MP M) {k p:Int} (hk:0≤k) (hp:M.params[k.toNat]?=some p) (hp4:p≤4) {O:Bool × GMaker × GTape × GStmt→Prop}:∀ (n i:Nat) (T:GTape) (out:List GExpr),TQ T→p+1≤n+i→(i:Int)≤4→(out.length=i∧∀ y ∈ out,GE 4 y)→1≤n→
  Tot (m_kit_call_L1 fu k n i M.f M.funcs M.params M.count M.left T.l T.at_ M.scalars M.points M.arrays out) (LdP (fun r=>pel r fun _ r=>pel r fun f r=>pel r fun fn r=>pel r fun pr r=>pel r fun c r=>pel r fun l r=>pel r fun tl r=>pel r fun ta r=>pel r fun s r=>pel r fun p r=>pel r fun a o=>(⟨f,fn,pr,s,p,a,c,l⟩:GMaker)=M∧TQ ⟨tl,ta⟩∧o.length≤4∧∀ y ∈ o,GE 4 y) O)
 | 0,_,_,_,_,_,_,_,h=>by omega
 | n+1,i,T,out,hT,hn,hi,ho,_=>by
  rw [m_kit_call_L1]
  have hlt:=lt_of_get hp
  refine .bde (.ix hk (by omega)) fun e _ he=>?_
  rw [hp] at he
  cases he
  refine .ite (fun c=>?_) fun _=>.go ⟨rfl,hT,by omega,ho.2⟩
  refine .bp (g_expr hf hM hT (by decide) (by decide)) fun x r hx=>.pp hx fun M' T' hx=>?_
  obtain ⟨hx1,rfl,hx3⟩:=hx
  refine .bde (.app (by simp only [List.length_cons,List.length_nil];omega)) fun r _ hr=>?_
  subst hr
  refine .bd (.ix (by omega) (by rw [len_snoc];omega)) fun _ _=>.bd (.st ⟨by omega,by rw [len_snoc];omega⟩) fun r hr=>?_
  rw [wr_id (by omega) (by omega)]
  refine g_call_L1 hf hM hk hp hp4 n (i+1) T' r hx3 (by omega) (by omega) ⟨by rw [hr,List.length_set,len_snoc,ho.1],fun y hy=>?_⟩ (by omega)
  rw [hr] at hy
  rcases List.mem_or_eq_of_mem_set hy with hy | hy
  · exact mem_snoc ho.2 (GE.mk0 (Nat.zero_le _) (Nat.zero_le _)) y hy
  · rw [hy];exact hx1
theorem g_call {fu:Nat} (hf:9≤fu) {M:GMaker} {T:GTape} (hM:MP M) (hT:TQ T) {x:GStmt} (hx:GS 1 x) (ha:x.Args=[]):Tot (m_kit_call fu M T x) (fun r=>pel r fun b r=>pel r fun M' r=>pel r fun T' x'=>M'=M∧TQ T'∧GS 1 x'):=by
 unfold m_kit_call
 obtain ⟨f1,f2,f3⟩:=hM.f
 have hJ:Tot (m_kit_call_J0 fu M T x) (LdP (fun r=>pel r fun k r=>pel r fun l a=>(0≤k∧k < 4)∧TQ ⟨l,a⟩) (fun r=>pel r fun b r=>pel r fun M' r=>pel r fun T' x'=>M'=M∧TQ T'∧GS 1 x')):=by
  unfold m_kit_call_J0
  rw [wr_id (n:=M.f+1) (by omega) (by omega)]
  refine .ite (fun c=>?_) fun c=>?_
  · rw [wr_id (by omega) (by omega)]
    refine .bp (g_next hT (by omega) (by omega)) fun v T1 h1=>.go ⟨?_,h1.2⟩
    rw [wr_id (by omega) (by omega)]
    omega
  · refine .bp (g_next hT (by decide) (by decide)) fun v T1 h1=>.ite (fun _=>.out ⟨rfl,h1.2,hx⟩) fun _=>?_
    exact .bp (g_next h1.2 (by omega) (by omega)) fun v T2 h2=>.go ⟨by omega,h2.2⟩
 refine .el hJ (fun r hr=>.pp hr fun k r hr=>.pp hr fun tl ta hr=>?_) fun o ho=>.mk ho
 refine .bd (.ix hr.1.1 hr.1.2) fun fn hfn=>?_
 obtain ⟨p,hp⟩:=get_ex (l:=M.params) (k:=k.toNat) (by rw [hM.params.1];omega)
 have hp4:=hM.params.2 p (List.mem_of_getElem? hp)
 rw [ha]
 refine .el (g_call_L1 hf hM hr.1.1 hp hp4.2 (O:=fun _=>False) fu 0 ⟨tl,ta⟩ [] hr.2 (by omega) (by omega) ⟨rfl,fun y hy=>(by cases hy)⟩ (by omega)) (fun r hr=>?_) fun _ z=>z.elim
 refine .pp hr fun a1 r hr=>.pp hr fun a1 r hr=>.pp hr fun a1 r hr=>.pp hr fun a1 r hr=>.pp hr fun a1 r hr=>.pp hr fun a1 r hr=>.pp hr fun a1 r hr=>.pp hr fun a1 r hr=>.pp hr fun a1 r hr=>.pp hr fun a1 r hr=>.pp hr fun a1 a2 hr=>.mk ⟨hr.1,hr.2.1,?_⟩
 exact GS.mk hx.1.1 hx.1.2.1 (fghk_size fn (List.mem_of_getElem? hfn)) ⟨hx.1.2.2.2.1,hx.1.2.2.2.2⟩ hx.2.1 hr.2.2 hx.2.2.2.1 hx.2.2.2.2
theorem sn_len {l:List ByteArray} {x:ByteArray}:((l ++ [x]).length:Int)=l.length+1:=by rw [len_snoc];omega
theorem g_declare {fu:Nat} (hf:9≤fu) {M:GMaker} {T:GTape} (hM:MP M) (hl:0 < M.left) (hT:TQ T):Tot (m_kit_declare fu (dn1 M) T) (fun r=>pel r fun x r=>pel r fun M' T'=>GS 1 x∧Mr M M'∧TQ T'):=by
 unfold m_kit_declare
 obtain ⟨c1,c2,c3,c4,c5,c6,c7⟩:=hM
 refine .bp (g_fresh (M:=dn1 M) (by omega) c6.1 (by show M.count≤30;omega)) fun s M1 h1=>.bp (g_next hT (by decide) (by decide)) fun v T1 h2=>?_
 obtain ⟨h1,rfl⟩:=h1
 have n1:=c3.1;have n2:=c4.1;have n3:=c5.1
 refine .ite (fun _=>?_) fun _=>.ite (fun _=>?_) fun _=>?_
 · refine .bd (.app (by show M.points.length+1≤_;omega)) fun r hr=>.mk ⟨GS.mk h1 (by decide) b0 z9 len0 len0 len0 len0,?_,h2.2⟩
   subst hr
   exact ⟨rfl,rfl,rfl,⟨Nat.le_refl _,by show _+(M.left - 1)≤_;exact (by dsimp only [dn1];omega)⟩,⟨by dsimp only [dn1];rw [len_snoc];omega,by dsimp only [dn1];rw [sn_len];omega⟩,⟨Nat.le_refl _,by dsimp only [dn1];omega⟩,⟨by dsimp only [dn1];omega,by dsimp only [dn1];omega⟩,by dsimp only [dn1];omega,c3.2,mem_snoc c4.2 h1,c5.2⟩
 · refine .bd (.app (by show M.arrays.length+1≤_;omega)) fun r hr=>.mk ⟨GS.mk h1 b0 b0 (by decide) len0 len0 len0 len0,?_,h2.2⟩
   subst hr
   exact ⟨rfl,rfl,rfl,⟨Nat.le_refl _,by dsimp only [dn1];omega⟩,⟨Nat.le_refl _,by dsimp only [dn1];omega⟩,⟨by dsimp only [dn1];rw [len_snoc];omega,by dsimp only [dn1];rw [sn_len];omega⟩,⟨by dsimp only [dn1];omega,by dsimp only [dn1];omega⟩,by dsimp only [dn1];omega,c3.2,c4.2,mem_snoc c5.2 h1⟩
 · refine .bd (.app (by show M.scalars.length+1≤_;omega)) fun r hr=>.mk ⟨GS.mk h1 b0 b0 z9 len0 len0 len0 len0,?_,h2.2⟩
   subst hr
   exact ⟨rfl,rfl,rfl,⟨by dsimp only [dn1];rw [len_snoc];omega,by dsimp only [dn1];rw [sn_len];omega⟩,⟨Nat.le_refl _,by dsimp only [dn1];omega⟩,⟨Nat.le_refl _,by dsimp only [dn1];omega⟩,⟨by dsimp only [dn1];omega,by dsimp only [dn1];omega⟩,by dsimp only [dn1];omega,mem_snoc c3.2 h1,c4.2,c5.2⟩
theorem GS.nil {kd:Int}:GS 1 ⟨kd,0,0,be,be,0,0,[],be,0,[],[],[]⟩:=GS.mk b0 b0 b0 z9 len0 len0 len0 len0
theorem g_assign {fu:Nat} (hf:9≤fu) {M:GMaker} {T:GTape} (hM:MP M) (hT:TQ T):Tot (m_kit_assign fu M T) (SX M):=by
 unfold m_kit_assign
 obtain ⟨n1,m1⟩:=hM.ns;obtain ⟨n2,m2⟩:=hM.np;obtain ⟨n3,m3⟩:=hM.na;have hl:=hM.l
 refine .bp (g_next hT (by decide) (by decide)) fun k T1 h1=>?_
 have hJ0:Tot (m_kit_assign_J0 fu M k T1) (LdP (fun r=>pel r fun _ r=>pel r fun tl r=>pel r fun ta r=>pel r fun _ r=>pel r fun _ r=>pel r fun _ r=>pel r fun _ r=>pel r fun _ r=>pel r fun _ r=>pel r fun _ r=>pel r fun _ r=>pel r fun _ r=>pel r fun _ r=>pel r fun _ r=>pel r fun _ r=>pel r fun f r=>pel r fun fn r=>pel r fun pr r=>pel r fun c r=>pel r fun l r=>pel r fun s r=>pel r fun p a=>(⟨f,fn,pr,s,p,a,c,l⟩:GMaker)=M∧TQ ⟨tl,ta⟩) (SX M)):=by
  unfold m_kit_assign_J0
  refine .ite (fun c=>?_) fun c=>.go ⟨rfl,h1.2⟩
  refine .bp (g_call hf hM h1.2 GS.nil rfl) fun b r hr=>.pp hr fun M' r hr=>.pp hr fun T2 x hr=>?_
  obtain ⟨rfl,h2,hx⟩:=hr
  refine .ite (fun _=>?_) fun _=>.go ⟨rfl,h2⟩
  refine .ite (fun c=>?_) fun _=>.out ⟨hx,rfl,h2⟩
  refine .bp (g_next h2 (by decide) (by decide)) fun v T3 h3=>.ite (fun _=>?_) fun _=>.out ⟨hx,rfl,h3.2⟩
  refine g_pick h3.2 (by omega) (by omega) fun s T4 hs h4=>.bd (g_variable (m1 s hs)) fun y hy=>.out ⟨?_,rfl,h4⟩
  exact GS.mk hx.1.1 hx.1.2.1 hx.1.2.2.1 ⟨hx.1.2.2.2.1,hx.1.2.2.2.2⟩ (len1 (hy.mono (by decide)) (by decide)) hx.2.2.1 hx.2.2.2.1 hx.2.2.2.2
 refine .el hJ0 (fun r hr=>?_) fun o ho=>.mk ho
 refine .pp hr fun a1 r hr=>.pp hr fun tl r hr=>.pp hr fun ta r hr=>.pp hr fun a1 r hr=>.pp hr fun a1 r hr=>.pp hr fun a1 r hr=>.pp hr fun a1 r hr=>.pp hr fun a1 r hr=>.pp hr fun a1 r hr=>.pp hr fun a1 r hr=>.pp hr fun a1 r hr=>.pp hr fun a1 r hr=>.pp hr fun a1 r hr=>.pp hr fun a1 r hr=>.pp hr fun a1 r hr=>.pp hr fun a1 r hr=>.pp hr fun a2 r hr=>.pp hr fun a3 r hr=>.pp hr fun a4 r hr=>.pp hr fun a5 r hr=>.pp hr fun a6 r hr=>.pp hr fun a7 a8 hr=>?_
 obtain ⟨rfl,hT2⟩:=hr
 dsimp only at n1 m1 n2 m2 n3 m3 hl
 have hJ1:Tot (m_kit_assign_J1 fu k tl ta a1 a2 a3 a4 a5 a6 a7 a8) (LdP (fun r=>pel r fun tg r=>pel r fun tl r=>pel r fun ta r=>pel r fun f r=>pel r fun fn r=>pel r fun pr r=>pel r fun c r=>pel r fun l r=>pel r fun s r=>pel r fun p a=>(⟨f,fn,pr,s,p,a,c,l⟩:GMaker)=⟨a1,a2,a3,a6,a7,a8,a4,a5⟩∧TQ ⟨tl,ta⟩∧tg.length≤1∧∀ y ∈ tg,GE 4 y) (SX ⟨a1,a2,a3,a6,a7,a8,a4,a5⟩)):=by
  unfold m_kit_assign_J1
  have hJ2:Tot (m_kit_assign_J2 fu k a7) (LdP (fun b=>b=true→0 < a7.length) (SX ⟨a1,a2,a3,a6,a7,a8,a4,a5⟩)):=by
    unfold m_kit_assign_J2
    exact .ite (fun c=>.go fun z=>by have:=of_decide_eq_true z;omega) fun c=>.go fun z=>(by cases z)
  refine .eoo hJ2 fun b hb=>.ite (fun z=>?_) fun _=>?_
  · have:=hb z
    exact g_pick hT2 (by omega) (by omega) fun s T3 hs h3=>.bp (g_next h3 (by decide) (by decide)) fun v T4 h4=>.bd (.ix h4.1.1 h4.1.2) fun e he=>.go ⟨rfl,h4.2,len1 (GE.mk0 (m2 s hs) (xy_size e (List.mem_of_getElem? he))) (by decide)⟩
  have hJ3:Tot (m_kit_assign_J3 fu k a8) (LdP (fun b=>b=true→0 < a8.length) (SX ⟨a1,a2,a3,a6,a7,a8,a4,a5⟩)):=by
    unfold m_kit_assign_J3
    exact .ite (fun c=>.go fun z=>by have:=of_decide_eq_true z;omega) fun c=>.go fun z=>(by cases z)
  refine .eoo hJ3 fun b hb=>.ite (fun z=>?_) fun _=>.ite (fun c=>?_) fun _=>?_
  · refine .bp (g_element (by omega) hM hT2 (hb z)) fun x r hx=>.pp hx fun M' T' hx=>.go ⟨?_,hx.2.2,len1 hx.1 (by decide)⟩
    exact hx.2.1
  · exact g_pick hT2 (by omega) (by omega) fun s T3 hs h3=>.bd (g_variable (m1 s hs)) fun y hy=>.go ⟨rfl,h3,len1 (hy.mono (by decide)) (by decide)⟩
  · exact .bp (g_expr hf hM hT2 (by decide) (by decide)) fun x r hx=>.pp hx fun M' T' hx=>.out ⟨GS.mk b0 b0 b0 z9 len0 (len1 hx.1 (by decide)) len0 len0,hx.2⟩
 refine .el hJ1 (fun r hr=>?_) fun o ho=>.mk ho
 refine .pp hr fun tg r hr=>.pp hr fun tl r hr=>.pp hr fun ta r hr=>.pp hr fun b1 r hr=>.pp hr fun b2 r hr=>.pp hr fun b3 r hr=>.pp hr fun b4 r hr=>.pp hr fun b5 r hr=>.pp hr fun b6 r hr=>.pp hr fun b7 b8 hr=>?_
 obtain ⟨h1,h2,h3⟩:=hr
 rw [h1]
 exact .bp (g_expr hf hM h2 (by decide) (by decide)) fun x r hx=>.pp hx fun M' T' hx=>.mk ⟨GS.mk b0 b0 b0 z9 h3 (len1 hx.1 (by decide)) len0 len0,hx.2⟩
end Go.Proofs.Ytfglbdkfnphjgaa
