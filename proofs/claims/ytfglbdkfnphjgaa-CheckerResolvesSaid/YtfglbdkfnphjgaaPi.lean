/- The maker of programs answers for any tape: blocks, loops and the program. -/
import Derived.Test.YtfglbdkfnphjgaaPh
set_option linter.unusedVariables false
set_option linter.unusedSimpArgs false
namespace Go.Proofs.Ytfglbdkfnphjgaa
open Go.RowKit Go.Fw
def Kst (fu:Nat):Prop:=∀ (M:GMaker) (T:GTape) (j most:Nat),MP M→TQ T→j≤3→most≤10→4 * j+28≤fu→Tot (m_kit_stmts fu M T (4 - j) most) (SP (2 * most) (j+1) M)
def Kbo (fu:Nat):Prop:=∀ (M:GMaker) (T:GTape) (j most:Nat),MP M→TQ T→j≤3→most≤10→4 * j+29≤fu→Tot (m_kit_body fu M T (4 - j) most) (SP (2 * most) (j+1) M)
def Klo (fu:Nat):Prop:=∀ (M:GMaker) (T:GTape) (j:Nat),MP M→0 < M.left→TQ T→j≤2→4 * j+30≤fu→Tot (m_kit_loop fu (dn1 M) T (4 - (j+1:Nat))) (SP 2 (j+2) M)
theorem Kbo.at' {fu:Nat} (h:Kbo fu) {M:GMaker} {T:GTape} {j most:Nat} {x y:Int} (h1:MP M) (h2:TQ T) (h3:j≤3) (h4:most≤10) (h5:4 * j+29≤fu) (hx:x=4 - j) (hy:y=most):Tot (m_kit_body fu M T x y) (SP (2 * most) (j+1) M):=by subst hx;subst hy;exact h M T j most h1 h2 h3 h4 h5
theorem g_body {fu:Nat} (ih:Kst fu):Kbo (fu+1):=by
 intro M T j most hM hT hj hm hf
 show Tot (F_kit_body fu (m_kit_stmts fu) (m_kit_body fu) (m_kit_loop fu) M T _ _) _
 unfold F_kit_body
 refine .bp (ih M T j most hM hT hj hm (by omega)) fun l r hr=>.pp hr fun M' T' hr=>?_
 obtain ⟨h1,h2,h3⟩:=hr
 obtain ⟨a1,a2,a3,a4,a5,a6,a7,a8,a9,a10,a11⟩:=h2
 have b1:=hM.ns.1;have b2:=hM.np.1;have b3:=hM.na.1;have b4:=hM.l
 refine .bd (.sl ⟨Int.le_refl _,by omega,by omega⟩) fun l1 e1=>.bd (.sl ⟨Int.le_refl _,by omega,by omega⟩) fun l2 e2=>.bd (.sl ⟨Int.le_refl _,by omega,by omega⟩) fun l3 e3=>?_
 have tk:∀ {L l:List ByteArray} {n:Nat},l=(L.drop (0:Int).toNat).take ((n:Int) - 0).toNat→n≤L.length→(∀ x ∈ L,x.size≤4)→l.length=n∧∀ x ∈ l,x.size≤4:=by
  intro L l n e hn hL
  have e0:l=L.take n:=by rw [e];simp
  rw [e0]
  exact ⟨by rw [List.length_take];omega,fun x hx=>hL x (List.mem_of_mem_take hx)⟩
 have t1:=tk e1 a4.1 a9;have t2:=tk e2 a5.1 a10;have t3:=tk e3 a6.1 a11
 clear tk
 refine .bd (.app (by simp only [List.length_nil];omega)) fun r1 k1=>.bd (.app (by simp only [List.length_nil];omega)) fun r2 k2=>.bd (.app (by simp only [List.length_nil];omega)) fun r3 k3=>.mk ⟨h1,?_,h3⟩
 rw [List.nil_append] at k1 k2 k3
 subst k1 k2 k3
 exact ⟨a1,a2,a3,by dsimp only;omega,by dsimp only;omega,by dsimp only;omega,a7,a8,t1.2,t2.2,t3.2⟩
theorem g_loop {fu:Nat} (ih:Kbo fu):Klo (fu+1):=by
 intro M T j hM hl hT hj hf
 show Tot (F_kit_loop fu (m_kit_stmts fu) (m_kit_body fu) (m_kit_loop fu) (dn1 M) T _) _
 unfold F_kit_loop
 obtain ⟨c1,c2,c3,c4,c5,c6,c7⟩:=id hM
 refine .bp (g_fresh (M:=dn1 M) (by omega) c6.1 (by show M.count≤30;omega)) fun s M1 h1=>?_
 obtain ⟨h1,rfl⟩:=h1
 have n1:=c3.1;have n2:=c4.1;have n3:=c5.1
 refine .bd (.app (by show M.scalars.length+1≤_;omega)) fun r hr=>.bd (g_variable h1) fun v hv=>.bp (g_next hT (by decide) (by decide)) fun k T1 h2=>?_
 rw [wr_id (n:=1+k) (by omega) (by omega)]
 refine .bd (g_literal ⟨by omega,by omega⟩) fun lt hlt=>?_
 have hR:Mr M ⟨(dn1 M).f,(dn1 M).funcs,(dn1 M).params,r,(dn1 M).points,(dn1 M).arrays,(dn1 M).count+1,(dn1 M).left⟩:=by
   subst hr
   exact ⟨rfl,rfl,rfl,⟨by dsimp only [dn1];rw [len_snoc];omega,by dsimp only [dn1];rw [sn_len];omega⟩,⟨Nat.le_refl _,by dsimp only [dn1];omega⟩,⟨Nat.le_refl _,by dsimp only [dn1];omega⟩,⟨by dsimp only [dn1];omega,by dsimp only [dn1];omega⟩,by dsimp only [dn1];omega,mem_snoc c3.2 h1,c4.2,c5.2⟩
 refine .bp (ih.at' (j:=j) (most:=4) (hR.mp hM) h2.2 (by omega) (by omega) (by omega) (by rw [wr_id (by omega) (by omega)];omega) rfl) fun l r hr=>.pp hr fun M' T' hr=>?_
 refine .bd (g_variable h1) fun v2 hv2=>.bd (g_variable h1) fun v3 hv3=>.bd (g_literal (by decide)) fun lo hlo=>?_
 refine .bd (.app (by have:=hr.1.1;simp only [List.length_cons,List.length_nil];omega)) fun r2 hr2=>.mk ⟨⟨Nat.le_refl _,?_⟩,hR.trans hr.2.1,hr.2.2⟩
 have hr2':r2.length≤9∧∀ y ∈ r2,GS (j+1) y:=by
   subst hr2
   refine ⟨by rw [len_snoc];have:=hr.1.1;omega,mem_snoc hr.1.2 ?_⟩
   exact GS.mk b0 b0 b0 z9 (len1 (hv2.mono (by decide)) (by decide)) (len1 ((GE.mk2 (Nat.zero_le _) (Nat.zero_le _) hv3 hlo).mono (by decide)) (by decide)) len0 len0
 intro y hy
 simp only [List.mem_cons,List.not_mem_nil,or_false] at hy
 rcases hy with hy | hy <;> subst hy
 · exact GS.mk h1 b0 b0 z9 len0 len0 len0 len0
 · exact GS.mk b0 b0 b0 z9 len0 (len1 ((GE.mk2 (Nat.zero_le _) (Nat.zero_le _) hv hlt).mono (by decide)) (by decide)) hr2' len0
def SL (b k:Nat) (M:GMaker) (r:Int × List GStmt × Int × Int × List Int × Int × Int × List Int × Int × List ByteArray × List ByteArray × List ByteArray):Prop:=pel r fun _ r=>pel r fun o r=>pel r fun f r=>pel r fun fn r=>pel r fun pr r=>pel r fun c r=>pel r fun l r=>pel r fun tl r=>pel r fun ta r=>pel r fun s r=>pel r fun p a=>(o.length≤b∧∀ y ∈ o,GS k y)∧Mr M ⟨f,fn,pr,s,p,a,c,l⟩∧TQ ⟨tl,ta⟩
theorem snoc9 {k i:Nat} {out:List GStmt} {x:GStmt} (h:out.length≤2 * i∧∀ y ∈ out,GS k y) (hx:GS k x):(out ++ [x]).length≤2 * (i+1)∧∀ y ∈ out ++ [x],GS k y:=⟨by rw [len_snoc];omega,mem_snoc h.2 hx⟩
theorem g_stmts_L0 {fu:Nat} (hb:Kbo fu) (hl:Klo fu) {j most:Nat} (hj:j≤3) (hm:most≤10) (hf:4 * j+27≤fu) {M0:GMaker} (hM0:MP M0) {O:List GStmt × GMaker × GTape→Prop}:∀ (n i:Nat) (out:List GStmt) (M:GMaker) (T:GTape),Mr M0 M→TQ T→(out.length≤2 * i∧∀ y ∈ out,GS (j+1) y)→i≤most→most+1≤n+i→
  Tot (F_kit_stmts_L0 fu (m_kit_stmts fu) (m_kit_body fu) (m_kit_loop fu) (4 - j) most n i out M.f M.funcs M.params M.count M.left T.l T.at_ M.scalars M.points M.arrays) (LdP (SL (2 * most) (j+1) M0) O)
 | 0,_,_,_,_,_,_,_,h,h2=>by omega
 | n+1,i,out,M,T,hR,hT,ho,hi,hn=>by
  have hM:=hR.mp hM0
  have fin:Tot (some (Ld.go (ρ:=List GStmt × GMaker × GTape) ((i:Int),out,M.f,M.funcs,M.params,M.count,M.left,T.l,T.at_,M.scalars,M.points,M.arrays))) (LdP (SL (2 * most) (j+1) M0) O):=.go ⟨lle ho (by omega),hR,hT⟩
  rw [F_kit_stmts_L0]
  refine .ite (fun c=>?_) fun _=>fin
  refine .ite (fun hleft=>?_) fun _=>fin
  refine .bd g_more fun b _=>.ite (fun _=>?_) fun _=>fin
  clear fin
  have hlo:=hM.c;have hl0:=hM.l
  have olen:out.length≤20:=by omega
  rw [wr_id (n:=(i:Int)+1) (by omega) (by omega),wr_id (n:=M.left - 1) (by omega) (by omega)]
  have hd:=Mr.dn hM hleft
  have hdn:=hd.mp hM
  have go:∀ (x:GStmt) (M':GMaker) (T':GTape),GS (j+1) x→Mr M M'→TQ T'→Tot ((app out [x]).bind fun r=>F_kit_stmts_L0 fu (m_kit_stmts fu) (m_kit_body fu) (m_kit_loop fu) (4 - j) most n ((i:Int)+1) r M'.f M'.funcs M'.params M'.count M'.left T'.l T'.at_ M'.scalars M'.points M'.arrays) (LdP (SL (2 * most) (j+1) M0) O):=fun x M' T' hx k1 k2=>.bd (.app (by simp only [List.length_cons,List.length_nil];omega)) fun r hr=>by
    subst hr
    exact g_stmts_L0 hb hl hj hm hf hM0 n (i+1) _ M' T' (hR.trans k1) k2 (snoc9 ho hx) (by omega) (by omega)
  refine .bp (g_next hT (by decide) (by decide)) fun k T1 h1=>?_
  have hJ1:Tot (F_kit_stmts_J1 fu (m_kit_stmts fu) (m_kit_body fu) (m_kit_loop fu) M.count k) (LdP (fun _=>True) O):=by
    unfold F_kit_stmts_J1
    exact .ite (fun _=>.go trivial) fun _=>.go trivial
  refine .eoo hJ1 fun b _=>.ite (fun _=>?_) fun _=>?_
  · exact .bp (g_declare (by omega) hM hleft h1.2) fun x r hx=>.pp hx fun M' T' hx=>go x M' T' (hx.1.mono (by omega)) hx.2.1 hx.2.2
  have hJ2:Tot (F_kit_stmts_J2 fu (m_kit_stmts fu) (m_kit_body fu) (m_kit_loop fu) (4 - j) k) (LdP (fun b=>b=true→1≤j) O):=by
    unfold F_kit_stmts_J2
    exact .ite (fun _=>.go fun z=>by have:=of_decide_eq_true z;omega) fun _=>.go fun z=>(by cases z)
  refine .eoo hJ2 fun b hz=>.ite (fun z=>?_) fun _=>?_
  · obtain ⟨j,rfl⟩:∃ j',j=j'+1:=⟨j - 1,by have:=hz z;omega⟩
    refine .bp (g_expr (M:=dn1 M) (by omega) hdn h1.2 (by decide) (by decide)) fun x r hx=>.pp hx fun M1 T2 hx=>?_
    obtain ⟨hx1,rfl,hx3⟩:=hx
    refine .bp (hb.at' (j:=j) (most:=4) hdn hx3 (by omega) (by omega) (by omega) (by rw [wr_id (by omega) (by omega)];omega) rfl) fun l r hr=>.pp hr fun M2 T3 hr=>?_
    obtain ⟨hl1,hr2,hT3⟩:=hr
    have hJ3:Tot (F_kit_stmts_J3 fu (m_kit_stmts fu) (m_kit_body fu) (m_kit_loop fu) (4 - (j+1:Nat)) M2 T3) (LdP (fun r=>pel r fun o r=>pel r fun f r=>pel r fun fn r=>pel r fun pr r=>pel r fun c r=>pel r fun l r=>pel r fun tl r=>pel r fun ta r=>pel r fun s r=>pel r fun p a=>(o.length≤9∧∀ y ∈ o,GS (j+1) y)∧Mr M ⟨f,fn,pr,s,p,a,c,l⟩∧TQ ⟨tl,ta⟩) O):=by
      unfold F_kit_stmts_J3
      refine .bp (g_next hT3 (by decide) (by decide)) fun v T4 h4=>.ite (fun _=>?_) fun _=>.go ⟨len0,hd.trans hr2,h4.2⟩
      exact .bp (hb.at' (j:=j) (most:=3) (hr2.mp hdn) h4.2 (by omega) (by omega) (by omega) (by rw [wr_id (by omega) (by omega)];omega) rfl) fun l r hr=>.pp hr fun M3 T5 hr=>.go ⟨lle hr.1 (by decide),(hd.trans hr2).trans hr.2.1,hr.2.2⟩
    refine .eoo hJ3 fun r hr=>.pp hr fun o r hr=>.pp hr fun b1 r hr=>.pp hr fun b2 r hr=>.pp hr fun b3 r hr=>.pp hr fun b4 r hr=>.pp hr fun b5 r hr=>.pp hr fun b6 r hr=>.pp hr fun b7 r hr=>.pp hr fun b8 r hr=>.pp hr fun b9 b10 hr=>?_
    exact go _ ⟨b1,b2,b3,b8,b9,b10,b4,b5⟩ ⟨b6,b7⟩ (GS.mk b0 b0 b0 z9 len0 (len1 hx1 (by decide)) (lle hl1 (by decide)) hr.1) hr.2.1 hr.2.2
  have hJ4:Tot (F_kit_stmts_J4 fu (m_kit_stmts fu) (m_kit_body fu) (m_kit_loop fu) (4 - j) M.count k) (LdP (fun b=>b=true→1≤j) O):=by
    unfold F_kit_stmts_J4
    exact .ite (fun _=>.ite (fun _=>.go fun z=>by omega) fun _=>.go fun z=>(by cases z)) fun _=>.go fun z=>(by cases z)
  refine .eoo hJ4 fun b hz=>.ite (fun z=>?_) fun _=>?_
  · obtain ⟨j,rfl⟩:∃ j',j=j'+1:=⟨j - 1,by have:=hz z;omega⟩
    refine .bp (hl M T1 j hM hleft h1.2 (by omega) (by omega)) fun l r hr=>.pp hr fun M2 T3 hr=>?_
    refine .bd (.app (by have:=hr.1.1;omega)) fun r hr2=>?_
    subst hr2
    refine g_stmts_L0 hb hl hj hm hf hM0 n (i+1) _ M2 T3 (hR.trans hr.2.1) hr.2.2 ⟨by have:=hr.1.1;rw [List.length_append];omega,fun y hy=>?_⟩ (by omega) (by omega)
    rcases List.mem_append.1 hy with hy | hy
    · exact ho.2 y hy
    · exact hr.1.2 y hy
  have hJ5:Tot (F_kit_stmts_J5 fu (m_kit_stmts fu) (m_kit_body fu) (m_kit_loop fu) (4 - j) M.count k) (LdP (fun b=>b=true→1≤j) O):=by
    unfold F_kit_stmts_J5
    exact .ite (fun _=>.ite (fun _=>.go fun z=>by omega) fun _=>.go fun z=>(by cases z)) fun _=>.go fun z=>(by cases z)
  refine .eoo hJ5 fun b hz=>.ite (fun z=>?_) fun _=>?_
  · obtain ⟨j,rfl⟩:∃ j',j=j'+1:=⟨j - 1,by have:=hz z;omega⟩
    refine .bp (hb.at' (M:=dn1 M) (j:=j) (most:=4) hdn h1.2 (by omega) (by omega) (by omega) (by rw [wr_id (by omega) (by omega)];omega) rfl) fun l r hr=>.pp hr fun M2 T3 hr=>?_
    obtain ⟨hl1,hr2,hT3⟩:=hr
    obtain ⟨a1,a2,a3,a4,a5,a6,a7,a8,a9,a10,a11⟩:=id hr2
    dsimp only [dn1] at a4 a5 a6 a7
    obtain ⟨c1,c2,c3,c4,c5,c6,c7⟩:=id hM
    refine .bp (g_fresh (by omega) (by omega) (by omega)) fun s M3 h3=>?_
    obtain ⟨h3,rfl⟩:=h3
    dsimp only
    refine .bd (.app (by simp only [List.length_cons,List.length_nil];omega)) fun r hr=>?_
    have hR4:Mr M ⟨M2.f,M2.funcs,M2.params,r,M2.points,M2.arrays,M2.count+1,M2.left⟩:=by
      subst hr
      exact ⟨a1,a2,a3,⟨by dsimp only;rw [len_snoc];omega,by dsimp only;rw [sn_len];omega⟩,by dsimp only;omega,by dsimp only;omega,by dsimp only;omega,a8,mem_snoc a9 h3,a10,a11⟩
    refine .bp (hb.at' (j:=j) (most:=3) (hR4.mp hM) hT3 (by omega) (by omega) (by omega) (by rw [wr_id (by omega) (by omega)];omega) rfl) fun l2 r2 hr5=>.pp hr5 fun M5 T5 hr5=>?_
    obtain ⟨hl5,hR5,hT5⟩:=hr5
    obtain ⟨e1,e2,e3,e4,e5,e6,e7,e8,e9,e10,e11⟩:=id hR5
    dsimp only at e1 e2 e3 e4 e5 e6 e7
    have hrl:r.length=M2.scalars.length+1:=by rw [hr,len_snoc]
    rw [wr_id (by omega) (by omega)]
    refine .bd (.sl ⟨Int.le_refl _,by omega,by omega⟩) fun l3 hl3=>.bd (.app (by
      rw [hl3]
      simp only [List.length_nil,List.length_take,List.length_drop]
      omega)) fun r3 hr3=>?_
    have hq:r3=M5.scalars.take (M5.scalars.length - 1):=by
      rw [hr3,hl3,List.nil_append]
      have:((M5.scalars.length:Int) - 1 - 0).toNat=M5.scalars.length - 1:=by omega
      rw [this]
      simp
    have hq2:r3.length=M5.scalars.length - 1:=by rw [hq,List.length_take];omega
    exact go _ ⟨M5.f,M5.funcs,M5.params,r3,M5.points,M5.arrays,M5.count,M5.left⟩ T5 (GS.mk h3 b0 b0 z9 len0 len0 (lle hl1 (by decide)) (lle hl5 (by decide))) ⟨e1.trans a1,e2.trans a2,e3.trans a3,by dsimp only;omega,by dsimp only;omega,by dsimp only;omega,by dsimp only;omega,e8,fun x hx=>e9 x (by rw [hq] at hx;exact List.mem_of_mem_take hx),e10,e11⟩ hT5
  refine .ite (fun _=>?_) fun _=>?_
  · refine .bp (g_expr (M:=dn1 M) (by omega) hdn h1.2 (by decide) (by decide)) fun x r hx=>.pp hx fun M1 T2 hx=>?_
    obtain ⟨hx1,rfl,hx3⟩:=hx
    exact go _ (dn1 M) T2 (GS.mk b0 b0 b0 z9 len0 (len1 hx1 (by decide)) len0 len0) hd hx3
  have hJ6:Tot (F_kit_stmts_J6 fu (m_kit_stmts fu) (m_kit_body fu) (m_kit_loop fu) k T1) (LdP (fun r=>pel r fun _ r=>pel r fun l a=>TQ ⟨l,a⟩) O):=by
    unfold F_kit_stmts_J6
    exact .ite (fun _=>.bp (g_next h1.2 (by decide) (by decide)) fun v T2 h2=>.go h2.2) fun _=>.go h1.2
  refine .eoo hJ6 fun r hr=>.pp hr fun b r hr=>.pp hr fun tl ta hT2=>.ite (fun _=>?_) fun _=>?_
  · have hJ8:Tot (F_kit_stmts_J8 fu (m_kit_stmts fu) (m_kit_body fu) (m_kit_loop fu) M.f M.funcs M.params M.count M.left M.scalars M.points M.arrays tl ta) (LdP (fun r=>pel r fun b r=>pel r fun ar r=>pel r fun kd r=>pel r fun ln r=>pel r fun id r=>pel r fun nm r=>pel r fun ty r=>pel r fun le r=>pel r fun vr r=>pel r fun tg r=>pel r fun fn r=>pel r fun ca r=>pel r fun bo r=>pel r fun el r=>pel r fun tl r=>pel r fun ta r=>pel r fun m1 r=>pel r fun m2 r=>pel r fun m3 r=>pel r fun m4 r=>pel r fun m5 r=>pel r fun m6 r=>pel r fun m7 m8=>GS 1 ⟨kd,ln,id,nm,ty,le,vr,tg,fn,ca,ar,bo,el⟩∧TQ ⟨tl,ta⟩∧(⟨m1,m2,m3,m6,m7,m8,m4,m5⟩:GMaker)=dn1 M) O):=by
      unfold F_kit_stmts_J8
      rw [wr_id (n:=M.left - 1) (by omega) (by omega)]
      refine .bp (g_next hT2 (by decide) (by decide)) fun v T2 h2=>.ite (fun _=>.go ⟨GS.nil,h2.2,rfl⟩) fun _=>?_
      exact .bp (g_call (M:=dn1 M) (by omega) hdn h2.2 GS.nil rfl) fun b r hr=>.pp hr fun M' r hr=>.pp hr fun T2 x hr=>.go ⟨hr.2.2,hr.2.1,hr.1⟩
    have hJ7:Tot (F_kit_stmts_J7 fu (m_kit_stmts fu) (m_kit_body fu) (m_kit_loop fu) M.f M.funcs M.params M.count M.left M.scalars M.points M.arrays tl ta) (LdP (fun r=>pel r fun ar r=>pel r fun kd r=>pel r fun ln r=>pel r fun id r=>pel r fun nm r=>pel r fun ty r=>pel r fun le r=>pel r fun vr r=>pel r fun tg r=>pel r fun fn r=>pel r fun ca r=>pel r fun bo r=>pel r fun el r=>pel r fun tl r=>pel r fun ta r=>pel r fun m1 r=>pel r fun m2 r=>pel r fun m3 r=>pel r fun m4 r=>pel r fun m5 r=>pel r fun m6 r=>pel r fun m7 m8=>GS 1 ⟨kd,ln,id,nm,ty,le,vr,tg,fn,ca,ar,bo,el⟩∧TQ ⟨tl,ta⟩∧(⟨m1,m2,m3,m6,m7,m8,m4,m5⟩:GMaker)=dn1 M) O):=by
      unfold F_kit_stmts_J7
      refine .eoo hJ8 fun r hr=>.pp hr fun b r hr=>.pp hr fun ar r hr=>.pp hr fun kd r hr=>.pp hr fun ln r hr=>.pp hr fun id r hr=>.pp hr fun nm r hr=>.pp hr fun ty r hr=>.pp hr fun le r hr=>.pp hr fun vr r hr=>.pp hr fun tg r hr=>.pp hr fun fn r hr=>.pp hr fun ca r hr=>.pp hr fun bo r hr=>.pp hr fun el r hr=>.pp hr fun tl r hr=>.pp hr fun ta r hr=>.pp hr fun m1 r hr=>.pp hr fun m2 r hr=>.pp hr fun m3 r hr=>.pp hr fun m4 r hr=>.pp hr fun m5 r hr=>.pp hr fun m6 r hr=>.pp hr fun m7 m8 hr=>?_
      refine .ite (fun _=>?_) fun _=>.go hr
      rw [hr.2.2]
      exact .bp (g_expr (by omega) hdn hr.2.1 (by decide) (by decide)) fun x r hx=>.pp hx fun M1 T2 hx=>.go ⟨GS.mk b0 b0 b0 z9 len0 (len1 hx.1 (by decide)) len0 len0,hx.2.2,hx.2.1⟩
    refine .eoo hJ7 fun r hr=>.pp hr fun ar r hr=>.pp hr fun kd r hr=>.pp hr fun ln r hr=>.pp hr fun id r hr=>.pp hr fun nm r hr=>.pp hr fun ty r hr=>.pp hr fun le r hr=>.pp hr fun vr r hr=>.pp hr fun tg r hr=>.pp hr fun fn r hr=>.pp hr fun ca r hr=>.pp hr fun bo r hr=>.pp hr fun el r hr=>.pp hr fun tl r hr=>.pp hr fun ta r hr=>.pp hr fun m1 r hr=>.pp hr fun m2 r hr=>.pp hr fun m3 r hr=>.pp hr fun m4 r hr=>.pp hr fun m5 r hr=>.pp hr fun m6 r hr=>.pp hr fun m7 m8 hr=>?_
    exact go _ ⟨m1,m2,m3,m6,m7,m8,m4,m5⟩ ⟨tl,ta⟩ (hr.1.mono (by omega)) (by rw [hr.2.2];exact hd) hr.2.1
  have hJ9:Tot (F_kit_stmts_J9 fu (m_kit_stmts fu) (m_kit_body fu) (m_kit_loop fu) k tl ta) (LdP (fun r=>pel r fun _ r=>pel r fun l a=>TQ ⟨l,a⟩) O):=by
    unfold F_kit_stmts_J9
    exact .ite (fun _=>.bp (g_next hT2 (by decide) (by decide)) fun v T2 h2=>.go h2.2) fun _=>.go hT2
  refine .eoo hJ9 fun r hr=>.pp hr fun b r hr=>.pp hr fun tl ta hT3=>.ite (fun _=>?_) fun _=>?_
  · refine .bp (g_expr (M:=dn1 M) (by omega) hdn hT3 (by decide) (by decide)) fun x r hx=>.pp hx fun M1 T2 hx=>?_
    obtain ⟨hx1,rfl,hx3⟩:=hx
    exact go _ (dn1 M) T2 (GS.mk b0 b0 b0 z9 len0 (len1 hx1 (by decide)) len0 len0) hd hx3
  have hJ10:Tot (F_kit_stmts_J10 fu (m_kit_stmts fu) (m_kit_body fu) (m_kit_loop fu) (4 - j) k tl ta) (LdP (fun r=>pel r fun b r=>pel r fun l a=>(b=true→1≤j)∧TQ ⟨l,a⟩) O):=by
    unfold F_kit_stmts_J10
    refine .ite (fun _=>.bp (g_next hT3 (by decide) (by decide)) fun v T2 h2=>.ite (fun _=>.go ⟨fun z=>by have:=of_decide_eq_true z;omega,h2.2⟩) fun _=>.go ⟨fun z=>(by cases z),h2.2⟩) fun _=>.go ⟨fun z=>(by cases z),hT3⟩
  refine .eoo hJ10 fun r hr=>.pp hr fun b r hr=>.pp hr fun tl ta hr=>.ite (fun z=>?_) fun _=>?_
  · obtain ⟨hz,hT4⟩:=hr
    obtain ⟨j,rfl⟩:∃ j',j=j'+1:=⟨j - 1,by have:=hz z;omega⟩
    refine .bp (g_expr (M:=dn1 M) (by omega) hdn hT4 (by decide) (by decide)) fun x r hx=>.pp hx fun M1 T2 hx=>?_
    obtain ⟨hx1,rfl,hx3⟩:=hx
    refine .bp (hb.at' (j:=j) (most:=3) hdn hx3 (by omega) (by omega) (by omega) (by rw [wr_id (by omega) (by omega)];omega) rfl) fun l r hr=>.pp hr fun M2 T3 hr=>?_
    exact go _ M2 T3 (GS.mk b0 b0 b0 z9 len0 (len1 hx1 (by decide)) (lle hr.1 (by decide)) len0) (hd.trans hr.2.1) hr.2.2
  · refine .bp (g_assign (M:=dn1 M) (by omega) hdn hr.2) fun x r hx=>.pp hx fun M1 T2 hx=>?_
    obtain ⟨hx1,rfl,hx3⟩:=hx
    exact go x (dn1 M) T2 (hx1.mono (by omega)) hd hx3
theorem g_blocks:∀ (fu:Nat),Kst fu∧Kbo fu∧Klo fu
 | 0=>⟨fun _ _ _ _ _ _ _ _ h=>by omega,fun _ _ _ _ _ _ _ _ h=>by omega,fun _ _ _ _ _ _ _ h=>by omega⟩
 | fu+1=>by
  have ih:=g_blocks fu
  refine ⟨?_,g_body ih.1,g_loop ih.2.1⟩
  intro M T j most hM hT hj hm hf
  show Tot (F_kit_stmts fu (m_kit_stmts fu) (m_kit_body fu) (m_kit_loop fu) M T _ _) _
  unfold F_kit_stmts
  refine .el (g_stmts_L0 ih.2.1 ih.2.2 hj hm (by omega) hM (O:=fun _=>False) fu 0 [] M T (Mr.rfl' hM) hT len0 (by omega) (by omega)) (fun r hr=>?_) fun _ z=>z.elim
  exact .pp hr fun b1 r hr=>.pp hr fun b1 r hr=>.pp hr fun b1 r hr=>.pp hr fun b1 r hr=>.pp hr fun b1 r hr=>.pp hr fun b1 r hr=>.pp hr fun b1 r hr=>.pp hr fun b1 r hr=>.pp hr fun b1 r hr=>.pp hr fun b1 r hr=>.pp hr fun b1 b2 hr=>.mk hr
theorem g_stmts {fu:Nat} (hf:40≤fu) {M:GMaker} {T:GTape} (hM:MP M) (hT:TQ T) {most:Nat} (hm:most≤10):Tot (m_kit_stmts fu M T 1 most) (SP (2 * most) 4 M):=(g_blocks fu).1 M T 3 most hM hT (by decide) hm (by omega)
end Go.Proofs.Ytfglbdkfnphjgaa
