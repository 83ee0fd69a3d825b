/- Statements, functions and the whole checker of the specification. -/
import Derived.Test.YtfglbdkfnphjgaaPc
set_option linter.unusedVariables false
set_option linter.unusedSimpArgs false
namespace Go.Proofs.Ytfglbdkfnphjgaa
open Go.RowKit Go.Fw
def UP (S:GState115) (V:List GVarInfo) (S':GState115):Prop:=∃ V',Stp S V S' V'∧∃ ext,S'.open_=S.open_ ++ ext
theorem UP.trans {S S1 S2:GState115} {V V1:List GVarInfo} (h:Stp S V S1 V1) (ho:S1.open_=S.open_) (k:UP S1 V1 S2):UP S V S2:=by
 obtain ⟨V2,k1,ext,k2⟩:=k
 exact ⟨V2,h.trans k1,ext,by rw [k2,ho]⟩
section
variable {fu:Nat} {f:GState115→List GStmt→Option (List GStmt × GState115)} {g:GState115→GStmt→Option (GStmt × GState115)}
theorem u_stmt_J1 {S:GState115} {V:List GVarInfo} {x:GStmt} {r8:List GStmtInfo} (h:SI ⟨⟨S.out_.Program,S.out_.Vars,r8⟩,S.f,S.open_,S.line,S.e⟩ V):Tot (F_r04_stmt_J1 fu f g S x r8) (LdP (fun r=>pel r fun k r=>pel r fun c _=>k=2→0≤c∧c < S.out_.Program.Records.length) (fun r=>pel r fun _ S'=>UP ⟨⟨S.out_.Program,S.out_.Vars,r8⟩,S.f,S.open_,S.line,S.e⟩ V S')):=by
 unfold F_r04_stmt_J1
 refine .ite (fun _=>.go fun z=>(by cases z)) fun _=>.ite (fun _=>?_) fun _=>.go fun z=>(by cases z)
 refine .bp u_record fun v b hv=>.ite (fun _=>?_) fun d=>?_
 · exact .bd (u_fail (by decide)) fun S' k=>.out ⟨V,k.1.stp h,[],by rw [k.1.op,List.append_nil]⟩
 have hv:=hv (by simpa using d)
 exact .bd (.ix hv.1 hv.2) fun rc _=>.go fun _=>hv
theorem u_stmt_J0 {S:GState115} {V:List GVarInfo} {x:GStmt} {r8:List GStmtInfo} (h:SI ⟨⟨S.out_.Program,S.out_.Vars,r8⟩,S.f,S.open_,S.line,S.e⟩ V) (hr:r8.length=S.out_.Stmts.length+1):Tot (F_r04_stmt_J0 fu f g S x r8) (LdP (fun r=>pel r fun a r=>pel r fun b r=>pel r fun c r=>pel r fun d r=>pel r fun e r=>pel r fun f r=>pel r fun g h=>Sme ⟨⟨S.out_.Program,S.out_.Vars,r8⟩,S.f,S.open_,S.line,S.e⟩ ⟨⟨⟨a,e⟩,f,g⟩,b,h,c,d⟩) (fun r=>pel r fun _ S'=>UP ⟨⟨S.out_.Program,S.out_.Vars,r8⟩,S.f,S.open_,S.line,S.e⟩ V S')):=by
 unfold F_r04_stmt_J0
 refine .ite (fun _=>?_) fun _=>.ite (fun _=>.ite (fun c=>?_) fun _=>.go .rfl') fun _=>.go .rfl'
 · refine .el (u_stmt_J1 h) (fun s hs=>?_) fun o ho=>.out ho
   refine .pp hs fun k r hs=>.pp hs fun c w hs=>?_
   have h1:=h.st
   dsimp only at h1
   refine .bp (u_declare h hs ?_) fun v S' k=>.out ?_
   · dsimp only;rw [wr_id (by omega) (by omega)];omega
   · obtain ⟨V',k1,k2,_⟩:=k
     exact ⟨V',k1,k2⟩
 · refine .bd (.ix (Int.le_refl _) c) fun e he=>.ite (fun _=>?_) fun _=>.go .rfl'
   exact .bd (u_fail (by decide)) fun S' k=>.go k.1
theorem u_stmt_J4 {S:GState115} {V:List GVarInfo} {v:Int} (h:SI S V) (hv:S.e=0→0≤v∧v < V.length) {O:GStmt × GState115→Prop}:Tot (F_r04_stmt_J4 fu f g v S) (LdP (fun vs=>∃ V',vs=S.out_.Vars.set S.f.toNat V'∧∃ C,Tos ((S.out_.Stmts.length:Int) - 1) C V V'∧(S.e=0→∀ i,C i ↔ i=v.toNat)∧(S.e≠0→∀ i,¬ C i)) O):=by
 unfold F_r04_stmt_J4
 refine .ite (fun c=>?_) fun c=>.go ⟨V,(set_same h.v).symm,_,.rfl',fun z=>absurd z c,fun _ _ z=>z⟩
 have hv:=hv c
 have a3:=h.f0;have a4:=h.vl;have a5:=h.st
 refine .bd h.ix fun e he=>?_
 subst he
 refine .bd (.ix hv.1 hv.2) fun x hx=>.bd (.st hv) fun w hw=>.bd (.st (by omega)) fun w2 hw2=>.go ?_
 rw [wr_id (by omega) (by omega)] at hw
 subst hw hw2
 exact ⟨_,rfl,_,Tos.one hx,fun _ i=>Iff.rfl,fun z=>absurd c z⟩
theorem u_stmt_J3 (hf:Ublk f fu) {n:Nat} (hn:2 * n+10002≤fu) {S:GState115} {V:List GVarInfo} {l:List GStmt} (h:SI S V) (hl:(∀ y ∈ l,SOk 5000 n y)∧l.length≤5001) {a1 a2 a3:Int} {a4 a5:ByteArray} {a6:Int} {a7:List GExpr} {a8:ByteArray} {a9:Int} {a10:List GExpr} {a11:List GStmt} :
   Tot (F_r04_stmt_J3 fu f g a1 a2 a3 a4 a5 a6 a7 a8 a9 l a10 a11 S) (LdP (fun _=>True) (fun r=>pel r fun _ S'=>UP S V S')):=by
 unfold F_r04_stmt_J3
 refine .ite (fun _=>.ite (fun c=>?_) fun _=>.go trivial) fun _=>.go trivial
 have b1:=h.ol;have b2:=h.vn
 refine .bd (.app (by simp only [List.length_nil];omega)) fun r hr=>?_
 rw [List.nil_append] at hr
 subst hr
 refine .bp (u_declare h (fun z=>(by cases z)) (Int.le_refl _)) fun v S1 k1=>?_
 obtain ⟨V1,k1,⟨ext,k2⟩,k3⟩:=k1
 refine .bp (hf S1 V1 l n k1.si hl.1 hl.2 hn) fun l2 S2 k4=>?_
 obtain ⟨V2,k4,k5⟩:=k4
 have hv:S2.e=0→0≤v∧v < V2.length:=fun z=>by
   have q:=k3 (k4.e z)
   have q1:=k4.vle
   rw [q.1,len_snoc] at q1
   omega
 refine .el (u_stmt_J4 (O:=fun _=>False) k4.si hv) (fun vs hvs=>?_) fun _ z=>z.elim
 obtain ⟨V3,c1,C,c2,c3,c4⟩:=hvs
 have hop:S2.open_=S.open_ ++ ext:=by rw [k5,k2]
 refine .out ⟨V3,(k1.trans k4).trans (Tos.stp k4.si c2 c1 (fun v hv=>by rw [hop];exact List.mem_append.2 (.inl hv)) (by rw [hop,List.length_append];omega) (fun i hi=>?_) fun z i hi ho=>?_),[],by rw [List.append_nil]⟩
 · by_cases z:S2.e=0
   · have q:=k3 (k4.e z)
     rw [(c3 z i).1 hi,k5,q.2.2,q.2.1,Int.toNat_natCast]
     exact List.mem_append.2 (.inr (.head _))
   · exact absurd hi (c4 z i)
 · have q:=k3 (k4.e z)
   rw [k5,q.2.2] at hi
   rcases List.mem_append.1 hi with hi | hi
   · exact absurd hi ho
   · simp only [List.mem_cons,List.not_mem_nil,or_false] at hi
     refine (c3 z i).2 ?_
     rw [q.2.1];omega
theorem u_stmt_J2 {S:GState115} {x:GStmt} {a:List GExpr} {S1:GState115} {O:GStmt × GState115→Prop}:Tot (F_r04_stmt_J2 fu f g S x a S1) (LdP (fun r=>pel r fun a r=>pel r fun b r=>pel r fun c r=>pel r fun d r=>pel r fun e r=>pel r fun f r=>pel r fun g r=>pel r fun h r=>pel r fun _ r=>pel r fun _ r=>pel r fun _ r=>pel r fun _ r=>pel r fun _ r=>pel r fun _ r=>pel r fun _ r=>pel r fun _ r=>pel r fun _ r=>pel r fun _ r=>pel r fun i r=>pel r fun j k=>Sme S1 ⟨⟨⟨a,e⟩,f,g⟩,b,h,c,d⟩∧i=x.Args∧j=x.Body∧k=x.Else) O):=by
 unfold F_r04_stmt_J2
 refine .ite (fun _=>.bp u_callee fun S' x' k=>.go ?_) fun _=>.go ⟨.rfl',rfl,rfl,rfl⟩
 obtain ⟨k1,c,rfl⟩:=k
 exact ⟨k1,rfl,rfl,rfl⟩
theorem u_stmt (hf:Ublk f fu):Ustm (F_r04_stmt fu f g) (fu+1):=by
 intro S V x n h hx hn
 cases n with
 | zero=>exact hx.elim
 | succ n=>
 obtain ⟨x1,x2,x3,x4,x5⟩:=hx
 unfold F_r04_stmt
 refine .ite (fun c=>.bd (u_fail (by decide)) fun S' k=>.mk ⟨V,k.1.stp h,[],by rw [k.1.op,List.append_nil]⟩) fun c=>?_
 have a3:=h.st
 refine .bd (.app (by simp only [List.length_cons,List.length_nil];omega)) fun r8 hr8=>?_
 have hlen:r8.length=S.out_.Stmts.length+1:=by rw [hr8,len_snoc]
 have h1:SI ⟨⟨S.out_.Program,S.out_.Vars,r8⟩,S.f,S.open_,S.line,S.e⟩ V:=⟨h.f0,h.vl,h.v,h.vn,h.op,h.ol,by dsimp only;omega,h.rk⟩
 have s1:Stp S V ⟨⟨S.out_.Program,S.out_.Vars,r8⟩,S.f,S.open_,S.line,S.e⟩ V:=⟨h1,rfl,rfl,fun _ _=>rfl,by dsimp only;omega,id,Nat.le_refl _,fun _ m=>⟨fun i y hi ho=>by have:=m.cl i y hi ho;dsimp only;omega,m.pr⟩⟩
 refine .el (u_stmt_J0 h1 hlen) (fun s hs=>?_) fun o ho=>.mk ?_
 rotate_left
 · obtain ⟨y,S'⟩:=o
   exact UP.trans s1 rfl ho
 refine .pp hs fun b1 r hs=>.pp hs fun b2 r hs=>.pp hs fun b3 r hs=>.pp hs fun b4 r hs=>.pp hs fun b5 r hs=>.pp hs fun b6 r hs=>.pp hs fun b7 b8 hs=>?_
 refine .bp ((u_exps fu).2 _ V _ _ 5000 (hs.si h1) x1.2 (by have:=x1.1;omega) (by omega)) fun tg S2 k2=>?_
 have q2:=hs.trans k2.1
 refine .el (u_stmt_J2 (O:=fun _=>False)) (fun s hs=>?_) fun _ z=>z.elim
 refine .pp hs fun c1 r hs=>.pp hs fun c2 r hs=>.pp hs fun c3 r hs=>.pp hs fun c4 r hs=>.pp hs fun c5 r hs=>.pp hs fun c6 r hs=>.pp hs fun c7 r hs=>.pp hs fun c8 r hs=>.pp hs fun c9 r hs=>.pp hs fun c10 r hs=>.pp hs fun c11 r hs=>.pp hs fun c12 r hs=>.pp hs fun c13 r hs=>.pp hs fun c14 r hs=>.pp hs fun c15 r hs=>.pp hs fun c16 r hs=>.pp hs fun c17 r hs=>.pp hs fun c18 r hs=>.pp hs fun c19 r hs=>.pp hs fun c20 c21 hs=>?_
 obtain ⟨k3,rfl,rfl,rfl⟩:=hs
 have q3:=q2.trans k3
 refine .bp ((u_exps fu).2 _ V _ _ 5000 (q3.si h1) x2.2 x2.1 (by omega)) fun ar S4 k4=>?_
 have q4:=q3.trans k4.1
 have s4:=s1.trans (q4.stp h1)
 refine .bp (hf S4 V x.Body n s4.si x3.2 (by have:=x3.1;omega) (by omega)) fun bd S5 k5=>?_
 obtain ⟨V5,k5,o5⟩:=k5
 have s5:=s4.trans k5
 have ho5:S5.open_=S.open_:=by rw [o5,q4.op]
 refine .el (u_stmt_J3 hf (by omega) s5.si ⟨x4.2,by have:=x4.1;omega⟩) (fun _ _=>?_) fun o ho=>.mk ?_
 · refine .bp (hf S5 V5 x.Else n s5.si x4.2 (by have:=x4.1;omega) (by omega)) fun el S6 k6=>.mk ?_
   obtain ⟨V6,k6,o6⟩:=k6
   exact ⟨V6,s5.trans k6,[],by rw [o6,ho5,List.append_nil]⟩
 · obtain ⟨y,S'⟩:=o
   exact UP.trans s5 ho5 ho
end
theorem u_blocks:∀ fu:Nat,Ublk (m_r04_block fu) fu∧Ustm (m_r04_stmt fu) fu
 | 0=>⟨fun S V l n h hl hlen hn=>by omega,fun S V x n h hx hn=>by omega⟩
 | fu+1=>⟨u_block (u_blocks fu).2,u_stmt (u_blocks fu).1⟩
end Go.Proofs.Ytfglbdkfnphjgaa
