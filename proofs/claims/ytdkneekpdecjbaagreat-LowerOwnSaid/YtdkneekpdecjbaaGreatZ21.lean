/- Statements, functions and the whole program: the parser answers, and what it answers has the shape of a program. -/
import Derived.Test.YtdkneekpdecjbaaGreatZ20
set_option linter.unusedVariables false
set_option linter.unusedSimpArgs false
namespace Go.Proofs.YtdkneekpdecjbaaGreat
open Go.RowKit Go.Fw Go.Proofs.Tryz
structure Shape (x:jA):Prop where
 decl:x.b=1->x.e=[]/\x.a=[]/\x.d=[]/\x.h=[]/\x.k=be
 call:x.b=3->x.k≠be/\∀ y ∈ x.e,1<=y.e/\y.e<=3
 func:x.k≠be->(x.b=3\/x.b=6)/\x.d=[]/\x.h=[]
 type:0 < x.m->x.j=be
 kind:1<=x.b/\x.b<=10
 ret:x.b=6->x.e=[]
 args:x.k=be->x.b≠1->x.b≠8->x.b≠10->x.a≠[]
 targ:x.b=2->x.e≠[]
 len:x.m<=8
 tops:∀ y ∈ x.e,1<=y.e/\y.e<=3
def Fe (E:Nat):Nat→jA→Prop
 | 0,_=>False
 | n+1,x=>(x.e.length<=1/\∀ y ∈ x.e,Ca E y)/\(x.a.length<=5000/\∀ y ∈ x.a,Ca E y)/\(x.d.length<=5000/\∀ y ∈ x.d,Fe E n y)/\(x.h.length<=5000/\∀ y ∈ x.h,Fe E n y)/\Shape x
theorem Fe.mono {E:Nat}:∀ {n m:Nat}{x:jA},Fe E n x→n≤m→Fe E m x
 | 0,_,_,h,_=>h.elim
 | n+1,0,_,h,k=>by omega
 | n+1,m+1,x,h,k=>⟨h.1,h.2.1,⟨h.2.2.1.1,fun y hy=>Fe.mono (h.2.2.1.2 y hy) (by omega)⟩,⟨h.2.2.2.1.1,fun y hy=>Fe.mono (h.2.2.2.1.2 y hy) (by omega)⟩,h.2.2.2.2⟩
theorem nA {α:Type}{p:α->Prop}{b:Nat}:([]:List α).length<=b/\∀ y ∈ ([]:List α),p y:=⟨uW _,fun y hy=>by cases hy⟩
theorem len1 {α:Type}{p:α->Prop}{b:Nat}{x:α}(h:p x)(hb:1<=b):[x].length<=b/\∀ y ∈ [x],p y:=⟨hb,fun y hy=>by
 simp only [qg,Cm,or_false] at hy;subst hy;exact h⟩
theorem EP.ok {S S':gP}{x:jB}(h:PS S)(k:EP S x S')(z:S'.e=0):Ca S.l.length x:=by obtain ⟨a,n,b,c⟩:=k.2 z;exact c.mono (by have:=k.1.hi;have:=h.lo;omega)
theorem MO {fu:Nat}{S0:gP}(h0:PS S0)(hf:S0.l.length+105≤fu){O:List jB × gP→Prop}:∀ (n:Nat)(out:List jB)(S:gP),Nx S0 S→S0.l.length+1≤n+S.a→(S.e=0→(out.length:Int)≤S.a∧∀ y ∈ out,Ca S0.l.length y)→
  1<=n->kP (qb fu n S.l S.a S.c S.e out) (pV (fun r=>jy r fun a r=>jy r fun b r=>jy r fun c r=>jy r fun d o=>Nx S ⟨a,b,c,d⟩/\(d=0->(o.length:Int)<=b/\∀ y ∈ o,Ca S0.l.length y)) O)
 | 0,out,S,h,hn,ho,h1=>by omega
 | n+1,out,S,h,hn,ho,_=>by
  have hS:=h.ps h0;rw [qb];refine .ite (fun c=>?_) (fun c=>.go ⟨Nx.rfl' hS,ho⟩);refine .bd (CY hS) fun b hb=>?_;refine .ite (fun d=>?_) (fun d=>.go ⟨Nx.rfl' hS,ho⟩);have hs:=Nx.step hS (hb d);have hw:wr (S.a+1)=S.a+1:=hS.QF;have hl:S.l=S0.l:=h.l;refine .bp ((yc fu).1 _ 1 0 (hs.ps hS) (by decide) (by decide) (by decide) (by decide) (by dsimp only;rw [hl];omega)) fun x S1 hx=>?_;have hlen:=h0.tl.len;have hi:=h.hi;refine .bd (.app (by have:=(ho c).1;simp only [uX,zh];omega)) fun r hr=>?_;have k:=hs.trans hx.1;have hat:=hx.1.lo;dsimp only at hat;rw [hw] at hat;have hlo:=h.lo;have h0lo:=h0.lo;have hhi:=k.hi;rw [hl] at hhi;refine (MO h0 hf (O:=O) n r S1 (h.trans k) (by omega) (fun z=>?_) (by omega)).imp fun v hv=>?_
  · subst hr;have:=(ho c).1;refine ⟨by simp only [Ic,uX,zh];omega,fun y hy=>?_⟩;rcases qN.1 hy with hy | hy
    · exact (ho c).2 y hy
    · simp only [qg,Cm,or_false] at hy;subst hy;have:=hx.ok (hs.ps hS) z;dsimp only at this
      rwa [hl] at this
  · obtain v | v:=v
    · obtain ⟨a,b,c,d,o⟩:=v;exact ⟨k.trans hv.1,hv.2⟩
    · exact hv
theorem abt {fu:Nat}{S:gP}(h:PS S)(hf:S.l.length+105<=fu):kP (uw fu S) (fun r=>jy r fun l S'=>Nx S S'/\(S'.e=0->S.a < S'.a/\l.length<=5000/\∀ y ∈ l,Ca S.l.length y)):=by
 unfold uw;refine .bd (tK h) fun S1 h1=>?_;have hS1:=h1.1.ps h;have hl:=h1.1.l;have hJ:kP (tY fu S1) (pV (fun r=>jy r fun o r=>jy r fun a r=>jy r fun b r=>jy r fun c d=>Nx S1 ⟨a,b,c,d⟩/\(d=0->(o.length:Int)<=b/\∀ y ∈ o,Ca S.l.length y)) (fun _=>False)):=by
  unfold tY;have hnil:Nx S1 ⟨S1.l,S1.a,S1.c,S1.e⟩/\(S1.e=0->(([]:List jB).length:Int)<=S1.a/\∀ y ∈ ([]:List jB),Ca S.l.length y):=⟨Nx.rfl' hS1,fun _=>⟨by have:=hS1.lo;simp only [zh];omega,fun y hy=>by cases hy⟩⟩;refine .ite (fun c=>?_) fun c=>.go hnil;refine .bd (CY hS1) fun b hb=>.ite (fun d=>?_) fun d=>.go hnil;refine .bp ((yc fu).1 _ 1 0 hS1 (by decide) (by decide) (by decide) (by decide) (by rw [hl];omega)) fun x S2 hx=>?_;refine .bd (.app (by simp only [uX,zh];omega)) fun r hr=>?_;have h2:=hx.1.ps hS1;have a1:=hx.1.lo;have a2:=hS1.lo;refine .Fa (MO h (by omega) fu r S2 (h1.1.trans hx.1) (by omega) (fun z=>?_) (by omega)) fun s hs=>?_
  · subst hr;obtain ⟨b1,n,b2,b3⟩:=hx.2 z;refine ⟨by simp only [E8,uX,zh];omega,fun y hy=>?_⟩;simp only [E8,qg,Cm,or_false] at hy;subst hy;have:=hx.ok hS1 z
    rwa [hl] at this
  · refine .pp hs fun a r hs=>.pp hs fun b r hs=>.pp hs fun c r hs=>.pp hs fun d o hs=>.go ⟨hx.1.trans hs.1,hs.2⟩
 refine .el hJ (fun s hs=>?_) fun _ z=>z.elim;refine .pp hs fun o r hs=>.pp hs fun a r hs=>.pp hs fun b r hs=>.pp hs fun c d hs=>?_;refine .bd (tK (hs.1.ps hS1)) fun S3 h3=>.mk ⟨(h1.1.trans hs.1).trans h3.1,fun z=>?_⟩;have k1:=h3.1.e z;have k2:=hs.2 k1;have k3:=h1.2 (hs.1.e k1);have k4:=hs.1.lo;have k5:=h3.1.lo;have k6:=hs.1.hi;have k7:=h.tl.len;dsimp only at k4 k5 k6;rw [hl] at k6;exact ⟨by omega,by omega,k2.2⟩
theorem XF {fu:Nat}{S:gP}{x:jA}(h:PS S)(h1:x.j=be)(h2:x.m=0):kP (AA fu S x) (fun r=>jy r fun S' x'=>Nx S S'/\(S'.e=0->S.a < S'.a/\∃ T L,x'=⟨x.b,x.g,x.n,x.c,T,L,x.f,x.e,x.k,x.i,x.a,x.d,x.h⟩/\(0 < L->T=be)/\L<=8)):=by
 obtain ⟨a1,a2,a3,a4,a5,a6,a7,a8,a9,a10,a11,a12,a13⟩:=x;dsimp only at h1 h2;subst h1 h2;unfold AA;refine .ite (fun c=>.mk ⟨Nx.rfl' h,fun z=>absurd z c⟩) fun c=>?_;refine .bd (CY h) fun b hb=>.ite (fun d=>?_) fun d=>?_
 · refine .bp (CS h) fun n S1 hn=>.mk ⟨hn.1.1,fun z=>?_⟩;have:=hn.1.2 z;exact ⟨by omega,n,0,rfl,fun z=>by omega,by decide⟩
 have hs:=Nx.step h (hb (by simpa using d));have hP:=hs.ps h;have hw:wr (S.a+1)=S.a+1:=h.QF;have hlo:=h.lo;refine .bd (CY hP) fun b hb=>.ite (fun d=>?_) fun d=>?_
 · exact .mk ⟨hs,fun z=>⟨by dsimp only;omega,be,0,rfl,fun _=>rfl,by decide⟩⟩
 have hs2:=Nx.step hP (hb (by simpa using d));dsimp only at hs2;have hP2:=hs2.ps hP;have hw2:wr (wr (S.a+1)+1)=S.a+2:=by have:=hP.QF;dsimp only at this;rw [this];omega
 refine .bd (Dt hP2) fun b hb=>.ite (fun d=>?_) fun d=>?_
 · refine .bd (DK hP2 (by decide)) fun S1 hS1=>.mk ⟨(hs.trans hs2).trans hS1.1,fun z=>absurd z hS1.2.1⟩
 obtain ⟨tk,htk,_,_,hb⟩:=hb;have hb:=hb (by simpa using d) (by decide);refine .bd (.ix hP2.lo hP2.hi) fun e he=>?_;have hJ:kP (yw fu e) (pV (fun s=>s=false->e.d<=8) (fun _=>False)):=by unfold yw;exact .ite (fun _=>.go fun z=>by cases z) fun _=>.go fun z=>by have:=of_decide_eq_false z;omega
 refine .el hJ (fun s hs8=>?_) fun _ z=>z.elim;refine .ite (fun _=>?_) fun c8=>?_
 · refine .bd (DK hP2 (by decide)) fun S1 hS1=>.mk ⟨(hs.trans hs2).trans hS1.1,fun z=>absurd z hS1.2.1⟩
 have hs3:=Nx.step hP2 hb;refine .bd (tK (hs3.ps hP2)) fun S1 hS1=>.mk ⟨((hs.trans hs2).trans hs3).trans hS1.1,fun z=>⟨?_,be,e.d,rfl,fun _=>rfl,hs8 (by simpa using c8)⟩⟩;have k1:=hS1.1.lo;have k2:=hP2.QF;dsimp only at k1 k2;rw [k2,hw2] at k1;omega
theorem GV {fu:Nat}{S:gP}{x:jA}{call:Bool}(h:PS S)(hf:S.l.length+105<=fu):kP (sJ fu S x call) (fun r=>jy r fun S' x'=>Nx S S'/\(S'.e=0->S.a < S'.a/\∃ f a,x'=⟨x.b,x.g,x.n,x.c,x.j,x.m,x.f,x.e,f,x.i,a,x.d,x.h⟩/\(a.length<=5000/\∀ y ∈ a,Ca S.l.length y)/\(f=x.k\/call=true)/\(call=true->um fu S=some true->f≠be)/\(f=be->a≠[]))):=by
 unfold sJ;have hJ:kP (yJ fu S x call) (pV (fun _=>S.e=0->call=true->um fu S=some true->False) (fun r=>jy r fun S' x'=>Nx S S'/\(S'.e=0->S.a < S'.a/\∃ f a,x'=⟨x.b,x.g,x.n,x.c,x.j,x.m,x.f,x.e,f,x.i,a,x.d,x.h⟩/\(a.length<=5000/\∀ y ∈ a,Ca S.l.length y)/\(f=x.k\/call=true)/\(call=true->um fu S=some true->f≠be)/\(f=be->a≠[])))):=by
  unfold yJ;refine .ite (fun c=>?_) fun c=>.go fun z=>absurd z c;refine .ite (fun c2=>?_) fun c2=>.go fun _ z=>absurd z c2;refine kP.Xh (Xq h) fun b hb _=>.ite (fun d=>?_) fun d=>.go fun _ _ z=>by rw [hb] at z;exact d (JY z)
  refine .bp (CS h) fun n S1 h1=>?_;have hS1:=h1.1.1.ps h;have hl:=h1.1.1.l;refine .bp (abt hS1 (by rw [hl];omega)) fun a S2 h2=>.out ⟨h1.1.1.trans h2.1,fun z=>?_⟩;obtain ⟨k1,k2,k3⟩:=h2.2 z;rw [hl] at k3;have k4:=h1.1.1.lo;exact ⟨by omega,n,a,rfl,⟨k2,k3⟩,.inr c2,fun _ _=>h1.2.1 (h2.1.e z),fun q=>absurd q (h1.2.1 (h2.1.e z))⟩
 refine .eo hJ fun _ hs=>?_;refine .bp ((yc fu).1 _ 1 0 h (by decide) (by decide) (by decide) (by decide) (by omega)) fun y S1 hy=>.mk ⟨hy.1,fun z=>?_⟩;exact ⟨(hy.2 z).1,x.k,[y],rfl,len1 (hy.ok h z) (by decide),.inl rfl,fun c d=>(hs (hy.1.e z) c d).elim,fun _ q=>(by cases q)⟩
def TP (N n:Nat)(S:gP)(x:jA)(S':gP):Prop:=Nx S S'/\(S'.e=0->S.a < S'.a/\Fe N n x)
theorem Wl {fu n:Nat}{S:gP}{ln:Int}(h:PS S)(hf:S.l.length+105<=fu):kP (yQ fu S ⟨0,ln,0,be,be,0,0,[],be,0,[],[],[]⟩) (fun r=>jy r fun S' x=>TP S.l.length (n+1) S x S'):=by
 unfold yQ;refine kP.Xh (Xq h) fun b hb _=>.ite (fun d=>?_) fun d=>?_
 · subst d;refine .bp (GV h hf) fun S1 x h1=>.mk ⟨h1.1,fun z=>?_⟩;obtain ⟨k1,f,a,rfl,k2,k3,k4,k6⟩:=h1.2 z;have k5:=k4 rfl hb;refine ⟨k1,nA,k2,nA,nA,⟨fun z=>(by cases z),fun _=>⟨k5,fun y hy=>(by cases hy)⟩,fun _=>⟨.inl rfl,rfl,rfl⟩,fun z=>absurd z (Int.lt_irrefl 0),(by dsimp only;decide),fun z=>(by cases z),fun z=>absurd z k5,fun z=>(by cases z),(by dsimp only;decide),fun y hy=>(by cases hy)⟩⟩
 refine .bp ((yc fu).2.2 S 0 h (by decide) (by decide) (by omega)) fun y S1 h1=>?_;have hS1:=h1.1.1.ps h;refine .bd (tK hS1) fun S2 h2=>?_;have hl:S2.l=S.l:=h2.1.l.trans h1.1.1.l;refine .bp (GV (h2.1.ps hS1) (by rw [hl];exact hf)) fun S3 x h3=>?_;have k:=(h1.1.1.trans h2.1).trans h3.1;have hy:S3.e=0->[y].length<=1/\∀ q ∈ [y],Ca S.l.length q:=fun z=>len1 (h1.1.ok h (h2.1.e (h3.1.e z))) (ng 1);have ht:∀ q ∈ [y],1<=q.e/\q.e<=3:=fun q hq=>by simp only [qg,Cm,or_false] at hq;subst hq;exact ⟨h1.2.1,h1.2.2⟩
 have hat:S3.e=0->S.a < S3.a:=fun z=>by have:=(h1.1.2 (h2.1.e (h3.1.e z))).1;have:=h2.1.lo;have:=h3.1.lo;omega
 refine .ite (fun c=>.mk ⟨k,fun z=>?_⟩) fun c=>.mk ⟨k,fun z=>?_⟩
 · obtain ⟨k1,f,a,rfl,k2,k3,k4,k6⟩:=h3.2 z;rw [hl] at k2;dsimp only at c;refine ⟨hat z,hy z,k2,nA,nA,⟨fun z=>(by cases z),fun z=>(by cases z),fun z=>absurd c z,fun z=>absurd z (Int.lt_irrefl 0),(by dsimp only;decide),fun z=>(by cases z),fun z _ _ _=>k6 z,fun _ z=>(by cases z),(by dsimp only;decide),ht⟩⟩
 · obtain ⟨k1,f,a,rfl,k2,k3,k4,k6⟩:=h3.2 z;rw [hl] at k2;dsimp only at c;refine ⟨hat z,hy z,k2,nA,nA,⟨fun z=>(by cases z),fun _=>⟨c,ht⟩,fun _=>⟨.inl rfl,rfl,rfl⟩,fun z=>absurd z (Int.lt_irrefl 0),(by dsimp only;decide),fun z=>(by cases z),fun z=>absurd z c,fun z=>(by cases z),(by dsimp only;decide),ht⟩⟩
def aan (f:gP->Int->Option ((List jA) × Int × gP))(fu:Nat):Prop:=∀ S nest,PS S->1<=nest->nest<=9->S.l.length+110+2 * (10 - nest)+1<=(fu:Int)->kP (f S nest) (fun r=>jy r fun l r=>jy r fun _ S'=>(Nx S S'/\(S'.e=0->S.a < S'.a/\l.length<=5000/\∀ y ∈ l,Fe S.l.length (11 - nest).toNat y))/\l.length<=5000)
def Yx (f:gP->Int->Option (jA × gP))(fu:Nat):Prop:=∀ S nest,PS S->1<=nest->nest<=8->S.l.length+110+2 * (10 - nest)<=(fu:Int)->kP (f S nest) (fun r=>jy r fun x S'=>TP S.l.length (11 - nest).toNat S x S')
section
variable {fu:Nat}{f:gP->Int->Option ((List jA) × Int × gP)}{g:gP->Int->Option (jA × gP)}
theorem DT (hg:Yx g fu){nest:Int}(h1:1≤nest)(h2:nest≤9){S0:gP}(h0:PS S0)(hf:S0.l.length+110+2 * (10 - nest)+1≤(fu:Int)+1){O:(List jA) × Int × gP→Prop}:∀ (n:Nat)(out:List jA)(S:gP),Nx S0 S→(S.e=0→S0.l.length+1≤n+S.a)→1≤n→(S.e=0→(out.length:Int)≤S.a∧∀ y ∈ out,Fe S0.l.length (11 - nest).toNat y)→out.length≤5000→
  kP (qz fu f g nest n out S.l S.a S.c S.e) (pV (fun r=>jy r fun o r=>jy r fun a r=>jy r fun b r=>jy r fun c d=>(Nx S0 ⟨a,b,c,d⟩/\(d=0->(o.length:Int)<=b/\∀ y ∈ o,Fe S0.l.length (11 - nest).toNat y))/\o.length<=5000) O)
 | 0,out,S,h,hn,hn1,ho,hq=>by omega
 | n+1,out,S,h,hn,_,ho,hq=>by
  have hS:=h.ps h0;have hlen:=h0.tl.len;have hi:=h.hi;have hlo:=hS.lo;rw [qz];refine .ite (fun c=>?_) (fun c=>.go ⟨⟨h,ho⟩,hq⟩);have hn:=hn c;refine .bd (CY hS) fun b hb=>.ite (fun d=>?_) (fun d=>.go ⟨⟨h,ho⟩,hq⟩);refine .bd (Vj hS) fun b hb=>.ite (fun d=>?_) (fun d=>.ite (fun d2=>?_) fun d2=>?_)
  · exact .bd (DK hS (by decide)) fun S1 k=>DT hg h1 h2 h0 hf n out S1 (h.trans k.1) (fun z=>absurd z k.2.1) (by omega) (fun z=>absurd z k.2.1) hq
  · exact .bd (DK hS (by decide)) fun S1 k=>DT hg h1 h2 h0 hf n out S1 (h.trans k.1) (fun z=>absurd z k.2.1) (by omega) (fun z=>absurd z k.2.1) hq
  · refine .bp (hg _ nest hS h1 (by omega) (by dsimp only;rw [h.l];omega)) fun x S1 hx=>?_;have ho:=ho c;refine .bd (.app (by simp only [uX,zh];omega)) fun r hr=>?_;refine DT hg h1 h2 h0 hf n r S1 (h.trans hx.1) (fun z=>?_) (by omega) (fun z=>?_) ?_
    · have:=(hx.2 z).1;dsimp only at this;omega
    · have k1:=(hx.2 z).1;have k2:=(hx.2 z).2;dsimp only at k1 k2;rw [h.l] at k2;subst hr;refine ⟨by simp only [Ic,uX,zh];omega,fun y hy=>?_⟩;rcases qN.1 hy with hy | hy
      · exact ho.2 y hy
      · simp only [qg,Cm,or_false] at hy;subst hy;exact k2
    · subst hr;simp only [Ic,uX,zh];omega
theorem XM (hg:Yx g fu):aan (AX fu f g) (fu+1):=by
 intro S nest h h1 h2 hf;unfold AX;refine .bd (tK h) fun S1 hS1=>?_;have hP:=hS1.1.ps h;have hlo:=h.lo;have hlo1:=hS1.1.lo;have hi1:=hS1.1.hi;refine .el (DT (O:=fun _=>False) hg h1 h2 h (by omega) fu [] S1 hS1.1 (fun _=>by omega) (by omega) (fun _=>⟨by simp only [zh];omega,fun y hy=>by cases hy⟩) (uW _)) (fun s hs=>?_) fun _ z=>z.elim;refine .pp hs fun o r hs=>.pp hs fun a r hs=>.pp hs fun b r hs=>.pp hs fun c d hs=>?_;obtain ⟨hs,hq⟩:=hs;have hP2:=hs.1.ps h;have hJ:kP (yT fu f g a b d) (pV (fun _=>True) (fun _=>False)):=by unfold yT;exact .ite (fun _=>.bd (.ix hP2.lo hP2.hi) fun _ _=>.go kI) fun _=>.go kI
 refine .el hJ (fun ln _=>?_) fun _ z=>z.elim;refine .bd (tK hP2) fun S3 h3=>.mk ⟨⟨hs.1.trans h3.1,fun z=>?_⟩,hq⟩;have k0:=h3.1.e z;have k1:=h3.2 z;have k2:=hs.1.lo;have k3:=hs.2 k0;have k4:=hs.1.hi;have k5:=h.tl.len;dsimp only at k1 k2 k3 k4;exact ⟨by omega,by omega,k3.2⟩
theorem Qh (hf:aan f fu):Yx (uo fu f g) (fu+1):=by
 intro S nest h h1 h2 hfu;have hlo:=h.lo;unfold uo;refine .bd (.ix h.lo h.hi) fun e he=>?_;have hJ:kP (tZ fu f g S e) (pV (fun r=>jy r fun w a=>Nx S ⟨S.l,a,S.c,S.e⟩) (fun _=>False)):=by unfold tZ;refine .bd (Dt h) fun b hb=>.ite (fun d=>.go ?_) fun d=>.go (Nx.rfl' h);obtain ⟨_,_,_,_,hb⟩:=hb;exact Nx.step h (hb d (by decide))
 refine .el hJ (fun s hs=>.pp hs fun w a hs=>?_) fun _ z=>z.elim;have hP:=hs.ps h;have ha:S.a<=a:=hs.lo;have hN:(11 - nest).toNat=(10 - nest).toNat+1:=by omega
 have hn:wr (nest+1)=nest+1:=mg (by omega) (by omega);have hd:(11 - (nest+1)).toNat=(10 - nest).toNat:=by omega
 rw [hN,hn];have blk:∀ S1,Nx S S1->kP (f S1 (nest+1)) (fun r=>jy r fun l r=>jy r fun _ S'=>Nx S1 S'/\(S'.e=0->S1.a < S'.a/\l.length<=5000/\∀ y ∈ l,Fe S.l.length (10 - nest).toNat y)):=fun S1 k=>by have:=hf S1 (nest+1) (k.ps h) (by omega) (by omega) (by rw [k.l];omega);rw [k.l,hd] at this;refine this.imp fun v hv=>?_;obtain ⟨l,b,S2⟩:=v;exact hv.1
 have expr:∀ S1,Nx S S1->kP (mq fu S1 1 0) (fun r=>jy r fun x S'=>Nx S1 S'/\(S'.e=0->S1.a < S'.a/\Ca S.l.length x)):=fun S1 k=>by
   refine ((yc fu).1 S1 1 0 (k.ps h) (by decide) (by decide) (by decide) (by decide) (by rw [k.l];omega)).imp fun v hv=>?_;obtain ⟨x,S2⟩:=v;refine ⟨hv.1,fun z=>⟨(hv.2 z).1,?_⟩⟩;have:=EP.ok (k.ps h) hv z
   rwa [k.l] at this
 have e1:(0:Int) < 0->be=be:=fun _=>rfl;have e2:be≠be->∀ {p:Prop},p:=fun z=>absurd rfl z;refine .ite (fun c=>?_) fun c=>.ite (fun c=>?_) fun c=>.ite (fun c=>?_) fun c=>.ite (fun c=>?_) fun c=>.ite (fun c=>?_) fun c=>.ite (fun c=>?_) fun c=>.ite (fun c=>?_) fun c=>?_
 · -- var
   refine .bp (CS hP) fun n S1 k1=>?_;have q1:=hs.trans k1.1.1;refine .bd (tK (q1.ps h)) fun S2 k2=>?_;have q2:=q1.trans k2.1;refine .bp (XF (q2.ps h) rfl rfl) fun S3 x k3=>?_;have q3:=q2.trans k3.1;refine .bd (tK (q3.ps h)) fun S4 k4=>.mk ⟨q3.trans k4.1,fun z=>?_⟩;have z3:=k4.1.e z;obtain ⟨a1,T,L,rfl,a2,a8⟩:=k3.2 z3;have a3:=q2.lo;have a4:=k4.1.lo;exact ⟨by omega,nA,nA,nA,nA,⟨fun _=>⟨rfl,rfl,rfl,rfl,rfl⟩,fun z=>(by cases z),fun z=>absurd rfl z,a2,(by dsimp only;decide),fun z=>(by cases z),fun _ z=>absurd rfl z,fun z=>(by cases z),a8,fun y hy=>(by cases hy)⟩⟩
 · -- if
   refine .bp (expr _ hs) fun x S1 k1=>?_;have q1:=hs.trans k1.1;refine .bp (blk _ q1) fun l r k2=>.pp k2 fun ln S2 k2=>?_;have q2:=q1.trans k2.1;have fin:∀ S3 l2,Nx S2 S3->(S3.e=0->l2.length<=5000/\∀ y ∈ l2,Fe S.l.length (10 - nest).toNat y)->TP S.l.length ((10 - nest).toNat+1) S ⟨4,e.g,0,be,be,0,0,[],be,0,[x],l,l2⟩ S3:=fun S3 l2 k3 k4=>⟨q2.trans k3,fun z=>by
    have z2:=k3.e z;have z1:=k2.1.e z2;have a1:=k1.2 z1;have a2:=k2.2 z2;have a3:=k3.lo;have a4:=hs.lo;dsimp only at a1 a4;exact ⟨by omega,nA,len1 a1.2 (by decide),a2.2,k4 z,⟨fun z=>(by cases z),fun z=>(by cases z),fun z=>absurd rfl z,e1,(by dsimp only;decide),fun z=>(by cases z),fun _ _ _ _ z=>(by cases z),fun z=>(by cases z),(by dsimp only;decide),fun y hy=>(by cases hy)⟩⟩⟩
   have P2:=q2.ps h;refine .ite (fun d=>?_) fun d=>.mk (fin S2 [] (Nx.rfl' P2) fun _=>nA);refine .bd (CY P2) fun b hb=>.ite (fun d2=>?_) fun d2=>.mk (fin S2 [] (Nx.rfl' P2) fun _=>nA);have ks:=Nx.step P2 (hb d2);exact .bp (blk _ (q2.trans ks)) fun l2 r k3=>.pp k3 fun ln S3 k3=>.mk (fin S3 l2 (ks.trans k3.1) fun z=>(k3.2 z).2)
 · -- while
   refine .bp (expr _ hs) fun x S1 k1=>?_;have q1:=hs.trans k1.1;refine .bp (blk _ q1) fun l r k2=>.pp k2 fun ln S2 k2=>.mk ⟨q1.trans k2.1,fun z=>?_⟩;have z1:=k2.1.e z;have a1:=k1.2 z1;have a2:=k2.2 z;have a4:=hs.lo;dsimp only at a1 a4;exact ⟨by omega,nA,len1 a1.2 (by decide),a2.2,nA,⟨fun z=>(by cases z),fun z=>(by cases z),fun z=>absurd rfl z,e1,(by dsimp only;decide),fun z=>(by cases z),fun _ _ _ _ z=>(by cases z),fun z=>(by cases z),(by dsimp only;decide),fun y hy=>(by cases hy)⟩⟩
 · -- try
   refine .bp (blk _ hs) fun l r k2=>.pp k2 fun ln S2 k2=>?_;have q2:=hs.trans k2.1;refine .bd (tK (q2.ps h)) fun S3 k3=>?_;have q3:=q2.trans k3.1;refine .bp (CS (q3.ps h)) fun n S4 k4=>?_;have q4:=q3.trans k4.1.1;refine .bp (blk _ q4) fun l2 r k5=>.pp k5 fun ln S5 k5=>.mk ⟨q4.trans k5.1,fun z=>?_⟩;have z2:=k3.1.e (k4.1.1.e (k5.1.e z));have a2:=k2.2 z2;have a3:=k5.2 z;have a4:=hs.lo;have a5:=k3.1.lo;have a6:=k4.1.1.lo;dsimp only at a2 a4;exact ⟨by omega,nA,nA,a2.2,a3.2,⟨fun z=>(by cases z),fun z=>(by cases z),fun z=>absurd rfl z,e1,(by dsimp only;decide),fun z=>(by cases z),fun _ _ z=>absurd rfl z,fun z=>(by cases z),(by dsimp only;decide),fun y hy=>(by cases hy)⟩⟩
 · -- return
   refine .bp (GV hP (by dsimp only;omega)) fun S1 x k1=>?_;have q1:=hs.trans k1.1;refine .bd (tK (q1.ps h)) fun S2 k2=>.mk ⟨q1.trans k2.1,fun z=>?_⟩;obtain ⟨a1,f',a',rfl,a2,a3,a4,a8⟩:=k1.2 (k2.1.e z);have a5:=k2.1.lo;have a6:=hs.lo;dsimp only at a1 a6;exact ⟨by omega,nA,a2,nA,nA,⟨fun z=>(by cases z),fun z=>(by cases z),fun _=>⟨.inr rfl,rfl,rfl⟩,e1,(by dsimp only;decide),fun _=>rfl,fun z _ _ _=>a8 z,fun z=>(by cases z),(by dsimp only;decide),fun y hy=>(by cases hy)⟩⟩
 · -- throw
   refine .bp (GV hP (by dsimp only;omega)) fun S1 x k1=>?_;have q1:=hs.trans k1.1;refine .bd (tK (q1.ps h)) fun S2 k2=>.mk ⟨q1.trans k2.1,fun z=>?_⟩;obtain ⟨a1,f',a',rfl,a2,a3,a4,a8⟩:=k1.2 (k2.1.e z);have a5:=k2.1.lo;have a6:=hs.lo;dsimp only at a1 a6;have a7:f'=be:=a3.elim id fun q=>(by cases q);subst a7;exact ⟨by omega,nA,a2,nA,nA,⟨fun z=>(by cases z),fun z=>(by cases z),fun z=>absurd rfl z,e1,(by dsimp only;decide),fun z=>(by cases z),fun z _ _ _=>a8 z,fun z=>(by cases z),(by dsimp only;decide),fun y hy=>(by cases hy)⟩⟩
 · -- print
   refine .bp (GV hP (by dsimp only;omega)) fun S1 x k1=>?_;have q1:=hs.trans k1.1;refine .bd (tK (q1.ps h)) fun S2 k2=>.mk ⟨q1.trans k2.1,fun z=>?_⟩;obtain ⟨a1,f',a',rfl,a2,a3,a4,a8⟩:=k1.2 (k2.1.e z);have a5:=k2.1.lo;have a6:=hs.lo;dsimp only at a1 a6;have a7:f'=be:=a3.elim id fun q=>(by cases q);subst a7;exact ⟨by omega,nA,a2,nA,nA,⟨fun z=>(by cases z),fun z=>(by cases z),fun z=>absurd rfl z,e1,(by dsimp only;decide),fun z=>(by cases z),fun z _ _ _=>a8 z,fun z=>(by cases z),(by dsimp only;decide),fun y hy=>(by cases hy)⟩⟩
 · -- an assignment or a call
   refine .bp (Wl (n:=(10 - nest).toNat) hP (by dsimp only;omega)) fun S1 x k1=>?_;have q1:=hs.trans k1.1;refine .bd (tK (q1.ps h)) fun S2 k2=>.mk ⟨q1.trans k2.1,fun z=>?_⟩;have a1:=k1.2 (k2.1.e z);have a5:=k2.1.lo;have a6:=hs.lo;dsimp only at a1 a6;exact ⟨by omega,a1.2⟩
end
theorem JK:∀ fu:Nat,aan (xO fu) fu∧Yx (xC fu) fu
 | 0=>by refine ⟨fun S a h _ _ hb=>?_,fun S b h _ _ hb=>?_⟩;all_goals have:=h.hi;have:=h.lo;omega
 | fu+1=>⟨XM (JK fu).2,Qh (JK fu).1⟩
theorem JJ {fu:Nat}{c:Int}:kP (rX fu c) (fun _=>True):=by
 unfold rX
 repeat' (first | exact .mk kI | refine .ite (fun _=>?_) fun _=>?_)
theorem Nv {fu:Nat}{c:Int}:kP (vR fu c) (fun _=>True):=by
 unfold vR
 repeat' (first | exact .mk kI | refine .ite (fun _=>?_) fun _=>?_)
theorem Fh {fu:Nat}{s:ByteArray}:∀ (l:List ByteArray)(k:Nat),kP (oZ fu s l k) (pV (fun _=>True) (fun _=>True))
 | [],_=>.go kI
 | u :: r,k=>by rw [oZ];exact .ite (fun _=>.out kI) fun _=>Fh r (k+1)
theorem Rs {fu:Nat}{s:ByteArray}:kP (vF fu s) (fun _=>True):=by unfold vF;exact .eo (Fh _ 0) fun _ _=>.mk kI
theorem M8 {fu:Nat}{s:ByteArray}{at_:Int}(h0:0≤at_)(h1:at_+2≤s.size)(h2:s.size≤4000):∀ (l:List ByteArray)(k:Nat),(∀ u ∈ l,u.size=2)→kP (sP fu s at_ l k) (pV (fun _=>True) (fun r=>r.size=2))
 | [],_,_=>.go kI
 | u :: r,k,hl=>by rw [sP];have hw:wr (at_+2)=at_+2:=mg (by omega) (by omega);rw [hw];refine .bd (.Vx (by omega)) fun g hg=>.ite (fun _=>.out (hl u (.head _))) fun _=>M8 h0 h1 h2 r (k+1) fun u hu=>hl u (.tail _ hu)
theorem MB {fu:Nat}{s:ByteArray}{at_:Int}(h0:0≤at_)(h1:at_ < s.size)(h2:s.size≤4000):∀ (l:List Ie)(k:Nat),kP (sV fu s at_ l k) (pV (fun _=>True) (fun r=>r.size=1))
 | [],_=>.go kI
 | u :: r,k=>by rw [sV];have hw:wr (at_+1)=at_+1:=mg (by omega) (by omega);rw [hw];refine .bd (.ixs h0 h1) fun c hc=>.ite (fun _=>?_) fun _=>MB h0 h1 h2 r (k+1);refine .bd (.Vx (by omega)) fun g hg=>.out ?_;subst hg;rw [ByteArray.size_extract];omega
theorem abQ {fu:Nat}{s:ByteArray}{at_:Int}(h0:0<=at_)(h1:at_ < s.size)(h2:s.size<=4000):kP (Bz fu s at_) (fun r=>r≠(⟨#[]⟩:ByteArray)->1<=r.size/\at_+r.size<=s.size):=by
 unfold Bz;have hw:wr (at_+1)=at_+1:=mg (by omega) (by omega);have hJ:kP (zN fu s at_) (pV (fun _=>True) (fun r=>r.size=2/\at_+2<=s.size)):=by unfold zN;rw [hw];refine .ite (fun c=>?_) fun _=>.go kI;refine .el (M8 h0 (by omega) h2 _ 0 ?_) (fun _ _=>.go kI) fun o ho=>.out ⟨ho,by omega⟩;decide
 refine .el hJ (fun _ _=>?_) fun o ho=>.mk fun _=>by omega
 exact .el (MB h0 h1 h2 _ 0) (fun _ _=>.mk fun z=>absurd rfl z) fun o ho=>.mk fun _=>by omega
theorem Mt {fu:Nat}{s:ByteArray}(h2:s.size≤4000){O:Int × Int→Prop}:∀ (n:Nat)(at_:Int),0≤at_→at_≤s.size→s.size+1≤n+at_→kP (sQ fu s n at_) (pV (fun a=>at_≤a∧a≤s.size) O)
 | 0,a,h0,h1,hn=>by omega
 | n+1,a,h0,h1,hn=>by
  rw [sQ];refine .ite (fun c=>?_) fun c=>.go ⟨vG _,h1⟩;have hw:wr (a+1)=a+1:=mg (by omega) (by omega);rw [hw];refine .bd (.ixs h0 c) fun x hx=>.ite (fun _=>?_) fun _=>.go ⟨vG _,h1⟩;refine (Mt (O:=O) h2 n (a+1) (by omega) (by omega) (by omega)).imp fun v hv=>?_;obtain v | v:=v
  · exact ⟨by have:=hv.1;omega,hv.2⟩
  · exact hv
theorem Mw {fu:Nat}{s:ByteArray}(h2:s.size≤4000)(hf:4001≤fu):∀ (n:Nat)(at_ line:Int),0≤at_→at_≤s.size→s.size+1≤n+at_→kP (qj fu s n at_ line) (pV (fun r=>jy r fun a _=>at_≤a∧a≤s.size) (fun r=>jy r fun a _=>at_≤a∧a≤s.size))
 | 0,a,ln,h0,h1,hn=>by omega
 | n+1,a,ln,h0,h1,hn=>by
  rw [qj];refine .ite (fun c=>?_) fun c=>.go ⟨vG _,h1⟩;have hw:wr (a+1)=a+1:=mg (by omega) (by omega);refine kP.Xh (.ixs h0 c) fun x hx0 hx=>?_;have hJ:kP (zJ fu s a x) (pV (fun b=>b=true->x=47) (fun _=>False)):=by unfold zJ;rw [hw];refine .ite (fun c=>?_) fun c=>.go fun z=>(by cases z);exact .ite (fun c2=>.bd (.ixs (by omega) c2) fun y _=>.go fun _=>c) fun _=>.go fun z=>(by cases z)
  have up:∀ (b l2:Int),a < b->b<=s.size->kP (qj fu s n b l2) (pV (fun r=>jy r fun a' _=>a<=a'/\a'<=s.size) (fun r=>jy r fun a' _=>a<=a'/\a'<=s.size)):=fun b l2 k1 k2=>by
    refine (Mw h2 hf n b l2 (by omega) k2 (by omega)).imp fun v hv=>?_;obtain v | v:=v
    all_goals
     obtain ⟨p,q⟩:=v;exact ⟨by have:=hv.1;omega,hv.2⟩
  refine .el hJ (fun b hb=>?_) fun _ z=>z.elim;refine .ite (fun d=>?_) fun d=>?_
  · -- the comment's first byte is no end of a line
    obtain ⟨fu',rfl⟩:∃ k,fu=k+1:=⟨fu - 1,by omega⟩;have hx47:=hb d;rw [sQ,lX c,hx0];show kP (Option.bind (if x≠10 then _ else _) _) _;rw [lX (by omega),hw];exact .Fa (Mt h2 fu' (a+1) (by omega) (by omega) (by omega)) fun b hb=>up b ln (by omega) hb.2
  · have hJ3:kP (zL fu a ln x) (pV (fun _=>True) (fun r=>jy r fun a' _=>a<=a'/\a'<=s.size)):=by
     unfold zL
     repeat' (first | exact .go kI | exact .out ⟨vG _,h1⟩ | refine .ite (fun _=>?_) fun _=>?_)
    refine .Fa hJ3 fun _ _=>?_;rw [hw];exact .ite (fun _=>up _ _ (by omega) (by omega)) fun _=>up _ _ (by omega) (by omega)
theorem VK {fu:Nat}{s:ByteArray}{at_ line:Int}(h2:s.size<=4000)(hf:4001<=fu)(h0:0<=at_)(h1:at_<=s.size):kP (zy fu s at_ line) (fun r=>jy r fun a _=>at_<=a/\a<=s.size):=by unfold zy;exact .eo (Mw h2 hf fu at_ line h0 h1 (by omega)) fun r hs=>.pp hs fun a b hs=>.mk hs
theorem VT {fu:Nat}{s:ByteArray}{a:Int}(h0:0<=a):kP (vW fu s a) (pV (fun b=>b=true->a < s.size) (fun _=>False)):=by unfold vW;refine .ite (fun c=>?_) fun c=>.go fun z=>(by cases z);refine .bd (.ixs h0 c) fun x hx=>.bd JJ fun b _=>.ite (fun _=>.go fun _=>c) fun _=>?_;exact .bd (.ixs h0 c) fun x hx=>.bd Nv fun b _=>.go fun _=>c
theorem Qf {fu:Nat}{s:ByteArray}(h2:s.size≤4000){O:kM × Int × Int→Prop}:∀ (n:Nat)(a:Int),0≤a→a≤s.size→s.size+1≤n+a→kP (qR fu s n a) (pV (fun b=>a≤b∧b≤s.size) O)
 | 0,a,h0,h1,hn=>by omega
 | n+1,a,h0,h1,hn=>by
  rw [qR];refine .el (VT h0) (fun b hb=>?_) fun _ z=>z.elim;refine .ite (fun c=>?_) fun c=>.go ⟨vG _,h1⟩;have:=hb c;have hw:wr (a+1)=a+1:=mg (by omega) (by omega);rw [hw];refine (Qf (O:=O) h2 n (a+1) (by omega) (by omega) (by omega)).imp fun v hv=>?_;obtain v | v:=v
  · exact ⟨by have:=hv.1;omega,hv.2⟩
  · exact hv
theorem OZ {fu:Nat}{s:ByteArray}{at_:Int}(h2:s.size≤4000)(h3:0≤at_){O:kM × Int × Int→Prop}:∀ (n:Nat)(a m:Int),at_≤a→a≤s.size→s.size+1≤n+a→kP (oQ fu s at_ n a m) (pV (fun r=>jy r fun b _=>a≤b∧b≤s.size) O)
 | 0,a,m,h0,h1,hn=>by omega
 | n+1,a,m,h0,h1,hn=>by
  rw [oQ];refine .ite (fun c=>?_) fun c=>.go ⟨vG _,h1⟩;refine .bd (.ixs (by omega) c) fun x hx=>.bd Nv fun b _=>.ite (fun _=>?_) fun c=>.go ⟨vG _,h1⟩;have hw:wr (a+1)=a+1:=mg (by omega) (by omega);rw [hw];have up:∀ m2:Int,kP (oQ fu s at_ n (a+1) m2) (pV (fun r=>jy r fun b _=>a<=b/\b<=s.size) O):=fun m2=>by
   refine (OZ (O:=O) h2 h3 n (a+1) m2 (by omega) (by omega) (by omega)).imp fun v hv=>?_;obtain v | v:=v
   · obtain ⟨p,q⟩:=v;exact ⟨by have:=hv.1;omega,hv.2⟩
   · exact hv
  exact .ite (fun _=>.bd (.ixs (by omega) c) fun _ _=>up _) fun _=>up _
theorem acX {fu:Nat}{s:ByteArray}{at_ line:Int}(h2:s.size<=4000)(hf:4001<=fu)(h0:0<=at_)(h1:at_ < s.size):kP (Dh fu s at_ line) (fun r=>jy r fun t r=>jy r fun nx e=>e=0->at_ < nx/\nx<=s.size/\(t.b=1->t.a≠(⟨#[]⟩:ByteArray))):=by
 unfold Dh;have bad:∀ (t:kM)(n e:Int),e≠0->kP (some (t,n,e)) (fun r=>jy r fun t r=>jy r fun nx e=>e=0->at_ < nx/\nx<=s.size/\(t.b=1->t.a≠(⟨#[]⟩:ByteArray))):=fun t n e he=>.mk fun z=>absurd z he;obtain ⟨fu',rfl⟩:∃ k,fu=k+1:=⟨fu - 1,by omega⟩;have hw:wr (at_+1)=at_+1:=mg (by omega) (by omega);refine kP.Xh (.ixs h0 h1) fun x hx0 hx=>kP.Xh JJ fun b hb _=>.ite (fun c=>?_) fun c=>?_
 · have hL:kP (qR (fu'+1) s (fu'+1) at_) (pV (fun b=>at_ < b/\b<=s.size) (fun _=>False)):=by
    rw [qR];have hJ:vW (fu'+1) s at_=some (.go true):=by unfold vW;rw [lX h1,hx0];show Option.bind (rX (fu'+1) x) _=_;rw [hb,c];rfl
    rw [hJ];show kP (if true=true then qR (fu'+1) s fu' (wr (at_+1)) else some (.go at_)) _;rw [lX rfl,hw];refine (Qf (O:=fun _=>False) h2 fu' (at_+1) (by omega) (by omega) (by omega)).imp fun v hv=>?_;obtain v | v:=v
    · exact ⟨by have:=hv.1;omega,hv.2⟩
    · exact hv
   refine .el hL (fun a ha=>?_) fun _ z=>z.elim;refine .ite (fun _=>bad _ _ _ (by decide)) fun _=>?_;refine .bd (.Vx (by omega)) fun g hg=>.bd Rs fun b _=>?_;refine .ite (fun _=>.mk fun _=>⟨ha.1,ha.2,fun z=>(by cases z)⟩) fun _=>.mk fun _=>⟨ha.1,ha.2,fun _ z=>?_⟩;have z2:=congrArg ByteArray.size z;dsimp only at z2;rw [hg,ByteArray.size_extract] at z2;have z3:(⟨#[]⟩:ByteArray).size=0:=rfl;omega
 refine kP.Xh (.ixs h0 h1) fun x2 hx2 _=>kP.Xh Nv fun b2 hb2 _=>.ite (fun c2=>?_) fun c2=>?_
 · have hL:kP (oQ (fu'+1) s at_ (fu'+1) at_ 0) (pV (fun r=>jy r fun b _=>at_ < b/\b<=s.size) (fun _=>False)):=by
    rw [oQ,lX h1,hx2,Option.bind_some,hb2,Option.bind_some,lX c2,hw];have up:∀ m2:Int,kP (oQ (fu'+1) s at_ fu' (at_+1) m2) (pV (fun r=>jy r fun b _=>at_ < b/\b<=s.size) (fun _=>False)):=fun m2=>by
      refine (OZ (O:=fun _=>False) h2 h0 fu' (at_+1) m2 (by omega) (by omega) (by omega)).imp fun v hv=>?_;obtain v | v:=v
      · obtain ⟨p,q⟩:=v;exact ⟨by have:=hv.1;omega,hv.2⟩
      · exact hv
    exact .ite (fun _=>up _) fun _=>up _
   refine .el hL (fun r hs=>.pp hs fun a m ha=>?_) fun _ z=>z.elim;refine .ite (fun _=>bad _ _ _ (by decide)) fun _=>?_;have hJ:kP (Bq (fu'+1) s a) (pV (fun _=>True) (fun r=>jy r fun t r=>jy r fun nx e=>e≠0)):=by unfold Bq;refine .ite (fun c=>?_) fun _=>.go kI;exact .bd (.ixs (by omega) c) fun _ _=>.bd JJ fun _ _=>.ite (fun _=>.out (show (6:Int)≠0 by decide)) fun _=>.go kI
   refine .el hJ (fun _ _=>.mk fun _=>⟨ha.1,ha.2,fun z=>(by cases z)⟩) fun o ho=>.mk ?_;obtain ⟨t,n,e⟩:=o;exact fun z=>absurd z ho
 refine .bd (abQ h0 h1 h2) fun g hg=>.ite (fun _=>bad _ _ _ (by decide)) fun c3=>.mk fun _=>?_;have:=hg c3;have hw2:wr (at_+((g.size:Nat):Int))=at_+g.size:=mg (by omega) (by omega);rw [hw2];exact ⟨by omega,by omega,fun z=>(by cases z)⟩
def Nm (l:List kM):Prop:=∀ (k:Nat)(t:kM),l[k]?=some t->t.b=1->t.a≠(⟨#[]⟩:ByteArray)
theorem Nm.app {l:List kM}(h:Nm l){t:kM}(ht:t.b=1->t.a≠(⟨#[]⟩:ByteArray)):Nm (l ++ [t]):=fun k t' hk=>by
 rw [List.getElem?_append] at hk;split at hk
 · exact h k t' hk
 · have:k - l.length=0:=by have:=kN hk;simp only [uX,zh] at this;omega
   rw [this] at hk;obtain rfl:=JY hk;exact ht
theorem MR {fu:Nat}{s:ByteArray}(h2:s.size≤4000)(hf:4001≤fu):∀ (n:Nat)(a line:Int)(l:List kM),0≤a→a≤s.size→s.size+1≤n+a→l.length≤2000→Nm l→kP (uI fu s n a line l) (pV (fun r=>jy r fun _ r=>jy r fun _ l=>l.length≤2000∧Nm l) (fun r=>jy r fun _ r=>jy r fun _ e=>e≠0))
 | 0,a,ln,l,h0,h1,hn,hl,hm=>by omega
 | n+1,a,ln,l,h0,h1,hn,hl,hm=>by
  rw [uI];refine .ite (fun c=>?_) fun c=>.go ⟨hl,hm⟩;refine .bp (acX h2 hf h0 c) fun t r ht=>.pp ht fun nx e ht=>?_;have hJ:kP (Aq fu l e) (pV (fun e'=>e'=0->e=0/\l.length < 2000) (fun _=>False)):=by unfold Aq;refine .ite (fun c=>?_) fun c=>.go fun z=>absurd z c;exact .ite (fun c=>.go fun z=>(by cases z)) fun c2=>.go fun _=>⟨c,by omega⟩
  refine .el hJ (fun e' he=>?_) fun _ z=>z.elim;refine .ite (fun d=>.out d) fun d=>?_;have he:=he (by omega);have ht:=ht he.1;refine .bd (.app (by simp only [uX,zh];omega)) fun r hr=>?_;refine .bp (VK h2 hf (by omega) ht.2.1) fun a2 ln2 ha=>?_;subst hr;exact MR h2 hf n a2 ln2 _ (by omega) ha.2 (by omega) (by simp only [Ic,uX,zh];omega) (hm.app ht.2.2)
theorem ZY {fu:Nat}{s:ByteArray}(hf:4001<=fu):kP (BL fu s) (fun r=>jy r fun l r=>jy r fun _ e=>e=0->TL l/\1<=l.length/\l.length<=2001):=by
 unfold BL;refine .ite (fun c=>.mk fun z=>(by cases z)) fun c=>?_;have h2:s.size<=4000:=by omega
 refine .bp (VK h2 hf (vG _) (by omega)) fun a ln ha=>?_;refine .el (MR h2 hf fu a ln [] ha.1 ha.2 (by omega) (by decide) fun k t hk=>(by cases hk)) (fun r hs=>.pp hs fun _ r hs=>.pp hs fun b l hs=>?_) fun o ho=>?_
 · refine .bd (.app (by simp only [uX,zh];omega)) fun r hr=>.mk fun _=>?_;subst hr;refine ⟨⟨by simp only [Ic,uX,zh];omega,fun k t hk ht=>?_,hs.2.app fun z=>(by cases z)⟩,by simp only [Ic,uX,zh];omega,by simp only [Ic,uX,zh];omega⟩;simp only [Ic,uX,zh] at hk;obtain rfl:k=l.length:=by omega
   rw [Gw (ng _),Nat.sub_self] at ht;obtain rfl:=JY ht;rfl
 · obtain ⟨l,b,e⟩:=o;exact .mk fun z=>absurd z ho
structure Zl (N:Nat)(f:kT):Prop where
 b:f.a.length<=5000
 body:f.d.length<=5001
 el:∀ y ∈ f.d,Fe N 10 y
 en:∃ l e,f.d=l ++ [e]/\e.b=10
structure XC (N:Nat)(p:jT):Prop where
 recs:p.a.length<=5000
 fields:∀ r ∈ p.a,r.a.length<=5000
 e:p.b.length<=5000
 el:∀ f ∈ p.b,Zl N f
theorem Fe.WC {E F:Nat}(h:E≤F):∀ {n:Nat}{x:jA},Fe E n x→Fe F n x
 | 0,_,k=>k.elim
 | n+1,x,k=>⟨⟨k.1.1,fun y hy=>(k.1.2 y hy).mono h⟩,⟨k.2.1.1,fun y hy=>(k.2.1.2 y hy).mono h⟩,⟨k.2.2.1.1,fun y hy=>Fe.WC h (k.2.2.1.2 y hy)⟩,⟨k.2.2.2.1.1,fun y hy=>Fe.WC h (k.2.2.2.1.2 y hy)⟩,k.2.2.2.2⟩
theorem XC.mono {E F:Nat}{p:jT}(k:XC E p)(h:E<=F):XC F p:=⟨k.recs,k.fields,k.e,fun f hf=>⟨(k.el f hf).b,(k.el f hf).body,fun y hy=>((k.el f hf).el y hy).WC h,(k.el f hf).en⟩⟩
theorem oF {α:Type}{p:α->Prop}{l:List α}{x:α}(h:∀ y ∈ l,p y)(hx:p x):∀ y ∈ l ++ [x],p y:=fun y hy=>by
 rcases qN.1 hy with hy | hy
 · exact h y hy
 · simp only [qg,Cm,or_false] at hy;subst hy;exact hx
theorem kV {α:Type}{l:List α}{x:α}:(l ++ [x]).length=l.length+1:=by simp only [Ic,uX,zh]
theorem GR {fu:Nat}{S0:gP}(h0:PS S0)(hf:S0.l.length+200≤fu){O:jT × gP→Prop}:∀ (n:Nat)(out:List kg)(S:gP),Nx S0 S→(S.e=0→S0.l.length+1≤n+S.a)→1≤n→(S.e=0→(out.length:Int)≤S.a∧∀ r ∈ out,r.a.length≤5000)→
  kP (rC fu n out S.l S.a S.c S.e) (pV (fun r=>jy r fun o r=>jy r fun a r=>jy r fun b r=>jy r fun c d=>Nx S0 ⟨a,b,c,d⟩/\(d=0->(o.length:Int)<=b/\∀ r ∈ o,r.a.length<=5000)) O)
 | 0,out,S,h,hn,hn1,ho=>by omega
 | n+1,out,S,h,hn,_,ho=>by have hS:=h.ps h0;have hlen:=h0.tl.len;have hi:=h.hi;have hlo:=hS.lo;rw [rC];refine .ite (fun c=>?_) (fun c=>.go ⟨h,ho⟩);have hn:=hn c;have ho:=ho c;refine .bd (CY hS) fun b hb=>.ite (fun d=>?_) (fun d=>.go ⟨h,fun _=>ho⟩);have q0:=h.trans (Nx.step hS (hb d));have hw:wr (S.a+1)=S.a+1:=hS.QF;refine .bp (CS (q0.ps h0)) fun nm S1 k1=>?_;have q1:=q0.trans k1.1.1;refine .bd (tK (q1.ps h0)) fun S2 k2=>?_;have q2:=q1.trans k2.1;refine .bp (SG (q2.ps h0) (by rw [q2.l];omega)) fun fs S3 k3=>?_;have q3:=q2.trans k3.1;refine .bd (tK (q3.ps h0)) fun S4 k4=>?_;have q4:=q3.trans k4.1;refine .bd (.app (by simp only [uX,zh];omega)) fun r hr=>?_;have a0:=k1.1.1.lo;have a1:=k2.1.lo;have a2:=k3.1.lo;have a3:=k4.1.lo;have a4:=q4.hi;dsimp only at a0;rw [hw] at a0;subst hr;refine GR h0 hf n _ S4 q4 (fun z=>by omega) (by omega) fun z=>?_;have a5:=k3.2 (k4.1.e z);exact ⟨by rw [kV];omega,oF ho.2 a5.1⟩
theorem Hw {fu:Nat}{S0:gP}(h0:PS S0)(hf:S0.l.length+200≤fu){O:jT × gP→Prop}:∀ (n:Nat)(out:List kT)(S:gP),Nx S0 S→(S.e=0→S0.l.length+1≤n+S.a)→1≤n→(S.e=0→(out.length:Int)≤S.a∧∀ f ∈ out,Zl S0.l.length f)→
  kP (rA fu n out S.l S.a S.c S.e) (pV (fun r=>jy r fun o r=>jy r fun a r=>jy r fun b r=>jy r fun c d=>(Nx S0 ⟨a,b,c,d⟩/\(d=0->(o.length:Int)<=b/\∀ f ∈ o,Zl S0.l.length f))/\(d=0->S.e=0)) O)
 | 0,out,S,h,hn,hn1,ho=>by omega
 | n+1,out,S,h,hn,_,ho=>by
  have hS:=h.ps h0;have hlen:=h0.tl.len;have hi:=h.hi;have hlo:=hS.lo;rw [rA];refine .ite (fun c=>?_) (fun c=>.go ⟨⟨h,ho⟩,id⟩);have hn:=hn c;have ho:=ho c;refine .bd (CY hS) fun b hb=>.ite (fun d=>?_) (fun d=>.go ⟨⟨h,fun _=>ho⟩,id⟩);refine .bd (.ix hS.lo hS.hi) fun e he=>?_;have q0:=h.trans (Nx.step hS (hb d));have hw:wr (S.a+1)=S.a+1:=hS.QF;refine .bp (CS (q0.ps h0)) fun nm S1 k1=>?_;have q1:=q0.trans k1.1.1;refine .bd (tK (q1.ps h0)) fun S2 k2=>?_;have q2:=q1.trans k2.1;have P2:=q2.ps h0;have hJ:kP (vY fu S2) (pV (fun r=>jy r fun o r=>jy r fun a r=>jy r fun b r=>jy r fun c d=>Nx S2 ⟨a,b,c,d⟩/\(d=0->o.length<=5000)) (fun _=>False)):=by unfold vY;refine .ite (fun c=>?_) fun c=>.go ⟨Nx.rfl' P2,fun _=>uW _⟩;refine .bd (CY P2) fun b hb=>.ite (fun d=>?_) fun d=>.go ⟨Nx.rfl' P2,fun _=>uW _⟩;exact .bp (SG P2 (by rw [q2.l];omega)) fun l S3 k3=>.go ⟨k3.1,fun z=>(k3.2 z).1⟩
  refine .el hJ (fun s hs=>?_) fun _ z=>z.elim;refine .pp hs fun ps r hs=>.pp hs fun x1 r hs=>.pp hs fun x2 r hs=>.pp hs fun x3 x4 hs=>?_;have q3:=q2.trans hs.1;refine .bd (tK (q3.ps h0)) fun S4 k4=>?_;have q4:=q3.trans k4.1;refine .bp ((JK fu).1 S4 1 (q4.ps h0) (by decide) (by decide) (by rw [q4.l];omega)) fun l r k5=>.pp k5 fun ln S5 k5=>?_;obtain ⟨k5,hq⟩:=k5;have q5:=q4.trans k5.1;have a0:=k1.1.1.lo;have a1:=k2.1.lo;have a2:=hs.1.lo;have a3:=k4.1.lo;have a4:=k5.1.lo;have a5:=q5.hi;dsimp only at a0 a2 a3;rw [hw] at a0;refine .bd (.app (by simp only [uX,zh];omega)) fun bd hbd=>?_;refine .bd (.app (by simp only [uX,zh];omega)) fun r hr=>?_;subst hr hbd;refine (Hw (O:=O) h0 hf n _ S5 q5 (fun z=>by omega) (by omega) fun z=>?_).imp fun v hv=>?_;rotate_left
  · obtain v | v:=v
    · obtain ⟨o,a,b,c',d⟩:=v;exact ⟨hv.1,fun _=>c⟩
    · exact hv
  have z4:=k5.1.e z;have a6:=k5.2 z;rw [q4.l] at a6;refine ⟨by rw [kV];omega,oF ho.2 ⟨hs.2 (k4.1.e z4),by rw [kV];omega,oF a6.2.2 ?_,⟨_,_,rfl,rfl⟩⟩⟩;exact ⟨nA,nA,nA,nA,⟨fun z=>(by cases z),fun z=>(by cases z),fun z=>absurd rfl z,fun _=>rfl,(by dsimp only;decide),fun z=>(by cases z),fun _ _ _ z=>absurd rfl z,fun z=>(by cases z),(by dsimp only;decide),fun y hy=>(by cases hy)⟩⟩
theorem Uh {fu:Nat}{S:gP}(h:PS S)(hf:S.l.length+200<=fu):kP (wV fu S) (fun r=>jy r fun p S'=>(S'.e=0->XC S.l.length p)):=by unfold wV;have hlo:=h.lo;refine .el (GR (O:=fun _=>False) h hf fu [] S (Nx.rfl' h) (fun _=>by omega) (by omega) fun _=>⟨hlo,fun r hr=>(by cases hr)⟩) (fun s hs=>?_) fun _ z=>z.elim;refine .pp hs fun rs r hs=>.pp hs fun a r hs=>.pp hs fun b r hs=>.pp hs fun c d hs=>?_;have P1:=hs.1.ps h;have b0:=P1.lo;have b1:=hs.1.hi;dsimp only at b0 b1;refine .el (Hw (O:=fun _=>False) h hf fu [] ⟨a,b,c,d⟩ hs.1 (fun _=>by dsimp only;omega) (by omega) fun _=>⟨b0,fun r hr=>(by cases hr)⟩) (fun s hs2=>?_) fun _ z=>z.elim;refine .pp hs2 fun fs r hs2=>.pp hs2 fun a2 r hs2=>.pp hs2 fun b2 r hs2=>.pp hs2 fun c2 d2 hs2=>?_;obtain ⟨hs2,hd⟩:=hs2;have P2:=hs2.1.ps h;have hlen:=h.tl.len;have b3:=hs2.1.hi;dsimp only at b3;refine .ite (fun z=>?_) fun z=>.mk fun y=>absurd y z;have r1:=hs.2 (hd z);have r2:=hs2.2 z;have ok:XC S.l.length ⟨rs,fs⟩:=⟨by dsimp only;omega,r1.2,by dsimp only;omega,r2.2⟩;refine .bd (Dt P2) fun b hb=>.ite (fun _=>?_) fun _=>.mk fun _=>ok;exact .bd (DK P2 (by decide)) fun S3 h3=>.mk fun y=>absurd y h3.2.1
theorem XW {fu:Nat}{s:ByteArray}(hf:5300<=fu):kP (xU fu s) (fun r=>jy r fun p r=>jy r fun _ e=>e=0->XC 5000 p):=by unfold xU;refine .bp (ZY (by omega)) fun l r hl=>.pp hl fun ln e hl=>?_;refine .ite (fun c=>.mk fun z=>absurd z c) fun c=>?_;obtain ⟨h1,h2,h3⟩:=hl (by omega);refine .bp (Uh (S:=⟨l,0,0,0⟩) ⟨h1,Int.le_refl _,by dsimp only;omega⟩ (by dsimp only;omega)) fun p S hp=>?_;refine .ite (fun c=>.mk fun z=>absurd z c) fun c=>.mk fun _=>?_;have:=hp (by omega);dsimp only at this;exact this.mono (by omega)
end Go.Proofs.YtdkneekpdecjbaaGreat
