/- The parser of the specification answers for any text; what it answers is a program. -/
import Derived.Test.YtdkneekpdecjbaaGreatZ9
set_option linter.unusedVariables false
set_option linter.unusedSimpArgs false
namespace Go.Proofs.YtdkneekpdecjbaaGreat
open Go.RowKit Go.Fw Go.Proofs.Tryz
structure YJ (N:Nat)(f:kN):Prop where
 b:f.a.length<=5000
 body:f.d.length<=5001
 el:∀ y ∈ f.d,DL N 10 y
 en:∃ l e,f.d=l ++ [e]/\e.b=10
structure Vl (N:Nat)(p:jV):Prop where
 recs:p.a.length<=5000
 fields:∀ r ∈ p.a,r.a.length<=5000
 e:p.b.length<=5000
 el:∀ f ∈ p.b,YJ N f
theorem DL.Xa {E F:Nat}(h:E≤F):∀ {n:Nat}{x:jA},DL E n x→DL F n x
 | 0,_,k=>k.elim
 | n+1,x,k=>⟨⟨k.1.1,fun y hy=>(k.1.2 y hy).mono h⟩,⟨k.2.1.1,fun y hy=>(k.2.1.2 y hy).mono h⟩,⟨k.2.2.1.1,fun y hy=>DL.Xa h (k.2.2.1.2 y hy)⟩,⟨k.2.2.2.1.1,fun y hy=>DL.Xa h (k.2.2.2.1.2 y hy)⟩,k.2.2.2.2⟩
theorem Vl.mono {E F:Nat}{p:jV}(k:Vl E p)(h:E<=F):Vl F p:=⟨k.recs,k.fields,k.e,fun f hf=>⟨(k.el f hf).b,(k.el f hf).body,fun y hy=>((k.el f hf).el y hy).Xa h,(k.el f hf).en⟩⟩
theorem oQ {α:Type}{p:α->Prop}{l:List α}{x:α}(h:∀ y ∈ l,p y)(hx:p x):∀ y ∈ l ++ [x],p y:=fun y hy=>by
 rcases pX.1 hy with hy | hy
 · exact h y hy
 · simp only [oM,CF,or_false] at hy;subst hy;exact hx
theorem kr {α:Type}{l:List α}{x:α}:(l ++ [x]).length=l.length+1:=by simp only [Ij,uK,xX]
theorem Hg {fu:Nat}{S0:iA}(h0:PS S0)(hf:S0.l.length+200≤fu){O:jV × iA→Prop}:∀ (n:Nat)(out:List kg)(S:iA),Nx S0 S→(S.e=0→S0.l.length+1≤n+S.a)→1≤n→(S.e=0→(out.length:Int)≤S.a∧∀ r ∈ out,r.a.length≤5000)→
  kS (rH fu n out S.l S.a S.c S.e) (qg (fun r=>jy r fun o r=>jy r fun a r=>jy r fun b r=>jy r fun c d=>Nx S0 ⟨a,b,c,d⟩/\(d=0->(o.length:Int)<=b/\∀ r ∈ o,r.a.length<=5000)) O)
 | 0,out,S,h,hn,hn1,ho=>by omega
 | n+1,out,S,h,hn,_,ho=>by have hS:=h.ps h0;have hlen:=h0.tl.len;have hi:=h.hi;have hlo:=hS.lo;rw [rH];refine .ite (fun c=>?_) (fun c=>.go ⟨h,ho⟩);have hn:=hn c;have ho:=ho c;refine .bd (DF hS) fun b hb=>.ite (fun d=>?_) (fun d=>.go ⟨h,fun _=>ho⟩);have q0:=h.trans (Nx.step hS (hb d));have hw:wr (S.a+1)=S.a+1:=hS.Rx;refine .bp (Dg (q0.ps h0)) fun nm S1 k1=>?_;have q1:=q0.trans k1.1.1;refine .bd (uh (q1.ps h0)) fun S2 k2=>?_;have q2:=q1.trans k2.1;refine .bp (Ub (q2.ps h0) (by rw [q2.l];omega)) fun fs S3 k3=>?_;have q3:=q2.trans k3.1;refine .bd (uh (q3.ps h0)) fun S4 k4=>?_;have q4:=q3.trans k4.1;refine .bd (.app (by simp only [uK,xX];omega)) fun r hr=>?_;have a0:=k1.1.1.lo;have a1:=k2.1.lo;have a2:=k3.1.lo;have a3:=k4.1.lo;have a4:=q4.hi;dsimp only at a0;rw [hw] at a0;subst hr;refine Hg h0 hf n _ S4 q4 (fun z=>by omega) (by omega) fun z=>?_;have a5:=k3.2 (k4.1.e z);exact ⟨by rw [kr];omega,oQ ho.2 a5.1⟩
theorem Ip {fu:Nat}{S0:iA}(h0:PS S0)(hf:S0.l.length+200≤fu){O:jV × iA→Prop}:∀ (n:Nat)(out:List kN)(S:iA),Nx S0 S→(S.e=0→S0.l.length+1≤n+S.a)→1≤n→(S.e=0→(out.length:Int)≤S.a∧∀ f ∈ out,YJ S0.l.length f)→
  kS (rF fu n out S.l S.a S.c S.e) (qg (fun r=>jy r fun o r=>jy r fun a r=>jy r fun b r=>jy r fun c d=>(Nx S0 ⟨a,b,c,d⟩/\(d=0->(o.length:Int)<=b/\∀ f ∈ o,YJ S0.l.length f))/\(d=0->S.e=0)) O)
 | 0,out,S,h,hn,hn1,ho=>by omega
 | n+1,out,S,h,hn,_,ho=>by
  have hS:=h.ps h0;have hlen:=h0.tl.len;have hi:=h.hi;have hlo:=hS.lo;rw [rF];refine .ite (fun c=>?_) (fun c=>.go ⟨⟨h,ho⟩,id⟩);have hn:=hn c;have ho:=ho c;refine .bd (DF hS) fun b hb=>.ite (fun d=>?_) (fun d=>.go ⟨⟨h,fun _=>ho⟩,id⟩);refine .bd (.ix hS.lo hS.hi) fun e he=>?_;have q0:=h.trans (Nx.step hS (hb d));have hw:wr (S.a+1)=S.a+1:=hS.Rx;refine .bp (Dg (q0.ps h0)) fun nm S1 k1=>?_;have q1:=q0.trans k1.1.1;refine .bd (uh (q1.ps h0)) fun S2 k2=>?_;have q2:=q1.trans k2.1;have P2:=q2.ps h0;have hJ:kS (wB fu S2) (qg (fun r=>jy r fun o r=>jy r fun a r=>jy r fun b r=>jy r fun c d=>Nx S2 ⟨a,b,c,d⟩/\(d=0->o.length<=5000)) (fun _=>False)):=by unfold wB;refine .ite (fun c=>?_) fun c=>.go ⟨Nx.rfl' P2,fun _=>uN _⟩;refine .bd (DF P2) fun b hb=>.ite (fun d=>?_) fun d=>.go ⟨Nx.rfl' P2,fun _=>uN _⟩;exact .bp (Ub P2 (by rw [q2.l];omega)) fun l S3 k3=>.go ⟨k3.1,fun z=>(k3.2 z).1⟩
  refine .el hJ (fun s hs=>?_) fun _ z=>z.elim;refine .pp hs fun ps r hs=>.pp hs fun x1 r hs=>.pp hs fun x2 r hs=>.pp hs fun x3 x4 hs=>?_;have q3:=q2.trans hs.1;refine .bd (uh (q3.ps h0)) fun S4 k4=>?_;have q4:=q3.trans k4.1;refine .bp ((KC fu).1 S4 1 (q4.ps h0) (by decide) (by decide) (by rw [q4.l];omega)) fun l r k5=>.pp k5 fun ln S5 k5=>?_;obtain ⟨k5,hq⟩:=k5;have q5:=q4.trans k5.1;have a0:=k1.1.1.lo;have a1:=k2.1.lo;have a2:=hs.1.lo;have a3:=k4.1.lo;have a4:=k5.1.lo;have a5:=q5.hi;dsimp only at a0 a2 a3;rw [hw] at a0;refine .bd (.app (by simp only [uK,xX];omega)) fun bd hbd=>?_;refine .bd (.app (by simp only [uK,xX];omega)) fun r hr=>?_;subst hr hbd;refine (Ip (O:=O) h0 hf n _ S5 q5 (fun z=>by omega) (by omega) fun z=>?_).imp fun v hv=>?_;rotate_left
  · obtain v | v:=v
    · obtain ⟨o,a,b,c',d⟩:=v;exact ⟨hv.1,fun _=>c⟩
    · exact hv
  have z4:=k5.1.e z;have a6:=k5.2 z;rw [q4.l] at a6;refine ⟨by rw [kr];omega,oQ ho.2 ⟨hs.2 (k4.1.e z4),by rw [kr];omega,oQ a6.2.2 ?_,⟨_,_,rfl,rfl⟩⟩⟩;exact ⟨nE,nE,nE,nE,⟨fun z=>(by cases z),fun z=>(by cases z),fun z=>absurd rfl z,fun _=>rfl,(by dsimp only;decide),fun z=>(by cases z),fun _ _ _ z=>absurd rfl z,fun z=>(by cases z),(by dsimp only;decide),fun y hy=>(by cases hy)⟩⟩
theorem UA {fu:Nat}{S:iA}(h:PS S)(hf:S.l.length+200<=fu):kS (xk fu S) (fun r=>jy r fun p S'=>(S'.e=0->Vl S.l.length p)):=by unfold xk;have hlo:=h.lo;refine .el (Hg (O:=fun _=>False) h hf fu [] S (Nx.rfl' h) (fun _=>by omega) (by omega) fun _=>⟨hlo,fun r hr=>(by cases hr)⟩) (fun s hs=>?_) fun _ z=>z.elim;refine .pp hs fun rs r hs=>.pp hs fun a r hs=>.pp hs fun b r hs=>.pp hs fun c d hs=>?_;have P1:=hs.1.ps h;have b0:=P1.lo;have b1:=hs.1.hi;dsimp only at b0 b1;refine .el (Ip (O:=fun _=>False) h hf fu [] ⟨a,b,c,d⟩ hs.1 (fun _=>by dsimp only;omega) (by omega) fun _=>⟨b0,fun r hr=>(by cases hr)⟩) (fun s hs2=>?_) fun _ z=>z.elim;refine .pp hs2 fun fs r hs2=>.pp hs2 fun a2 r hs2=>.pp hs2 fun b2 r hs2=>.pp hs2 fun c2 d2 hs2=>?_;obtain ⟨hs2,hd⟩:=hs2;have P2:=hs2.1.ps h;have hlen:=h.tl.len;have b3:=hs2.1.hi;dsimp only at b3;refine .ite (fun z=>?_) fun z=>.mk fun y=>absurd y z;have r1:=hs.2 (hd z);have r2:=hs2.2 z;have ok:Vl S.l.length ⟨rs,fs⟩:=⟨by dsimp only;omega,r1.2,by dsimp only;omega,r2.2⟩;refine .bd (DU P2) fun b hb=>.ite (fun _=>?_) fun _=>.mk fun _=>ok;exact .bd (DY P2 (by decide)) fun S3 h3=>.mk fun y=>absurd y h3.2.1
theorem YS {fu:Nat}{s:ByteArray}(hf:5300<=fu):kS (yg fu s) (fun r=>jy r fun p r=>jy r fun _ e=>e=0->Vl 5000 p):=by unfold yg;refine .bp (aaG (by omega)) fun l r hl=>.pp hl fun ln e hl=>?_;refine .ite (fun c=>.mk fun z=>absurd z c) fun c=>?_;obtain ⟨h1,h2,h3⟩:=hl (by omega);refine .bp (UA (S:=⟨l,0,0,0⟩) ⟨h1,Int.le_refl _,by dsimp only;omega⟩ (by dsimp only;omega)) fun p S hp=>?_;refine .ite (fun c=>.mk fun z=>absurd z c) fun c=>.mk fun _=>?_;have:=hp (by omega);dsimp only at this;exact this.mono (by omega)
end Go.Proofs.YtdkneekpdecjbaaGreat
