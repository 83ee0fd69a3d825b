/- Functions and the whole checker of the specification: it answers, and variables whose scopes meet have different names. -/
import Derived.Test.YtdkneekpdecjbaaGreatZ13
set_option linter.unusedVariables false
set_option linter.unusedSimpArgs false
namespace Go.Proofs.YtdkneekpdecjbaaGreat
open Go.RowKit Go.Fw Go.Proofs.Tryz
def NP (V:List gP):Prop:=∀ (i j:Nat)(x y:gP),i < j->V[i]?=some x->V[j]?=some y->x.c≠y.c\/x.d < y.e
theorem FP {fu:Nat}{x1:kN}{S0:fV}(h0:SI S0 []){O:kN × fV→Prop}:∀ (l:List ByteArray)(k:Nat)(S:fV)(V:List gP),Stp S0 [] S V→(S.e=0→V.length=k∧∀ i:Nat,i < k→(i:Int) ∈ S.b)→
  kS (kV fu x1 l k S.b S.a.a.a S.f S.c S.e S.a.a.b S.a.c S.a.b) (qg (fun r=>jy r fun h r=>jy r fun a r=>jy r fun b r=>jy r fun c r=>jy r fun d r=>jy r fun e r=>jy r fun f g=>∃ V',Stp S0 [] ⟨⟨⟨a,e⟩,f,g⟩,b,h,c,d⟩ V'/\(d=0->V'.length=k+l.length/\∀ i:Nat,i < k+l.length->(i:Int) ∈ h)) O)
 | [],k,S,V,hS,hv=>.go ⟨V,hS,hv⟩
 | u :: r,k,S,V,hS,hv=>by
  rw [kV];refine .bp (Jb hS.si (fun z=>(by cases z)) (vk _)) fun v S1 k1=>?_;obtain ⟨V1,k1,_,k3⟩:=k1;refine (FP h0 (O:=O) r (k+1) S1 V1 (hS.trans k1) fun z=>?_).imp fun v hv=>?_
  · have q:=k3 z;have q0:=hv (k1.e z);refine ⟨by rw [q.1,kr,q0.1],fun i hi=>?_⟩;rw [q.2.2];by_cases c:i < k
    · exact pX.2 (.inl (q0.2 i c))
    · obtain rfl:i=V.length:=by omega
      exact pX.2 (.inr (.head _))
  · obtain v | v:=v
    · obtain ⟨a1,a2,a3,a4,a5,a6,a7,a8⟩:=v;obtain ⟨V',b1,b2⟩:=hv;rw [uK];exact ⟨V',b1,fun z=>by have:=b2 z;exact ⟨by omega,fun i hi=>this.2 i (by omega)⟩⟩
    · exact hv
theorem FT {fu:Nat}{S:fV}{V:List gP}(h:SI S V){O:kN × fV→Prop}:∀ (l:List ByteArray)(k:Nat)(vs:List (List gP))(V1:List gP)(C:Nat→Prop),(∀ i:Nat,k≤i→i < k+l.length→(i:Int) ∈ S.b)→vs=S.a.c.set S.f.toNat V1→L9 ((S.a.b.length:Int) - 1) C V V1→(∀ i,C i→(i:Int) ∈ S.b)→
  kS (lW fu S l k vs) (qg (fun vs'=>∃ V',vs'=S.a.c.set S.f.toNat V'/\∃ C',L9 ((S.a.b.length:Int) - 1) C' V V'/\∀ i,C' i->(i:Int) ∈ S.b) O)
 | [],_,vs,V1,C,_,h1,h2,h3=>.go ⟨V1,h1,C,h2,h3⟩
 | u :: r,k,vs,V1,C,hl,h1,h2,h3=>by
  have a3:=h.f0;have a4:=h.vl;have a5:=h.st;rw [uK] at hl;have hu:=hl k (mO _) (by omega);have hu2:=h.op _ hu;rw [lW];have hlen:vs.length=S.a.c.length:=by rw [h1,wU]
  have hg:vs[S.f.toNat]?=some V1:=by rw [h1,Bz (by omega)]
  refine .bd (.ix (by omega) (by omega)) fun e he=>?_;rw [hg] at he;obtain rfl:=JD he;refine .bd (.ix hu2.1 (by rw [h2.len];exact hu2.2)) fun x hx=>?_;refine .bd (.st (by rw [h2.len];exact hu2)) fun w hw=>?_;refine .bd (.st (by omega)) fun w2 hw2=>?_;rw [mo (by omega) (by omega)] at hw;have k1:=L9.one (N:=(S.a.b.length:Int) - 1) hx;rw [<-hw] at k1;refine FT h (O:=O) r (k+1) w2 w _ (fun i hi hi2=>hl i (by omega) (by omega)) (by rw [hw2,h1,List.set_set]) (h2.trans k1) (fun i hi=>?_);rcases hi with hi | rfl
  · exact h3 i hi
  · exact hu
structure UF (S S':fV):Prop where
 f:S'.f=S.f
 pg:S'.a.a=S.a.a
 vs:∀ k:Nat,(k:Int)≠S.f->S'.a.c[k]?=S.a.c[k]?
 vl:S'.a.c.length=S.a.c.length
 st:S'.a.b.length<=200
 np:S'.e=0->∀ V,S'.a.c[S.f.toNat]?=some V->NP V/\V.length<=24
theorem Stp.uf {S S':fV}{V V':List gP}(h:SI S V)(k:Stp S V S' V')(hn:S'.e=0->NP V'):UF S S':=⟨k.f,k.pg,k.vs,by have:=h.vl;have:=k.si.vl;rw [k.f] at this;omega,k.si.st,fun z W hW=>by
 have:=k.si.v;rw [k.f,hW] at this;obtain rfl:=JD this;exact ⟨hn z,k.si.vn⟩⟩
theorem NI.np {S:fV}{V:List gP}(h:NI S V):NP V:=fun i j x y hij hi hj=>(h.pr i j x y hij hi hj).imp id And.right
theorem NI.nil {S:fV}:NI S []:=⟨fun i x hi=>(by cases hi),fun i j x y _ hi=>(by cases hi)⟩
theorem UF.of {S S':fV}(h:UF ⟨S.a,S.f,[],S.c,S.e⟩ S'):UF S S':=⟨h.f,h.pg,h.vs,h.vl,h.st,h.np⟩
theorem R6 {fu:Nat}{S:fV}{x:kN}(h:SI ⟨S.a,S.f,[],S.c,S.e⟩ [])(hx:YJ 5000 x)(hf:10100<=fu):kS (nU fu S x) (fun r=>jy r fun _ S'=>UF S S'):=by
 unfold nU;refine .ite (fun c=>.bd (wW (by decide)) fun S' k=>.mk ⟨k.1.f,by rw [k.1.out],fun _ _=>by rw [k.1.out],by rw [k.1.out],by rw [k.1.out];exact h.st,fun z=>absurd z k.2⟩) fun c=>?_;refine .el (FP (O:=fun _=>False) h x.a 0 _ [] (.rfl' h) fun _=>⟨rfl,fun i hi=>absurd hi (Nat.not_lt_zero i)⟩) (fun s hs=>?_) fun _ z=>z.elim;refine .pp hs fun b1 r hs=>.pp hs fun b2 r hs=>.pp hs fun b3 r hs=>.pp hs fun b4 r hs=>.pp hs fun b5 r hs=>.pp hs fun b6 r hs=>.pp hs fun b7 b8 hs=>?_;obtain ⟨V1,k1,k2⟩:=hs;refine .ite (fun d=>?_) fun d=>.mk (k1.uf h fun z=>absurd z d).of;refine .bp ((JW fu).1 _ V1 x.d 10 k1.si hx.el hx.body (by omega)) fun bd S2 k3=>?_;obtain ⟨V2,k3,k4⟩:=k3;have hk2:=k2 d;refine .el (FT (O:=fun _=>False) k3.si x.a 0 _ V2 (fun _=>False) (fun i _ hi=>?_) (Lp k3.si.v).symm .rfl' (fun _ z=>z.elim)) (fun vs hvs=>.mk ?_) fun _ z=>z.elim
 · rw [k4];exact hk2.2 i hi
 · obtain ⟨V3,c1,C,c2,c3⟩:=hvs;have s2:=(k1.trans k3).trans (L9.stp k3.si c2 c1 (fun v hv=>hv) (mO _) c3 fun _ i hi ho=>absurd hi ho);exact (s2.uf h fun z=>(s2.ni z .nil).np).of
theorem Gu {fu:Nat}{S0:fV}{u:kg}{k:Nat}(hk:k < S0.a.a.a.length)(hk2:k≤5000){O:fV→Prop}:∀ (n:Nat)(i:Int)(S:fV),0≤i→i≤k→k+1≤n+i→Ew S0 S→
  kS (pJ fu S0 u k n i S.a.a.a S.f S.c S.e S.a.a.b S.a.c S.a.b S.b) (qg (fun r=>jy r fun _ r=>jy r fun a r=>jy r fun b r=>jy r fun c r=>jy r fun d r=>jy r fun e r=>jy r fun f r=>jy r fun g h=>Ew S0 ⟨⟨⟨a,e⟩,f,g⟩,b,h,c,d⟩) O)
 | 0,i,S,h0,h1,hn,hS=>by omega
 | n+1,i,S,h0,h1,hn,hS=>by rw [pJ];refine .ite (fun c=>?_) fun _=>.go hS;rw [mo (by omega) (by omega)];refine .bd (.ix h0 (by omega)) fun e he=>.ite (fun _=>?_) fun _=>Gu hk hk2 n (i+1) S (by omega) (by omega) (by omega) hS;exact .bd (wW (by decide)) fun S' k=>Gu hk hk2 n (i+1) S' (by omega) (by omega) (by omega) (hS.trans k.1)
theorem F7 {fu:Nat}{S0:fV}{u:kg}{w:ByteArray}{k:Nat}(hk:k < u.a.length)(hk2:k≤5000){O:fV→Prop}:∀ (n:Nat)(i:Int)(S:fV),0≤i→i≤k→k+1≤n+i→Ew S0 S→
  kS (pz fu u w k n i S.a.a.a S.f S.c S.e S.a.a.b S.a.c S.a.b S.b) (qg (fun r=>jy r fun _ r=>jy r fun a r=>jy r fun b r=>jy r fun c r=>jy r fun d r=>jy r fun e r=>jy r fun f r=>jy r fun g h=>Ew S0 ⟨⟨⟨a,e⟩,f,g⟩,b,h,c,d⟩) O)
 | 0,i,S,h0,h1,hn,hS=>by omega
 | n+1,i,S,h0,h1,hn,hS=>by rw [pz];refine .ite (fun c=>?_) fun _=>.go hS;rw [mo (by omega) (by omega)];refine .bd (.ix h0 (by omega)) fun e he=>.ite (fun _=>?_) fun _=>F7 hk hk2 n (i+1) S (by omega) (by omega) (by omega) hS;exact .bd (wW (by decide)) fun S' k=>F7 hk hk2 n (i+1) S' (by omega) (by omega) (by omega) (hS.trans k.1)
theorem Kc {fu:Nat}(hf:5002≤fu){S0:fV}{u:kg}(hu:u.a.length≤5000){O:fV→Prop}:∀ (l:List ByteArray)(k:Nat)(S:fV),k+l.length=u.a.length→Ew S0 S→
  kS (pq fu u l k S.a.a.a S.f S.c S.e S.a.a.b S.a.c S.a.b S.b) (qg (fun r=>jy r fun a r=>jy r fun b r=>jy r fun c r=>jy r fun d r=>jy r fun e r=>jy r fun f r=>jy r fun g h=>Ew S0 ⟨⟨⟨a,e⟩,f,g⟩,b,h,c,d⟩) O)
 | [],_,S,_,hS=>.go hS
 | w :: r,k,S,hk,hS=>by rw [uK] at hk;rw [pq];refine .FL (F7 (by omega) (by omega) fu 0 S (vk _) (by omega) (by omega) hS) fun s hs=>?_;exact .pp hs fun _ r hs=>.pp hs fun a1 r hs=>.pp hs fun a2 r hs=>.pp hs fun a3 r hs=>.pp hs fun a4 r hs=>.pp hs fun a5 r hs=>.pp hs fun a6 r hs=>.pp hs fun a7 a8 hs=>Kc hf hu (O:=O) _ (k+1) ⟨⟨⟨a1,a5⟩,a6,a7⟩,a2,a8,a3,a4⟩ (by omega) hs
theorem Gq {fu:Nat}(hf:5002≤fu){S0:fV}(hr:S0.a.a.a.length≤5000){O:fV→Prop}:∀ (l:List kg)(k:Nat)(S:fV),k+l.length=S0.a.a.a.length→(∀ u ∈ l,u.a.length≤5000)→Ew S0 S→
  kS (pE fu S0 l k S.a.a.a S.f S.c S.e S.a.a.b S.a.c S.a.b S.b) (qg (fun r=>jy r fun a r=>jy r fun b r=>jy r fun c r=>jy r fun d r=>jy r fun e r=>jy r fun f r=>jy r fun g h=>Ew S0 ⟨⟨⟨a,e⟩,f,g⟩,b,h,c,d⟩) O)
 | [],_,S,_,_,hS=>.go hS
 | u :: r,k,S,hk,hl,hS=>by
  rw [uK] at hk;rw [pE];have hJ:kS (vR fu S.a.a.a S.f S.c S.e S.a.a.b S.a.c S.a.b S.b u k) (qg (fun r=>jy r fun a r=>jy r fun b r=>jy r fun c r=>jy r fun d r=>jy r fun e r=>jy r fun f r=>jy r fun g h=>Ew S0 ⟨⟨⟨a,e⟩,f,g⟩,b,h,c,d⟩) O):=by
   unfold vR;have hJ2:kS (vJ fu u k) (qg (fun _=>True) O):=by unfold vJ;exact .ite (fun _=>.go kL) fun _=>.go kL
   exact .FL hJ2 fun b _=>.ite (fun _=>.bd (wW (by decide)) fun S' k=>.go (hS.trans k.1)) fun _=>.go hS
  refine .FL hJ fun s hs=>?_;refine .pp hs fun a1 r hs=>.pp hs fun a2 r hs=>.pp hs fun a3 r hs=>.pp hs fun a4 r hs=>.pp hs fun a5 r hs=>.pp hs fun a6 r hs=>.pp hs fun a7 a8 hs=>?_;refine .FL (Gu (by omega) (by omega) fu 0 ⟨⟨⟨a1,a5⟩,a6,a7⟩,a2,a8,a3,a4⟩ (vk _) (by omega) (by omega) hs) fun s hs=>?_;refine .pp hs fun _ r hs=>.pp hs fun a1 r hs=>.pp hs fun a2 r hs=>.pp hs fun a3 r hs=>.pp hs fun a4 r hs=>.pp hs fun a5 r hs=>.pp hs fun a6 r hs=>.pp hs fun a7 a8 hs=>?_;refine .FL (Kc hf (hl u (.head _)) u.a 0 ⟨⟨⟨a1,a5⟩,a6,a7⟩,a2,a8,a3,a4⟩ (by omega) hs) fun s hs=>?_;exact .pp hs fun a1 r hs=>.pp hs fun a2 r hs=>.pp hs fun a3 r hs=>.pp hs fun a4 r hs=>.pp hs fun a5 r hs=>.pp hs fun a6 r hs=>.pp hs fun a7 a8 hs=>Gq hf hr (O:=O) _ (k+1) ⟨⟨⟨a1,a5⟩,a6,a7⟩,a2,a8,a3,a4⟩ (by omega) (fun y hy=>hl y (.tail _ hy)) hs
theorem Gw {fu:Nat}{S0:fV}{fn:kN}{m:Int}(hm:m < S0.a.a.b.length)(hm2:m≤5000){O:fV→Prop}:∀ (n:Nat)(i:Int)(S:fV),0≤i→i≤m→m+1≤n+i→Ew S0 S→
  kS (pI fu m fn n i S.a.a.a S.f S.c S.e S.a.a.b S.a.c S.a.b S.b) (qg (fun r=>jy r fun _ r=>jy r fun a r=>jy r fun b r=>jy r fun c r=>jy r fun d r=>jy r fun e r=>jy r fun f r=>jy r fun g h=>Ew S0 ⟨⟨⟨a,e⟩,f,g⟩,b,h,c,d⟩) O)
 | 0,i,S,h0,h1,hn,hS=>by omega
 | n+1,i,S,h0,h1,hn,hS=>by rw [pI];refine .ite (fun c=>?_) fun _=>.go hS;rw [mo (by omega) (by omega)];refine .bd (.ix h0 (by rw [hS.out];omega)) fun e he=>.ite (fun _=>?_) fun _=>Gw hm hm2 n (i+1) S (by omega) (by omega) (by omega) hS;exact .bd (wW (by decide)) fun S' k=>Gw hm hm2 n (i+1) S' (by omega) (by omega) (by omega) (hS.trans k.1)
theorem Gy {fu:Nat}(hf:5002≤fu){S0:fV}(hr:S0.a.a.b.length≤5000){O:fV→Prop}:∀ (n:Nat)(i:Int)(S:fV),0≤i→i≤S0.a.a.b.length→S0.a.a.b.length+1≤n+i→Ew S0 S→
  kS (qD fu S0.a.a.b n i S.a.a.a S.f S.c S.e S.a.a.b S.a.c S.a.b S.b) (qg (fun r=>jy r fun _ r=>jy r fun a r=>jy r fun b r=>jy r fun c r=>jy r fun d r=>jy r fun e r=>jy r fun f r=>jy r fun g h=>Ew S0 ⟨⟨⟨a,e⟩,f,g⟩,b,h,c,d⟩) O)
 | 0,i,S,h0,h1,hn,hS=>by omega
 | n+1,i,S,h0,h1,hn,hS=>by
  rw [qD];refine .ite (fun c=>?_) fun _=>.go hS;refine .bd (.ix h0 (by rw [hS.out];omega)) fun fn he=>?_;have hJ:kS (wh fu i S.a.a.a S.f S.c S.e S.a.a.b S.a.c S.a.b S.b fn) (qg (fun r=>jy r fun a r=>jy r fun b r=>jy r fun c r=>jy r fun d r=>jy r fun e r=>jy r fun f r=>jy r fun g h=>Ew S0 ⟨⟨⟨a,e⟩,f,g⟩,b,h,c,d⟩) O):=by unfold wh;exact .ite (fun _=>.bd (wW (by decide)) fun S' k=>.go (hS.trans k.1)) fun _=>.go hS
  refine .FL hJ fun s hs=>?_;refine .pp hs fun a1 r hs=>.pp hs fun a2 r hs=>.pp hs fun a3 r hs=>.pp hs fun a4 r hs=>.pp hs fun a5 r hs=>.pp hs fun a6 r hs=>.pp hs fun a7 a8 hs=>?_;refine .FL (Gw (by omega) (by omega) fu 0 ⟨⟨⟨a1,a5⟩,a6,a7⟩,a2,a8,a3,a4⟩ (vk _) (by omega) (by omega) hs) fun s hs=>?_;rw [mo (by omega) (by omega)];exact .pp hs fun _ r hs=>.pp hs fun a1 r hs=>.pp hs fun a2 r hs=>.pp hs fun a3 r hs=>.pp hs fun a4 r hs=>.pp hs fun a5 r hs=>.pp hs fun a6 r hs=>.pp hs fun a7 a8 hs=>Gy hf hr (O:=O) n (i+1) ⟨⟨⟨a1,a5⟩,a6,a7⟩,a2,a8,a3,a4⟩ (by omega) (by omega) (by omega) hs
theorem Ol {fu:Nat}(hf:5002<=fu){S:fV}(h1:S.a.a.a.length<=5000)(h2:∀ u ∈ S.a.a.a,u.a.length<=5000)(h3:S.a.a.b.length<=5000):kS (vI fu S) (Ew S):=by
 unfold vI;refine .el (Gq (O:=fun _=>False) hf h1 _ 0 S (by omega) h2 .rfl') (fun s hs=>?_) fun _ z=>z.elim;refine .pp hs fun a1 r hs=>.pp hs fun a2 r hs=>.pp hs fun a3 r hs=>.pp hs fun a4 r hs=>.pp hs fun a5 r hs=>.pp hs fun a6 r hs=>.pp hs fun a7 a8 hs=>?_;have h4:S.a.a.b=a5:=by rw [<-hs.out]
 subst h4;refine .el (Gy (O:=fun _=>False) hf h3 fu 0 ⟨⟨⟨a1,_⟩,a6,a7⟩,a2,a8,a3,a4⟩ (vk _) (by omega) (by omega) hs) (fun s hs=>?_) fun _ z=>z.elim;exact .pp hs fun _ r hs=>.pp hs fun a1 r hs=>.pp hs fun a2 r hs=>.pp hs fun a3 r hs=>.pp hs fun a4 r hs=>.pp hs fun a5 r hs=>.pp hs fun a6 r hs=>.pp hs fun a7 a8 hs=>.mk hs
theorem La {fu:Nat}(hf:10100≤fu){p:jV}(hp:Vl 5000 p){O:jR × Int × Int→Prop}:∀ (n i:Nat)(a:List kg)(b c d:Int)(e:List kN)(vs:List (List gP))(g:List jT)(h:List Int),e.length=p.b.length→vs.length=i→i≤p.b.length→p.b.length+1≤n+i→g.length≤200→(d=0→∀ V ∈ vs,NP V∧V.length≤24)→(∀ f ∈ e,FX f)→
  kS (l8 fu p n i a b c d e vs g h) (qg (fun r=>jy r fun _ r=>jy r fun a r=>jy r fun b r=>jy r fun c r=>jy r fun d r=>jy r fun e r=>jy r fun vs r=>jy r fun g h=>(d=0->(vs.length=p.b.length/\∀ V ∈ vs,NP V/\V.length<=24)/\g.length<=200)/\∀ f ∈ e,FX f) O)
 | 0,i,a,b,c,d,e,vs,g,h,h1,h2,h3,h4,h5,h6,h7=>by omega
 | n+1,i,a,b,c,d,e,vs,g,h,h1,h2,h3,h4,h5,h6,h7=>by
  have hlen:=hp.e;rw [l8];refine .ite (fun k=>?_) fun k=>.go ⟨fun z=>⟨⟨by omega,h6 z⟩,h5⟩,h7⟩;refine .ite (fun k2=>?_) fun k2=>.go ⟨fun z=>absurd z k2,h7⟩;refine .bd (.app (by simp only [uK,xX];omega)) fun r hr=>?_;subst hr;refine .bd (.ix (by omega) k) fun fn hfn=>?_;rw [FJ] at hfn;have hsi:SI ⟨⟨⟨a,e⟩,vs ++ [[]],g⟩,(i:Int),[],c,d⟩ []:=⟨by dsimp only;omega,by dsimp only;rw [kr];omega,by dsimp only;rw [Int.toNat_natCast,<-h2,List.getElem?_append_right (Nat.le_refl _),Nat.sub_self];rfl,Nat.zero_le _,fun v hv=>(by cases hv),Nat.zero_le _,h5,fun x hx=>(by cases hx)⟩;refine .XM (R6 (S:=⟨⟨⟨a,e⟩,vs ++ [[]],g⟩,(i:Int),h,c,d⟩) hsi (hp.el _ (vM hfn)) hf) fun v ev k3=>?_;obtain ⟨fn',S'⟩:=v;rw [pl] at k3 ⊢;have hfx:=Sr ev (hp.el _ (vM hfn)).x;have hF:S'.a.a.b.length=p.b.length:=by rw [k3.pg];exact h1
  refine .bd (.ix (by omega) (by omega)) fun _ _=>.bd (.st (by omega)) fun r hr=>?_;rw [mo (by omega) (by omega)];have hv:=k3.vl;dsimp only at hv;rw [kr] at hv;refine La hf hp (O:=O) n (i+1) _ _ _ _ r _ _ _ (by rw [hr,wU];exact hF) (by omega) (by omega) (by omega) k3.st (fun z V hV=>?_) fun f hf=>by
   subst hr;rcases Ie hf with hf | rfl
   · exact h7 f (by rw [k3.pg] at hf;exact hf)
   · exact hfx
  obtain ⟨q,hq⟩:=Uw hV;by_cases hqi:q=i
  · subst hqi;exact k3.np z V (by dsimp only;rw [Int.toNat_natCast];exact hq)
  · rw [k3.vs q (by dsimp only;omega)] at hq;dsimp only at hq;rw [AL (by have:=ko hq;rw [kr] at this;omega)] at hq;exact h6 k2 V (vM hq)
theorem Zj {fu:Nat}(hf:10100<=fu){p:jV}(hp:Vl 5000 p):kS (qY fu p) (fun r=>jy r fun s r=>jy r fun _ e=>e=0->((s.c.length=p.b.length/\∀ V ∈ s.c,NP V/\V.length<=24)/\s.b.length<=200)/\∀ f ∈ s.a.b,FX f):=by have hlen:=hp.e;unfold qY;refine .bd (.app (by simp only [xX];omega)) fun r hr=>?_;rw [DI] at hr;subst hr;refine .bd (Ol (by omega) hp.recs hp.fields hp.e) fun S hS=>?_;have h1:=hS.out;refine .el (La (O:=fun _=>False) hf hp fu 0 S.a.a.a S.f S.c S.e S.a.a.b S.a.c S.a.b S.b (by rw [h1]) (by rw [h1];rfl) (uN _) (by omega) (by rw [h1];exact uN _) (fun _ V hV=>(by rw [h1] at hV;cases hV)) fun f hf=>(by rw [h1] at hf;exact (hp.el f hf).x)) (fun s hs=>?_) fun _ z=>z.elim;refine .pp hs fun _ r hs=>.pp hs fun a1 r hs=>.pp hs fun a2 r hs=>.pp hs fun a3 r hs=>.pp hs fun a4 r hs=>.pp hs fun a5 r hs=>.pp hs fun a6 r hs=>.pp hs fun a7 a8 hs=>?_;refine .ite (fun c=>.mk fun z=>absurd z c) fun c=>.mk fun _=>⟨hs.1 (by omega),hs.2⟩
end Go.Proofs.YtdkneekpdecjbaaGreat
