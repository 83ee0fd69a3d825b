/- Statements, functions and the whole checker of the specification. -/
import Derived.Test.YtdkneekpdecjbaaGreatZ22
import Derived.Test.YtdkneekpdecjbaaGreatZ20
set_option linter.unusedVariables false
set_option linter.unusedSimpArgs false
namespace Go.Proofs.YtdkneekpdecjbaaGreat
open Go.RowKit Go.Fw Go.Proofs.Tryz
def UP (S:fV)(V:List iA)(S':fV):Prop:=∃ V',Stp S V S' V'/\∃ ext,S'.b=S.b ++ ext
theorem UP.trans {S S1 S2:fV}{V V1:List iA}(h:Stp S V S1 V1)(ho:S1.b=S.b)(k:UP S1 V1 S2):UP S V S2:=by obtain ⟨V2,k1,ext,k2⟩:=k;exact ⟨V2,h.trans k1,ext,by rw [k2,ho]⟩
section
variable {fu:Nat}{f:fV->List jA->Option (List jA × fV)}{g:fV->jA->Option (jA × fV)}
theorem Ut {S:fV}{V:List iA}{x:jA}{r8:List jU}(h:SI ⟨⟨S.a.a,S.a.c,r8⟩,S.f,S.b,S.c,S.e⟩ V):kP (qZ fu f g S x r8) (pV (fun r=>jy r fun k r=>jy r fun c _=>k=2->0<=c/\c < S.a.a.a.length) (fun r=>jy r fun _ S'=>UP ⟨⟨S.a.a,S.a.c,r8⟩,S.f,S.b,S.c,S.e⟩ V S')):=by
 unfold qZ;refine .ite (fun _=>.go fun z=>(by cases z)) fun _=>.ite (fun _=>?_) fun _=>.go fun z=>(by cases z);refine .bp WX fun v b hv=>.ite (fun _=>?_) fun d=>?_
 · exact .bd (wP (by decide)) fun S' k=>.out ⟨V,k.1.Zt h,[],by rw [k.1.op,FU]⟩
 have hv:=hv (by simpa using d);exact .bd (.ix hv.1 hv.2) fun rc _=>.go fun _=>hv
theorem TR {S:fV}{V:List iA}{x:jA}{r8:List jU}(h:SI ⟨⟨S.a.a,S.a.c,r8⟩,S.f,S.b,S.c,S.e⟩ V)(hr:r8.length=S.a.b.length+1):kP (oN fu f g S x r8) (pV (fun r=>jy r fun a r=>jy r fun b r=>jy r fun c r=>jy r fun d r=>jy r fun e r=>jy r fun f r=>jy r fun g h=>Ea ⟨⟨S.a.a,S.a.c,r8⟩,S.f,S.b,S.c,S.e⟩ ⟨⟨⟨a,e⟩,f,g⟩,b,h,c,d⟩) (fun r=>jy r fun _ S'=>UP ⟨⟨S.a.a,S.a.c,r8⟩,S.f,S.b,S.c,S.e⟩ V S')):=by
 unfold oN;refine .ite (fun _=>?_) fun _=>.ite (fun _=>.ite (fun c=>?_) fun _=>.go .rfl') fun _=>.go .rfl'
 · refine .el (Ut h) (fun s hs=>?_) fun o ho=>.out ho;refine .pp hs fun k r hs=>.pp hs fun c w hs=>?_;have h1:=h.st;dsimp only at h1;refine .bp (IY h hs ?_) fun v S' k=>.out ?_
   · dsimp only;rw [mg (by omega) (by omega)];omega
   · obtain ⟨V',k1,k2,_⟩:=k;exact ⟨V',k1,k2⟩
 · refine .bd (.ix (vG _) c) fun e he=>.ite (fun _=>?_) fun _=>.go .rfl';exact .bd (wP (by decide)) fun S' k=>.go k.1
theorem Ud {S:fV}{V:List iA}{v:Int}(h:SI S V)(hv:S.e=0->0<=v/\v < V.length){O:jA × fV->Prop}:kP (qU fu f g v S) (pV (fun vs=>∃ V',vs=S.a.c.set S.f.toNat V'/\∃ C,LJ ((S.a.b.length:Int) - 1) C V V'/\(S.e=0->∀ i,C i ↔ i=v.toNat)/\(S.e≠0->∀ i,¬ C i)) O):=by unfold qU;refine .ite (fun c=>?_) fun c=>.go ⟨V,(Kv h.v).symm,_,.rfl',fun z=>absurd z c,fun _ _ z=>z⟩;have hv:=hv c;have a3:=h.f0;have a4:=h.vl;have a5:=h.st;refine .bd h.ix fun e he=>?_;subst he;refine .bd (.ix hv.1 hv.2) fun x hx=>.bd (.st hv) fun w hw=>.bd (.st (by omega)) fun w2 hw2=>.go ?_;rw [mg (by omega) (by omega)] at hw;subst hw hw2;exact ⟨_,rfl,_,LJ.one hx,fun _ i=>Iff.rfl,fun z=>absurd c z⟩
theorem Us (hf:Yz f fu){n:Nat}(hn:2 * n+10002<=fu){S:fV}{V:List iA}{l:List jA}(h:SI S V)(hl:(∀ y ∈ l,Fe 5000 n y)/\l.length<=5001){a1 a2 a3:Int}{a4 a5:ByteArray}{a6:Int}{a7:List jB}{a8:ByteArray}{a9:Int}{a10:List jB}{a11:List jA} :kP (qh fu f g a1 a2 a3 a4 a5 a6 a7 a8 a9 l a10 a11 S) (pV (fun _=>True) (fun r=>jy r fun _ S'=>UP S V S')):=by
 unfold qh;refine .ite (fun _=>.ite (fun c=>?_) fun _=>.go kI) fun _=>.go kI;have b1:=h.ol;have b2:=h.vn;refine .bd (.app (by simp only [zh];omega)) fun r hr=>?_;rw [E8] at hr;subst hr;refine .bp (IY h (fun z=>(by cases z)) (vG _)) fun v S1 k1=>?_;obtain ⟨V1,k1,⟨ext,k2⟩,k3⟩:=k1;refine .bp (hf S1 V1 l n k1.si hl.1 hl.2 hn) fun l2 S2 k4=>?_;obtain ⟨V2,k4,k5⟩:=k4;have hv:S2.e=0->0<=v/\v < V2.length:=fun z=>by have q:=k3 (k4.e z);have q1:=k4.vle;rw [q.1,kV] at q1;omega
 refine .el (Ud (O:=fun _=>False) k4.si hv) (fun vs hvs=>?_) fun _ z=>z.elim;obtain ⟨V3,c1,C,c2,c3,c4⟩:=hvs;have hop:S2.b=S.b ++ ext:=by rw [k5,k2]
 refine .out ⟨V3,(k1.trans k4).trans (LJ.Zt k4.si c2 c1 (fun v hv=>by rw [hop];exact qN.2 (.inl hv)) (by rw [hop,Ic];omega) (fun i hi=>?_) fun z i hi ho=>?_),[],by rw [FU]⟩
 · by_cases z:S2.e=0
   · have q:=k3 (k4.e z);rw [(c3 z i).1 hi,k5,q.2.2,q.2.1,Ii];exact qN.2 (.inr (.head _))
   · exact absurd hi (c4 z i)
 · have q:=k3 (k4.e z);rw [k5,q.2.2] at hi;rcases qN.1 hi with hi | hi
   · exact absurd hi ho
   · simp only [qg,Cm,or_false] at hi;refine (c3 z i).2 ?_;rw [q.2.1];omega
theorem Um {S:fV}{x:jA}{a:List jB}{S1:fV}{O:jA × fV->Prop}:kP (q8 fu f g S x a S1) (pV (fun r=>jy r fun a r=>jy r fun b r=>jy r fun c r=>jy r fun d r=>jy r fun e r=>jy r fun f r=>jy r fun g r=>jy r fun h r=>jy r fun _ r=>jy r fun _ r=>jy r fun _ r=>jy r fun _ r=>jy r fun _ r=>jy r fun _ r=>jy r fun _ r=>jy r fun _ r=>jy r fun _ r=>jy r fun _ r=>jy r fun i r=>jy r fun j k=>Ea S1 ⟨⟨⟨a,e⟩,f,g⟩,b,h,c,d⟩/\i=x.a/\j=x.d/\k=x.h) O):=by unfold q8;refine .ite (fun _=>.bp WU fun S' x' k=>.go ?_) fun _=>.go ⟨.rfl',rfl,rfl,rfl⟩;obtain ⟨k1,c,rfl⟩:=k;exact ⟨k1,rfl,rfl,rfl⟩
theorem aak (hf:Yz f fu):XQ (uj fu f g) (fu+1):=by
 intro S V x n h hx hn;cases n with
 | zero=>exact hx.elim
 | succ n=>
 obtain ⟨x1,x2,x3,x4,x5⟩:=hx;unfold uj;refine .ite (fun c=>.bd (wP (by decide)) fun S' k=>.mk ⟨V,k.1.Zt h,[],by rw [k.1.op,FU]⟩) fun c=>?_;have a3:=h.st;refine .bd (.app (by simp only [uX,zh];omega)) fun r8 hr8=>?_;have hlen:r8.length=S.a.b.length+1:=by rw [hr8,kV]
 have h1:SI ⟨⟨S.a.a,S.a.c,r8⟩,S.f,S.b,S.c,S.e⟩ V:=⟨h.f0,h.vl,h.v,h.vn,h.op,h.ol,by dsimp only;omega,h.rk⟩;have s1:Stp S V ⟨⟨S.a.a,S.a.c,r8⟩,S.f,S.b,S.c,S.e⟩ V:=⟨h1,rfl,rfl,fun _ _=>rfl,by dsimp only;omega,id,Nat.le_refl _,fun _ m=>⟨fun i y hi ho=>by have:=m.cl i y hi ho;dsimp only;omega,m.pr⟩⟩;refine .el (TR h1 hlen) (fun s hs=>?_) fun o ho=>.mk ?_;rotate_left
 · obtain ⟨y,S'⟩:=o;exact UP.trans s1 rfl ho
 refine .pp hs fun b1 r hs=>.pp hs fun b2 r hs=>.pp hs fun b3 r hs=>.pp hs fun b4 r hs=>.pp hs fun b5 r hs=>.pp hs fun b6 r hs=>.pp hs fun b7 b8 hs=>?_;refine .bp ((OG fu).2 _ V _ _ 5000 (hs.si h1) x1.2 (by have:=x1.1;omega) (by omega)) fun tg S2 k2=>?_;have q2:=hs.trans k2.1;refine .el (Um (O:=fun _=>False)) (fun s hs=>?_) fun _ z=>z.elim;refine .pp hs fun c1 r hs=>.pp hs fun c2 r hs=>.pp hs fun c3 r hs=>.pp hs fun c4 r hs=>.pp hs fun c5 r hs=>.pp hs fun c6 r hs=>.pp hs fun c7 r hs=>.pp hs fun c8 r hs=>.pp hs fun c9 r hs=>.pp hs fun c10 r hs=>.pp hs fun c11 r hs=>.pp hs fun c12 r hs=>.pp hs fun c13 r hs=>.pp hs fun c14 r hs=>.pp hs fun c15 r hs=>.pp hs fun c16 r hs=>.pp hs fun c17 r hs=>.pp hs fun c18 r hs=>.pp hs fun c19 r hs=>.pp hs fun c20 c21 hs=>?_;obtain ⟨k3,rfl,rfl,rfl⟩:=hs;have q3:=q2.trans k3;refine .bp ((OG fu).2 _ V _ _ 5000 (q3.si h1) x2.2 x2.1 (by omega)) fun ar S4 k4=>?_;have q4:=q3.trans k4.1;have s4:=s1.trans (q4.Zt h1);refine .bp (hf S4 V x.d n s4.si x3.2 (by have:=x3.1;omega) (by omega)) fun bd S5 k5=>?_;obtain ⟨V5,k5,o5⟩:=k5;have s5:=s4.trans k5;have ho5:S5.b=S.b:=by rw [o5,q4.op]
 refine .el (Us hf (by omega) s5.si ⟨x4.2,by have:=x4.1;omega⟩) (fun _ _=>?_) fun o ho=>.mk ?_
 · refine .bp (hf S5 V5 x.h n s5.si x4.2 (by have:=x4.1;omega) (by omega)) fun el S6 k6=>.mk ?_;obtain ⟨V6,k6,o6⟩:=k6;exact ⟨V6,s5.trans k6,[],by rw [o6,ho5,FU]⟩
 · obtain ⟨y,S'⟩:=o;exact UP.trans s5 ho5 ho
end
theorem KE:∀ fu:Nat,Yz (qx fu) fu∧XQ (xG fu) fu
 | 0=>⟨fun S V l n h hl hlen hn=>by omega,fun S V x n h hx hn=>by omega⟩
 | fu+1=>⟨YD (KE fu).2,aak (KE fu).1⟩
def NP (V:List iA):Prop:=∀ (i j:Nat)(x y:iA),i < j->V[i]?=some x->V[j]?=some y->x.c≠y.c\/x.d < y.f
theorem FE {fu:Nat}{x1:kT}{S0:fV}(h0:SI S0 []){O:kT × fV→Prop}:∀ (l:List ByteArray)(k:Nat)(S:fV)(V:List iA),Stp S0 [] S V→(S.e=0→V.length=k∧∀ i:Nat,i < k→(i:Int) ∈ S.b)→
  kP (lN fu x1 l k S.b S.a.a.a S.f S.c S.e S.a.a.b S.a.c S.a.b) (pV (fun r=>jy r fun h r=>jy r fun a r=>jy r fun b r=>jy r fun c r=>jy r fun d r=>jy r fun e r=>jy r fun f g=>∃ V',Stp S0 [] ⟨⟨⟨a,e⟩,f,g⟩,b,h,c,d⟩ V'/\(d=0->V'.length=k+l.length/\∀ i:Nat,i < k+l.length->(i:Int) ∈ h)) O)
 | [],k,S,V,hS,hv=>.go ⟨V,hS,hv⟩
 | u :: r,k,S,V,hS,hv=>by
  rw [lN];refine .bp (IY hS.si (fun z=>(by cases z)) (vG _)) fun v S1 k1=>?_;obtain ⟨V1,k1,_,k3⟩:=k1;refine (FE h0 (O:=O) r (k+1) S1 V1 (hS.trans k1) fun z=>?_).imp fun v hv=>?_
  · have q:=k3 z;have q0:=hv (k1.e z);refine ⟨by rw [q.1,kV,q0.1],fun i hi=>?_⟩;rw [q.2.2];by_cases c:i < k
    · exact qN.2 (.inl (q0.2 i c))
    · obtain rfl:i=V.length:=by omega
      exact qN.2 (.inr (.head _))
  · obtain v | v:=v
    · obtain ⟨a1,a2,a3,a4,a5,a6,a7,a8⟩:=v;obtain ⟨V',b1,b2⟩:=hv;rw [uX];exact ⟨V',b1,fun z=>by have:=b2 z;exact ⟨by omega,fun i hi=>this.2 i (by omega)⟩⟩
    · exact hv
theorem Fp {fu:Nat}{S:fV}{V:List iA}(h:SI S V){O:kT × fV→Prop}:∀ (l:List ByteArray)(k:Nat)(vs:List (List iA))(V1:List iA)(C:Nat→Prop),(∀ i:Nat,k≤i→i < k+l.length→(i:Int) ∈ S.b)→vs=S.a.c.set S.f.toNat V1→LJ ((S.a.b.length:Int) - 1) C V V1→(∀ i,C i→(i:Int) ∈ S.b)→
  kP (mG fu S l k vs) (pV (fun vs'=>∃ V',vs'=S.a.c.set S.f.toNat V'/\∃ C',LJ ((S.a.b.length:Int) - 1) C' V V'/\∀ i,C' i->(i:Int) ∈ S.b) O)
 | [],_,vs,V1,C,_,h1,h2,h3=>.go ⟨V1,h1,C,h2,h3⟩
 | u :: r,k,vs,V1,C,hl,h1,h2,h3=>by
  have a3:=h.f0;have a4:=h.vl;have a5:=h.st;rw [uX] at hl;have hu:=hl k (ng _) (by omega);have hu2:=h.op _ hu;rw [mG];have hlen:vs.length=S.a.c.length:=by rw [h1,yK]
  have hg:vs[S.f.toNat]?=some V1:=by rw [h1,Dw (by omega)]
  refine .bd (.ix (by omega) (by omega)) fun e he=>?_;rw [hg] at he;obtain rfl:=JY he;refine .bd (.ix hu2.1 (by rw [h2.len];exact hu2.2)) fun x hx=>?_;refine .bd (.st (by rw [h2.len];exact hu2)) fun w hw=>?_;refine .bd (.st (by omega)) fun w2 hw2=>?_;rw [mg (by omega) (by omega)] at hw;have k1:=LJ.one (N:=(S.a.b.length:Int) - 1) hx;rw [<-hw] at k1;refine Fp h (O:=O) r (k+1) w2 w _ (fun i hi hi2=>hl i (by omega) (by omega)) (by rw [hw2,h1,List.set_set]) (h2.trans k1) (fun i hi=>?_);rcases hi with hi | rfl
  · exact h3 i hi
  · exact hu
structure UF (S S':fV):Prop where
 f:S'.f=S.f
 pg:S'.a.a=S.a.a
 vs:∀ k:Nat,(k:Int)≠S.f->S'.a.c[k]?=S.a.c[k]?
 vl:S'.a.c.length=S.a.c.length
 st:S'.a.b.length<=200
 np:S'.e=0->∀ V,S'.a.c[S.f.toNat]?=some V->NP V/\V.length<=24
theorem Stp.uf {S S':fV}{V V':List iA}(h:SI S V)(k:Stp S V S' V')(hn:S'.e=0->NP V'):UF S S':=⟨k.f,k.pg,k.vs,by have:=h.vl;have:=k.si.vl;rw [k.f] at this;omega,k.si.st,fun z W hW=>by
 have:=k.si.v;rw [k.f,hW] at this;obtain rfl:=JY this;exact ⟨hn z,k.si.vn⟩⟩
theorem NI.np {S:fV}{V:List iA}(h:NI S V):NP V:=fun i j x y hij hi hj=>(h.pr i j x y hij hi hj).imp id And.right
theorem NI.nil {S:fV}:NI S []:=⟨fun i x hi=>(by cases hi),fun i j x y _ hi=>(by cases hi)⟩
theorem UF.of {S S':fV}(h:UF ⟨S.a,S.f,[],S.c,S.e⟩ S'):UF S S':=⟨h.f,h.pg,h.vs,h.vl,h.st,h.np⟩
theorem Rj {fu:Nat}{S:fV}{x:kT}(h:SI ⟨S.a,S.f,[],S.c,S.e⟩ [])(hx:Zl 5000 x)(hf:10100<=fu):kP (pI fu S x) (fun r=>jy r fun _ S'=>UF S S'):=by
 unfold pI;refine .ite (fun c=>.bd (wP (by decide)) fun S' k=>.mk ⟨k.1.f,by rw [k.1.out],fun _ _=>by rw [k.1.out],by rw [k.1.out],by rw [k.1.out];exact h.st,fun z=>absurd z k.2⟩) fun c=>?_;refine .el (FE (O:=fun _=>False) h x.a 0 _ [] (.rfl' h) fun _=>⟨rfl,fun i hi=>absurd hi (Nat.not_lt_zero i)⟩) (fun s hs=>?_) fun _ z=>z.elim;refine .pp hs fun b1 r hs=>.pp hs fun b2 r hs=>.pp hs fun b3 r hs=>.pp hs fun b4 r hs=>.pp hs fun b5 r hs=>.pp hs fun b6 r hs=>.pp hs fun b7 b8 hs=>?_;obtain ⟨V1,k1,k2⟩:=hs;refine .ite (fun d=>?_) fun d=>.mk (k1.uf h fun z=>absurd z d).of;refine .bp ((KE fu).1 _ V1 x.d 10 k1.si hx.el hx.body (by omega)) fun bd S2 k3=>?_;obtain ⟨V2,k3,k4⟩:=k3;have hk2:=k2 d;refine .el (Fp (O:=fun _=>False) k3.si x.a 0 _ V2 (fun _=>False) (fun i _ hi=>?_) (Kv k3.si.v).symm .rfl' (fun _ z=>z.elim)) (fun vs hvs=>.mk ?_) fun _ z=>z.elim
 · rw [k4];exact hk2.2 i hi
 · obtain ⟨V3,c1,C,c2,c3⟩:=hvs;have s2:=(k1.trans k3).trans (LJ.Zt k3.si c2 c1 (fun v hv=>hv) (ng _) c3 fun _ i hi ho=>absurd hi ho);exact (s2.uf h fun z=>(s2.ni z .nil).np).of
theorem FJ {fu:Nat}{S0:fV}{u:kg}{k:Nat}(hk:k < S0.a.a.a.length)(hk2:k≤5000){O:fV→Prop}:∀ (n:Nat)(i:Int)(S:fV),0≤i→i≤k→k+1≤n+i→Ea S0 S→
  kP (oU fu S0 u k n i S.a.a.a S.f S.c S.e S.a.a.b S.a.c S.a.b S.b) (pV (fun r=>jy r fun _ r=>jy r fun a r=>jy r fun b r=>jy r fun c r=>jy r fun d r=>jy r fun e r=>jy r fun f r=>jy r fun g h=>Ea S0 ⟨⟨⟨a,e⟩,f,g⟩,b,h,c,d⟩) O)
 | 0,i,S,h0,h1,hn,hS=>by omega
 | n+1,i,S,h0,h1,hn,hS=>by rw [oU];refine .ite (fun c=>?_) fun _=>.go hS;rw [mg (by omega) (by omega)];refine .bd (.ix h0 (by omega)) fun e he=>.ite (fun _=>?_) fun _=>FJ hk hk2 n (i+1) S (by omega) (by omega) (by omega) hS;exact .bd (wP (by decide)) fun S' k=>FJ hk hk2 n (i+1) S' (by omega) (by omega) (by omega) (hS.trans k.1)
theorem F9 {fu:Nat}{S0:fV}{u:kg}{w:ByteArray}{k:Nat}(hk:k < u.a.length)(hk2:k≤5000){O:fV→Prop}:∀ (n:Nat)(i:Int)(S:fV),0≤i→i≤k→k+1≤n+i→Ea S0 S→
  kP (oV fu u w k n i S.a.a.a S.f S.c S.e S.a.a.b S.a.c S.a.b S.b) (pV (fun r=>jy r fun _ r=>jy r fun a r=>jy r fun b r=>jy r fun c r=>jy r fun d r=>jy r fun e r=>jy r fun f r=>jy r fun g h=>Ea S0 ⟨⟨⟨a,e⟩,f,g⟩,b,h,c,d⟩) O)
 | 0,i,S,h0,h1,hn,hS=>by omega
 | n+1,i,S,h0,h1,hn,hS=>by rw [oV];refine .ite (fun c=>?_) fun _=>.go hS;rw [mg (by omega) (by omega)];refine .bd (.ix h0 (by omega)) fun e he=>.ite (fun _=>?_) fun _=>F9 hk hk2 n (i+1) S (by omega) (by omega) (by omega) hS;exact .bd (wP (by decide)) fun S' k=>F9 hk hk2 n (i+1) S' (by omega) (by omega) (by omega) (hS.trans k.1)
theorem La {fu:Nat}(hf:5002≤fu){S0:fV}{u:kg}(hu:u.a.length≤5000){O:fV→Prop}:∀ (l:List ByteArray)(k:Nat)(S:fV),k+l.length=u.a.length→Ea S0 S→
  kP (pq fu u l k S.a.a.a S.f S.c S.e S.a.a.b S.a.c S.a.b S.b) (pV (fun r=>jy r fun a r=>jy r fun b r=>jy r fun c r=>jy r fun d r=>jy r fun e r=>jy r fun f r=>jy r fun g h=>Ea S0 ⟨⟨⟨a,e⟩,f,g⟩,b,h,c,d⟩) O)
 | [],_,S,_,hS=>.go hS
 | w :: r,k,S,hk,hS=>by rw [uX] at hk;rw [pq];refine .Fa (F9 (by omega) (by omega) fu 0 S (vG _) (by omega) (by omega) hS) fun s hs=>?_;exact .pp hs fun _ r hs=>.pp hs fun a1 r hs=>.pp hs fun a2 r hs=>.pp hs fun a3 r hs=>.pp hs fun a4 r hs=>.pp hs fun a5 r hs=>.pp hs fun a6 r hs=>.pp hs fun a7 a8 hs=>La hf hu (O:=O) _ (k+1) ⟨⟨⟨a1,a5⟩,a6,a7⟩,a2,a8,a3,a4⟩ (by omega) hs
theorem FY {fu:Nat}(hf:5002≤fu){S0:fV}(hr:S0.a.a.a.length≤5000){O:fV→Prop}:∀ (l:List kg)(k:Nat)(S:fV),k+l.length=S0.a.a.a.length→(∀ u ∈ l,u.a.length≤5000)→Ea S0 S→
  kP (pE fu S0 l k S.a.a.a S.f S.c S.e S.a.a.b S.a.c S.a.b S.b) (pV (fun r=>jy r fun a r=>jy r fun b r=>jy r fun c r=>jy r fun d r=>jy r fun e r=>jy r fun f r=>jy r fun g h=>Ea S0 ⟨⟨⟨a,e⟩,f,g⟩,b,h,c,d⟩) O)
 | [],_,S,_,_,hS=>.go hS
 | u :: r,k,S,hk,hl,hS=>by
  rw [uX] at hk;rw [pE];have hJ:kP (vP fu S.a.a.a S.f S.c S.e S.a.a.b S.a.c S.a.b S.b u k) (pV (fun r=>jy r fun a r=>jy r fun b r=>jy r fun c r=>jy r fun d r=>jy r fun e r=>jy r fun f r=>jy r fun g h=>Ea S0 ⟨⟨⟨a,e⟩,f,g⟩,b,h,c,d⟩) O):=by
   unfold vP;have hJ2:kP (vM fu u k) (pV (fun _=>True) O):=by unfold vM;exact .ite (fun _=>.go kI) fun _=>.go kI
   exact .Fa hJ2 fun b _=>.ite (fun _=>.bd (wP (by decide)) fun S' k=>.go (hS.trans k.1)) fun _=>.go hS
  refine .Fa hJ fun s hs=>?_;refine .pp hs fun a1 r hs=>.pp hs fun a2 r hs=>.pp hs fun a3 r hs=>.pp hs fun a4 r hs=>.pp hs fun a5 r hs=>.pp hs fun a6 r hs=>.pp hs fun a7 a8 hs=>?_;refine .Fa (FJ (by omega) (by omega) fu 0 ⟨⟨⟨a1,a5⟩,a6,a7⟩,a2,a8,a3,a4⟩ (vG _) (by omega) (by omega) hs) fun s hs=>?_;refine .pp hs fun _ r hs=>.pp hs fun a1 r hs=>.pp hs fun a2 r hs=>.pp hs fun a3 r hs=>.pp hs fun a4 r hs=>.pp hs fun a5 r hs=>.pp hs fun a6 r hs=>.pp hs fun a7 a8 hs=>?_;refine .Fa (La hf (hl u (.head _)) u.a 0 ⟨⟨⟨a1,a5⟩,a6,a7⟩,a2,a8,a3,a4⟩ (by omega) hs) fun s hs=>?_;exact .pp hs fun a1 r hs=>.pp hs fun a2 r hs=>.pp hs fun a3 r hs=>.pp hs fun a4 r hs=>.pp hs fun a5 r hs=>.pp hs fun a6 r hs=>.pp hs fun a7 a8 hs=>FY hf hr (O:=O) _ (k+1) ⟨⟨⟨a1,a5⟩,a6,a7⟩,a2,a8,a3,a4⟩ (by omega) (fun y hy=>hl y (.tail _ hy)) hs
theorem F3 {fu:Nat}{S0:fV}{fn:kT}{m:Int}(hm:m < S0.a.a.b.length)(hm2:m≤5000){O:fV→Prop}:∀ (n:Nat)(i:Int)(S:fV),0≤i→i≤m→m+1≤n+i→Ea S0 S→
  kP (o9 fu m fn n i S.a.a.a S.f S.c S.e S.a.a.b S.a.c S.a.b S.b) (pV (fun r=>jy r fun _ r=>jy r fun a r=>jy r fun b r=>jy r fun c r=>jy r fun d r=>jy r fun e r=>jy r fun f r=>jy r fun g h=>Ea S0 ⟨⟨⟨a,e⟩,f,g⟩,b,h,c,d⟩) O)
 | 0,i,S,h0,h1,hn,hS=>by omega
 | n+1,i,S,h0,h1,hn,hS=>by rw [o9];refine .ite (fun c=>?_) fun _=>.go hS;rw [mg (by omega) (by omega)];refine .bd (.ix h0 (by rw [hS.out];omega)) fun e he=>.ite (fun _=>?_) fun _=>F3 hm hm2 n (i+1) S (by omega) (by omega) (by omega) hS;exact .bd (wP (by decide)) fun S' k=>F3 hm hm2 n (i+1) S' (by omega) (by omega) (by omega) (hS.trans k.1)
theorem Gz {fu:Nat}(hf:5002≤fu){S0:fV}(hr:S0.a.a.b.length≤5000){O:fV→Prop}:∀ (n:Nat)(i:Int)(S:fV),0≤i→i≤S0.a.a.b.length→S0.a.a.b.length+1≤n+i→Ea S0 S→
  kP (qm fu S0.a.a.b n i S.a.a.a S.f S.c S.e S.a.a.b S.a.c S.a.b S.b) (pV (fun r=>jy r fun _ r=>jy r fun a r=>jy r fun b r=>jy r fun c r=>jy r fun d r=>jy r fun e r=>jy r fun f r=>jy r fun g h=>Ea S0 ⟨⟨⟨a,e⟩,f,g⟩,b,h,c,d⟩) O)
 | 0,i,S,h0,h1,hn,hS=>by omega
 | n+1,i,S,h0,h1,hn,hS=>by
  rw [qm];refine .ite (fun c=>?_) fun _=>.go hS;refine .bd (.ix h0 (by rw [hS.out];omega)) fun fn he=>?_;have hJ:kP (vQ fu i S.a.a.a S.f S.c S.e S.a.a.b S.a.c S.a.b S.b fn) (pV (fun r=>jy r fun a r=>jy r fun b r=>jy r fun c r=>jy r fun d r=>jy r fun e r=>jy r fun f r=>jy r fun g h=>Ea S0 ⟨⟨⟨a,e⟩,f,g⟩,b,h,c,d⟩) O):=by unfold vQ;exact .ite (fun _=>.bd (wP (by decide)) fun S' k=>.go (hS.trans k.1)) fun _=>.go hS
  refine .Fa hJ fun s hs=>?_;refine .pp hs fun a1 r hs=>.pp hs fun a2 r hs=>.pp hs fun a3 r hs=>.pp hs fun a4 r hs=>.pp hs fun a5 r hs=>.pp hs fun a6 r hs=>.pp hs fun a7 a8 hs=>?_;refine .Fa (F3 (by omega) (by omega) fu 0 ⟨⟨⟨a1,a5⟩,a6,a7⟩,a2,a8,a3,a4⟩ (vG _) (by omega) (by omega) hs) fun s hs=>?_;rw [mg (by omega) (by omega)];exact .pp hs fun _ r hs=>.pp hs fun a1 r hs=>.pp hs fun a2 r hs=>.pp hs fun a3 r hs=>.pp hs fun a4 r hs=>.pp hs fun a5 r hs=>.pp hs fun a6 r hs=>.pp hs fun a7 a8 hs=>Gz hf hr (O:=O) n (i+1) ⟨⟨⟨a1,a5⟩,a6,a7⟩,a2,a8,a3,a4⟩ (by omega) (by omega) (by omega) hs
theorem Sg {fu:Nat}(hf:5002<=fu){S:fV}(h1:S.a.a.a.length<=5000)(h2:∀ u ∈ S.a.a.a,u.a.length<=5000)(h3:S.a.a.b.length<=5000):kP (vJ fu S) (Ea S):=by
 unfold vJ;refine .el (FY (O:=fun _=>False) hf h1 _ 0 S (by omega) h2 .rfl') (fun s hs=>?_) fun _ z=>z.elim;refine .pp hs fun a1 r hs=>.pp hs fun a2 r hs=>.pp hs fun a3 r hs=>.pp hs fun a4 r hs=>.pp hs fun a5 r hs=>.pp hs fun a6 r hs=>.pp hs fun a7 a8 hs=>?_;have h4:S.a.a.b=a5:=by rw [<-hs.out]
 subst h4;refine .el (Gz (O:=fun _=>False) hf h3 fu 0 ⟨⟨⟨a1,_⟩,a6,a7⟩,a2,a8,a3,a4⟩ (vG _) (by omega) (by omega) hs) (fun s hs=>?_) fun _ z=>z.elim;exact .pp hs fun _ r hs=>.pp hs fun a1 r hs=>.pp hs fun a2 r hs=>.pp hs fun a3 r hs=>.pp hs fun a4 r hs=>.pp hs fun a5 r hs=>.pp hs fun a6 r hs=>.pp hs fun a7 a8 hs=>.mk hs
theorem JF {fu:Nat}(hf:10100≤fu){p:jT}(hp:XC 5000 p){O:jY × Int × Int→Prop}:∀ (n i:Nat)(a:List kg)(b c d:Int)(e:List kT)(vs:List (List iA))(g:List jU)(h:List Int),e.length=p.b.length→vs.length=i→i≤p.b.length→p.b.length+1≤n+i→g.length≤200→(d=0→∀ V ∈ vs,NP V∧V.length≤24)→(∀ f ∈ e,FX f)→
  kP (mQ fu p n i a b c d e vs g h) (pV (fun r=>jy r fun _ r=>jy r fun a r=>jy r fun b r=>jy r fun c r=>jy r fun d r=>jy r fun e r=>jy r fun vs r=>jy r fun g h=>(d=0->(vs.length=p.b.length/\∀ V ∈ vs,NP V/\V.length<=24)/\g.length<=200)/\∀ f ∈ e,FX f) O)
 | 0,i,a,b,c,d,e,vs,g,h,h1,h2,h3,h4,h5,h6,h7=>by omega
 | n+1,i,a,b,c,d,e,vs,g,h,h1,h2,h3,h4,h5,h6,h7=>by
  have hlen:=hp.e;rw [mQ];refine .ite (fun k=>?_) fun k=>.go ⟨fun z=>⟨⟨by omega,h6 z⟩,h5⟩,h7⟩;refine .ite (fun k2=>?_) fun k2=>.go ⟨fun z=>absurd z k2,h7⟩;refine .bd (.app (by simp only [uX,zh];omega)) fun r hr=>?_;subst hr;refine .bd (.ix (by omega) k) fun fn hfn=>?_;rw [Ii] at hfn;have hsi:SI ⟨⟨⟨a,e⟩,vs ++ [[]],g⟩,(i:Int),[],c,d⟩ []:=⟨by dsimp only;omega,by dsimp only;rw [kV];omega,by dsimp only;rw [Int.toNat_natCast,<-h2,List.getElem?_append_right (Nat.le_refl _),Nat.sub_self];rfl,Nat.zero_le _,fun v hv=>(by cases hv),Nat.zero_le _,h5,fun x hx=>(by cases hx)⟩;refine .Xh (Rj (S:=⟨⟨⟨a,e⟩,vs ++ [[]],g⟩,(i:Int),h,c,d⟩) hsi (hp.el _ (xu hfn)) hf) fun v ev k3=>?_;obtain ⟨fn',S'⟩:=v;rw [pl] at k3 ⊢;have hfx:=Rx ev (hp.el _ (xu hfn)).x;have hF:S'.a.a.b.length=p.b.length:=by rw [k3.pg];exact h1
  refine .bd (.ix (by omega) (by omega)) fun _ _=>.bd (.st (by omega)) fun r hr=>?_;rw [mg (by omega) (by omega)];have hv:=k3.vl;dsimp only at hv;rw [kV] at hv;refine JF hf hp (O:=O) n (i+1) _ _ _ _ r _ _ _ (by rw [hr,yK];exact hF) (by omega) (by omega) (by omega) k3.st (fun z V hV=>?_) fun f hf=>by
   subst hr;rcases GX hf with hf | rfl
   · exact h7 f (by rw [k3.pg] at hf;exact hf)
   · exact hfx
  obtain ⟨q,hq⟩:=TG hV;by_cases hqi:q=i
  · subst hqi;exact k3.np z V (by dsimp only;rw [Int.toNat_natCast];exact hq)
  · rw [k3.vs q (by dsimp only;omega)] at hq;dsimp only at hq;rw [Em (by have:=kN hq;rw [kV] at this;omega)] at hq;exact h6 k2 V (xu hq)
theorem XL {fu:Nat}(hf:10100<=fu){p:jT}(hp:XC 5000 p):kP (tQ fu p) (fun r=>jy r fun s r=>jy r fun _ e=>e=0->((s.c.length=p.b.length/\∀ V ∈ s.c,NP V/\V.length<=24)/\s.b.length<=200)/\∀ f ∈ s.a.b,FX f):=by have hlen:=hp.e;unfold tQ;refine .bd (.app (by simp only [zh];omega)) fun r hr=>?_;rw [E8] at hr;subst hr;refine .bd (Sg (by omega) hp.recs hp.fields hp.e) fun S hS=>?_;have h1:=hS.out;refine .el (JF (O:=fun _=>False) hf hp fu 0 S.a.a.a S.f S.c S.e S.a.a.b S.a.c S.a.b S.b (by rw [h1]) (by rw [h1];rfl) (uW _) (by omega) (by rw [h1];exact uW _) (fun _ V hV=>(by rw [h1] at hV;cases hV)) fun f hf=>(by rw [h1] at hf;exact (hp.el f hf).x)) (fun s hs=>?_) fun _ z=>z.elim;refine .pp hs fun _ r hs=>.pp hs fun a1 r hs=>.pp hs fun a2 r hs=>.pp hs fun a3 r hs=>.pp hs fun a4 r hs=>.pp hs fun a5 r hs=>.pp hs fun a6 r hs=>.pp hs fun a7 a8 hs=>?_;refine .ite (fun c=>.mk fun z=>absurd z c) fun c=>.mk fun _=>⟨hs.1 (by omega),hs.2⟩
end Go.Proofs.YtdkneekpdecjbaaGreat
namespace Go.Fw
theorem kP.of' {α:Type}{x:Option α}{P:α->Prop}{v:α}(h:kP x P)(e:x=some v):P v:=by obtain ⟨u,h1,h2⟩:=h;rw [e] at h1;cases h1;exact h2
end Go.Fw
namespace Go.Proofs.YtdkneekpdecjbaaGreat
open Go.RowKit Go.Fw Go.Proofs.Tryz
section
variable {fu:Nat}
theorem Z0 {p:fV}{t:kg}{u:Nat}:∀ (o:Nat){b:Int}{c:List kg}{d h i:Int}{j:List kT}{k:List (List iA)}{l:List jU}{m:List Int}{r:Int × List kg × Int × Int × Int × List kT × List (List iA) × List jU × List Int},
  oU fu p t u o b c d h i j k l m=some (.go r)->r.2.2.2.2.1=0->i=0
 | 0,_,_,_,_,_,_,_,_,_,_,z,_=>by cases z
 | o+1,_,_,_,_,_,_,_,_,_,_,z,e=>by
  rw [oU] at z;rcases jO z with ⟨_,z⟩|⟨_,z⟩
  · obtain ⟨_,_,z⟩:=bs z;rcases jO z with ⟨_,z⟩|⟨_,z⟩
    · obtain ⟨_,ha,z⟩:=bs z;exact (wM (by decide) ha).1.e (Z0 o z e)
    · exact Z0 o z e
  · cases z;exact e
theorem abC {t:kg}{u:ByteArray}{p:Nat}:∀ (o:Nat){b:Int}{c:List kg}{d h i:Int}{j:List kT}{k:List (List iA)}{l:List jU}{m:List Int}{r:Int × List kg × Int × Int × Int × List kT × List (List iA) × List jU × List Int},
  oV fu t u p o b c d h i j k l m=some (.go r)->r.2.2.2.2.1=0->i=0
 | 0,_,_,_,_,_,_,_,_,_,_,z,_=>by cases z
 | o+1,_,_,_,_,_,_,_,_,_,_,z,e=>by
  rw [oV] at z;rcases jO z with ⟨_,z⟩|⟨_,z⟩
  · obtain ⟨_,_,z⟩:=bs z;rcases jO z with ⟨_,z⟩|⟨_,z⟩
    · obtain ⟨_,ha,z⟩:=bs z;exact (wM (by decide) ha).1.e (abC o z e)
    · exact abC o z e
  · cases z;exact e
theorem aa2 {d:Int}{p:kT}:∀ (o:Nat){b:Int}{h:List kg}{i j k:Int}{c:List kT}{l:List (List iA)}{m:List jU}{q:List Int}{r:Int × List kg × Int × Int × Int × List kT × List (List iA) × List jU × List Int},
  o9 fu d p o b h i j k c l m q=some (.go r)->r.2.2.2.2.1=0->k=0
 | 0,_,_,_,_,_,_,_,_,_,_,z,_=>by cases z
 | o+1,_,_,_,_,_,_,_,_,_,_,z,e=>by
  rw [o9] at z;rcases jO z with ⟨_,z⟩|⟨_,z⟩
  · obtain ⟨_,_,z⟩:=bs z;rcases jO z with ⟨_,z⟩|⟨_,z⟩
    · obtain ⟨_,ha,z⟩:=bs z;exact (wM (by decide) ha).1.e (aa2 o z e)
    · exact aa2 o z e
  · cases z;exact e
theorem adk {B:kg}:∀ (x:List ByteArray){w:Nat}{a:List kg}{b c d:Int}{e:List kT}{f:List (List iA)}{h:List jU}{i:List Int}{r:List kg × Int × Int × Int × List kT × List (List iA) × List jU × List Int},
  pq fu B x w a b c d e f h i=some (.go r)->r.2.2.2.1=0->d=0
 | [],_,_,_,_,_,_,_,_,_,_,z,y=>by cases z;exact y
 | x :: xs,_,_,_,_,_,_,_,_,_,_,z,y=>by
  rw [pq] at z;obtain ⟨v,hv,z⟩:=bs z;cases v with
  | out o=>cases z
  | go s=>
   obtain ⟨a1,a2,a3,a4,a5,a6,a7,a8,a9⟩:=s;replace z:=gi z;simp only [pl] at z;exact abC _ hv (adk xs z y)
theorem adt {R:fV}:∀ (x:List kg){w:Nat}{a:List kg}{b c d:Int}{e:List kT}{f:List (List iA)}{h:List jU}{i:List Int}{r:List kg × Int × Int × Int × List kT × List (List iA) × List jU × List Int},
  pE fu R x w a b c d e f h i=some (.go r)->r.2.2.2.1=0->d=0/\∀ u ∈ x,u.a.length<=4
 | [],_,_,_,_,_,_,_,_,_,_,z,y=>by cases z;exact ⟨y,fun u hu=>by cases hu⟩
 | x :: xs,_,_,_,_,d,_,_,_,_,_,z,y=>by
  rw [pE] at z;obtain ⟨v,hv,z⟩:=bs z;cases v with
  | out o=>cases z
  | go s=>
   obtain ⟨a1,a2,a3,a4,a5,a6,a7,a8⟩:=s;replace z:=gi z;simp only [pl] at z;obtain ⟨v,hv3,z⟩:=bs z;cases v with
   | out o=>cases z
   | go s=>
    obtain ⟨b1,b2,b3,b4,b5,b6,b7,b8,b9⟩:=s;replace z:=gi z;simp only [pl] at z;obtain ⟨v,hv4,z⟩:=bs z;cases v with
    | out o=>cases z
    | go s=>
     obtain ⟨c1,c2,c3,c4,c5,c6,c7,c8⟩:=s;replace z:=gi z;simp only [pl] at z;obtain ⟨k1,k2⟩:=adt xs z y;have k3:=Z0 _ hv3 (adk _ hv4 k1);unfold vP at hv;obtain ⟨v,hj,hv⟩:=bs hv;cases v with
     | out o=>cases hv
     | go q=>
      replace hv:=gi hv;rcases jO hv with ⟨_,hv⟩|⟨c,hv⟩
      · obtain ⟨_,ha,hv⟩:=bs hv;cases hv;exact absurd k3 (wM (by decide) ha).2
      · cases hv;refine ⟨k3,fun u hu=>?_⟩;rcases qg.1 hu with rfl | hu
        · unfold vM at hj;rcases jO hj with ⟨_,hj⟩|⟨_,hj⟩
          · cases hj;exact absurd rfl c
          · cases hj;have:¬ (4:Int) < (u.a.length:Int):=fun z=>c (Gd z);omega
        · exact k2 u hu
theorem abZ {k:List kT}:∀ (o:Nat){a:Int}{c:List kg}{d e f:Int}{b:List kT}{h:List (List iA)}{i:List jU}{j:List Int}{r:Int × List kg × Int × Int × Int × List kT × List (List iA) × List jU × List Int},
  qm fu k o a c d e f b h i j=some (.go r)->r.2.2.2.2.1=0->f=0
 | 0,_,_,_,_,_,_,_,_,_,_,z,_=>by cases z
 | o+1,_,_,_,_,_,_,_,_,_,_,z,y=>by
  rw [qm] at z;rcases jO z with ⟨_,z⟩|⟨_,z⟩
  · obtain ⟨_,_,z⟩:=bs z;obtain ⟨v,hv,z⟩:=bs z;cases v with
    | out o=>cases z
    | go s=>
     obtain ⟨a1,a2,a3,a4,a5,a6,a7,a8⟩:=s;replace z:=gi z;simp only [pl] at z;obtain ⟨v,hv3,z⟩:=bs z;cases v with
     | out o=>cases z
     | go s=>
      obtain ⟨b1,b2,b3,b4,b5,b6,b7,b8,b9⟩:=s;replace z:=gi z;simp only [pl] at z;have k3:=aa2 _ hv3 (abZ o z y);unfold vQ at hv;rcases jO hv with ⟨_,hv⟩|⟨c,hv⟩
      · obtain ⟨_,ha,hv⟩:=bs hv;cases hv;exact absurd k3 (wM (by decide) ha).2
      · cases hv;exact k3
  · cases z;exact y
theorem X7 (hf:5002<=fu){S S':fV}(h1:S.a.a.a.length<=5000)(h2:∀ u ∈ S.a.a.a,u.a.length<=5000)(h3:S.a.a.b.length<=5000)(h:vJ fu S=some S')(e:S'.e=0):∀ u ∈ S.a.a.a,u.a.length<=4:=by
 unfold vJ at h;obtain ⟨v,hv,h⟩:=bs h;have k0:=(FY (O:=fun _=>False) hf h1 _ 0 S (by omega) h2 .rfl').of' hv;cases v with
 | out o=>exact k0.elim
 | go s=>
  obtain ⟨a1,a2,a3,a4,a5,a6,a7,a8⟩:=s;replace k0:Ea S ⟨⟨⟨a1,a5⟩,a6,a7⟩,a2,a8,a3,a4⟩:=k0;replace h:=gi h;simp only [pl] at h;obtain ⟨v,hv2,h⟩:=bs h;have hfs:a5=S.a.a.b:=congrArg (fun z=>z.a.b) k0.out;cases v with
  | out o=>
   subst hfs;exact ((Gz (O:=fun _=>False) hf h3 fu 0 ⟨⟨⟨a1,_⟩,a6,a7⟩,a2,a8,a3,a4⟩ (vG _) (by omega) (by omega) k0).of' hv2).elim
  | go s=>
   obtain ⟨b1,b2,b3,b4,b5,b6,b7,b8,b9⟩:=s;replace h:=gi h;simp only [pl] at h;cases h;exact (adt _ hv (abZ _ hv2 e)).2
end
end Go.Proofs.YtdkneekpdecjbaaGreat
