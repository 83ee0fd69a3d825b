/- Lemmas. -/
import Derived.Test.YtdkneekpdecjbaaGreatLb
import Derived.Test.YtdkneekpdecjbaaGreatZ12
import Derived.Test.YtdkneekpdecjbaaGreatZ9
set_option linter.all false
namespace Go.Proofs.YtdkneekpdecjbaaGreat
open Go.RowKit Go.Fw Go.Proofs.Tryz
structure TL (l:List kN):Prop where
 len:l.length<=5000
 last:∀ (k:Nat)(t:kN),k+1=l.length->l[k]?=some t->t.b=0
 name:∀ (k:Nat)(t:kN),l[k]?=some t->t.b=1->t.a≠(⟨#[]⟩:BA)
structure PS (S:jy):Prop where
 tl:TL S.l
 lo:0<=S.a
 hi:S.a < S.l.length
structure Nx (S S':jy):Prop where
 l:S'.l=S.l
 lo:S.a<=S'.a
 hi:S'.a < S.l.length
 e:S'.e=0->S.e=0
theorem Nx.ps {S S':jy}(h:PS S)(k:Nx S S'):PS S':=⟨by rw [k.l];exact h.tl,by have:=h.lo;have:=k.lo;omega,by rw [k.l];exact k.hi⟩
theorem Nx.rfl' {S:jy}(h:PS S):Nx S S:=⟨rfl,vP _,h.hi,id⟩
theorem Nx.trans {S S' S2:jy}(h:Nx S S')(k:Nx S' S2):Nx S S2:=⟨k.l.trans h.l,Int.le_trans h.lo k.lo,by rw [<-h.l];exact k.hi,fun z=>h.e (k.e z)⟩
theorem Nx.step {S:jy}(h:PS S)(k:S.a+1 < S.l.length):Nx S ⟨S.l,wr (S.a+1),S.c,S.e⟩:=by have:=h.lo;have:=h.tl.len;have hw:wr (S.a+1)=S.a+1:=l8 (by omega) (by omega);exact ⟨rfl,by dsimp only;omega,by dsimp only;omega,id⟩
theorem PS.Tm {S:jy}(h:PS S):wr (S.a+1)=S.a+1:=by have:=h.lo;have:=h.tl.len;have:=h.hi;exact l8 (by omega) (by omega)
theorem PS.more {S:jy}(h:PS S){t:kN}(ht:S.l[S.a.toNat]?=some t)(hk:t.b≠0):S.a+1 < S.l.length:=by
 have:=h.lo;have:=h.hi;by_cases hc:S.a.toNat+1=S.l.length
 · exact absurd (h.tl.last _ t hc ht) hk
 · omega
theorem ED {S:jy}{fu:Nat}{e:Int}(h:PS S)(he:e≠0):kP (qz fu S e) (fun S'=>Nx S S'/\S'.e≠0/\S'.a=S.a):=by
 unfold qz;refine .ite (fun c=>?_) (fun c=>?_)
 · refine .bd (.ix h.lo h.hi) fun t ht=>.mk ⟨⟨rfl,vP _,h.hi,fun z=>absurd z he⟩,he,rfl⟩
 · exact .mk ⟨Nx.rfl' h,c,rfl⟩
theorem DW {S:jy}{fu:Nat}{s:BA}(h:PS S):kP (ny fu S 0 s) (fun b=>b=true->S.a+1 < S.l.length):=by
 unfold ny;have hw:wr (S.a+0)=S.a:=by have:=h.lo;have:=h.hi;have:=h.tl.len;rw [Int.add_zero];exact l8 (by omega) (by omega)
 rw [hw];refine .ite (fun c=>.mk fun z=>by cases z) (fun c=>?_);refine .bd (.ix h.lo h.hi) fun t ht=>?_;refine .ite (fun c=>.mk fun _=>h.more ht (by omega)) (fun c=>?_);exact .ite (fun c=>.mk fun _=>h.more ht (by omega)) (fun c=>.mk fun z=>by cases z)
theorem aeo {S:jy}{fu:Nat}{s:BA}(h:PS S):kP (ny fu S 1 s) (fun b=>True):=by unfold ny;rw [h.Tm];refine .ite (fun c=>.mk kE) (fun c=>?_);have:=h.lo;refine .bd (.ix (by omega) (by omega)) fun t ht=>?_;refine .ite (fun c=>.mk kE) (fun c=>?_);exact .ite (fun c=>.mk kE) (fun c=>.mk kE)
theorem Et {S:jy}{fu:Nat}{k:Int}(h:PS S):kP (qE fu S 0 k) (fun b=>∃ t,S.l[S.a.toNat]?=some t/\(b=true->t.b=k)/\(t.b=k->b=true)/\(b=true->k≠0->S.a+1 < S.l.length)):=by
 unfold qE;have hw:wr (S.a+0)=S.a:=by have:=h.lo;have:=h.hi;have:=h.tl.len;rw [Int.add_zero];exact l8 (by omega) (by omega)
 rw [hw];refine .ite (fun c=>?_) (fun c=>absurd h.hi c);refine .bd (.ix h.lo h.hi) fun t ht=>.mk ⟨t,ht,fun z=>Dh z,fun z=>sP z,fun z hk=>h.more ht (by have:=Dh z;omega)⟩
def Tk (S S':jy):Prop:=Nx S S'/\(S'.e=0->S'.a=S.a+1)
theorem uE {S:jy}{fu:Nat}{s:BA}(h:PS S):kP (mq fu S s) (Tk S):=by
 unfold mq;refine .ite (fun c=>.mk ⟨Nx.rfl' h,fun z=>absurd z c⟩) (fun c=>?_);refine .bd (DW h) fun b hb=>?_;refine .ite (fun d=>?_) (fun d=>?_)
 · refine .bd (ED h (by decide)) fun S' hS=>.mk ⟨hS.1,fun z=>absurd z hS.2.1⟩
 · exact .mk ⟨Nx.step h (hb (by simpa using d)),fun _=>h.Tm⟩
theorem DK {S:jy}{fu:Nat}(h:PS S):kP (pV fu S) (fun r=>jB r fun n S'=>Tk S S'/\(S'.e=0->n≠(⟨#[]⟩:BA))/\(S.e=0->(∃ t,S.l[S.a.toNat]?=some t/\t.b=1)->S'.e=0)):=by
 unfold pV;refine .ite (fun c=>.mk ⟨⟨Nx.rfl' h,fun z=>absurd z c⟩,fun z=>absurd z c,fun z=>absurd z c⟩) (fun c=>?_);refine .bd (Et h) fun b hb=>?_;obtain ⟨t,ht,hb1,hb3,hb2⟩:=hb;refine .ite (fun d=>?_) (fun d=>?_)
 · refine .bd (ED h (by decide)) fun S' hS=>.mk ⟨⟨hS.1,fun z=>absurd z hS.2.1⟩,fun z=>absurd z hS.2.1,fun _ ⟨t2,ht2,hk⟩=>?_⟩;rw [ht] at ht2;obtain rfl:=Kj ht2;rw [hb3 hk] at d;cases d
 · have hw:wr (wr (S.a+1) - 1)=S.a:=by rw [h.Tm];have:=h.lo;have:=h.hi;have:=h.tl.len;rw [l8 (by omega) (by omega)];omega
   rw [hw];refine .bd (.ix h.lo h.hi) fun t2 ht2=>.mk ⟨⟨Nx.step h (hb2 (by simpa using d) (by decide)),fun _=>h.Tm⟩,fun _=>?_,fun z _=>z⟩;rw [ht] at ht2;obtain rfl:=Kj ht2;exact h.tl.name _ _ ht (hb1 (by simpa using d))
theorem MJ {fu:Nat}{O:List BA × jy→Prop}:∀ (n:Nat)(out:List BA)(S:jy),PS S→S.l.length+1≤n+S.a→(S.e=0→(out.length:Int)≤S.a)→
  kP (su fu n out S.l S.a S.c S.e) (qp (fun r=>jB r fun o r=>jB r fun a r=>jB r fun b r=>jB r fun c d=>Nx S ⟨a,b,c,d⟩/\(d=0->(o.length:Int)<=b)) O)
 | 0,out,S,h,hn,ho=>by have:=h.hi;omega
 | n+1,out,S,h,hn,ho=>by
  rw [su];refine .ite (fun c=>?_) (fun c=>.go ⟨Nx.rfl' h,ho⟩);refine .bd (DW h) fun b hb=>?_;refine .ite (fun d=>?_) (fun d=>.go ⟨Nx.rfl' h,ho⟩);refine .bd (uE h) fun S1 h1=>?_;refine .bp (DK (h1.1.ps h)) fun nm S2 h2=>?_;have hl:=h.tl.len;have:=h.hi;refine .bd (.app (by have:=ho c;simp only [uM,yG];omega)) fun r hr=>?_;have k:=h1.1.trans h2.1.1;by_cases z:S2.e=0
  · have z1:S1.a=S.a+1:=h1.2 (h2.1.1.e z);have z2:=h2.1.2 z;refine (MJ (O:=O) n r S2 (k.ps h) (by rw [k.l];dsimp only;omega) fun _=>?_).imp fun v hv=>?_
    · subst hr;have:=ho c;simp only [F9,uM,yG];omega
    · obtain v | v:=v
      · obtain ⟨o,a,b,c,d⟩:=v;exact ⟨k.trans hv.1,hv.2⟩
      · exact hv
  · cases n with
    | zero=>have:S.a<=S1.a:=h1.1.lo;have:=h2.1.1.lo;omega
    | succ n=>
      rw [su,kQ z];exact .go ⟨k,fun y=>absurd y z⟩
theorem UU {fu:Nat}{S:jy}(h:PS S)(hf:S.l.length+1<=fu):kP (yD fu S) (fun r=>jB r fun n S'=>Nx S S'/\(S'.e=0->n.length<=5000/\S.a < S'.a)):=by
 unfold yD;refine .bp (DK h) fun n S1 h1=>?_;have h2:=h1.1.1.ps h;have h3:=h2.lo;have h4:=h.lo;have h5:=h2.tl.len;refine .eo (MJ fu [n] S1 h2 (by rw [h1.1.1.l];omega) fun z=>?_) fun s hs=>?_
 · have:=h1.1.2 z;simp only [uM,yG];omega
 · refine .pp hs fun o r hs=>.pp hs fun a r hs=>.pp hs fun b r hs=>.pp hs fun c d hs=>.mk ⟨h1.1.1.trans hs.1,fun z=>?_⟩;have k1:=hs.2 z;have k2:=hs.1.hi;have k3:=hs.1.lo;have k4:=h1.1.2 (hs.1.e z);dsimp only at k2 k3 ⊢;omega
theorem WS {fu:Nat}{S:jy}(h:PS S):kP (yS fu S) (fun b=>b=true->S.a+1 < S.l.length):=by unfold yS;refine .bd (Et h) fun b ⟨t,ht,hb,_,hb2⟩=>.ite (fun c=>.mk fun _=>hb2 c (by decide)) fun c=>?_;refine .bd (Et h) fun b ⟨t,ht,hb,_,hb2⟩=>.ite (fun c=>.mk fun _=>hb2 c (by decide)) fun c=>?_;refine .bd (DW h) fun b hb=>.ite (fun c=>.mk fun _=>hb c) fun c=>?_;refine .bd (DW h) fun b hb=>.ite (fun c=>.mk fun _=>hb c) fun c=>?_;exact .bd (DW h) fun b hb=>.mk hb
theorem Md {fu:Nat}{S:jy}(h:PS S):∀ (l:List BA)(k:Nat),k+l.length≤12→kP (rX fu S l k) (qp (fun _=>True) (fun r=>jB r fun n op=>S.a+1 < S.l.length∧6≤op∧op≤17))
 | [],_,_=>.go kE
 | u :: r,k,hk=>by rw [rX];rw [uM] at hk;refine .bd (DW h) fun b hb=>.ite (fun c=>?_) fun c=>Md h r (k+1) (by omega);refine .bd (.ix (by omega) (by simp only [uM,yG];omega)) fun e he=>.out ?_;rw [l8 (by omega) (by omega)];exact ⟨hb c,by omega,by omega⟩
theorem aaq {fu:Nat}{S:jy}(h:PS S):kP (Bv fu S) (fun r=>jB r fun n op=>n≠0->S.a+1 < S.l.length/\6<=op/\op<=17):=by unfold Bv;refine .el (Md h _ 0 (by decide)) (fun _ _=>.mk fun z=>absurd rfl z) fun o ho=>.mk ?_;obtain ⟨n,op⟩:=o;exact fun _=>ho
theorem YR {fu:Nat}{S:jy}(h:PS S):kP (uW fu S) (fun b=>b=true->∃ t,S.l[S.a.toNat]?=some t/\t.b=1):=by
 unfold uW;refine .bd (Et h) fun b ⟨t,ht,hb,_,hb2⟩=>.ite (fun c=>?_) fun c=>.mk fun z=>by cases z
 exact .bd (aeo h) fun b2 _=>.mk fun _=>⟨t,ht,hb c⟩
theorem Kl {fu:Nat}{S:jy}(h:PS S):∀ (l:List BA)(k:Nat),kP (qY fu S l k) (qp (fun _=>True) (fun r=>S.a+1 < S.l.length))
 | [],_=>.go kE
 | u :: r,k=>by rw [qY];exact .bd (DW h) fun b hb=>.ite (fun c=>.out (hb c)) fun c=>Kl h r (k+1)
theorem Yq {fu:Nat}{S:jy}(h:PS S):kP (zC fu S) (fun b=>b=true->S.a+1 < S.l.length):=by unfold zC;refine .el (Kl h _ 0) (fun _ _=>?_) fun o ho=>.mk fun _=>ho;exact .bd (Et h) fun b ⟨t,ht,hb,_,hb2⟩=>.mk fun c=>hb2 c (by decide)
def Sx (x:jD):Prop:=0<=x.e/\x.e<=17/\x.a.length=if x.e < 3 then 0 else if x.e < 6 then 1 else 2
def CK:Nat→jD→Prop
 | 0,_=>False
 | n+1,x=>(x.a.length<=5000/\Sx x)/\∀ y ∈ x.a,CK n y
theorem CK.mono:∀ {n m:Nat}{x:jD},CK n x→n≤m→CK m x
 | 0,_,_,h,_=>h.elim
 | n+1,0,_,h,k=>by omega
 | n+1,m+1,x,h,k=>⟨h.1,fun y hy=>CK.mono (h.2 y hy) (by omega)⟩
theorem CK.leaf {x:jD}(h:x.a=[])(o:0<=x.e/\x.e < 3):CK 1 x:=⟨⟨by rw [h];decide,o.1,by omega,by rw [h,lF o.2];rfl⟩,fun y hy=>by rw [h] at hy;cases hy⟩
theorem CK.two {n:Nat}{x y z:jD}(hx:CK n x)(hy:CK n y)(h:z.a=[x,y])(o:6<=z.e/\z.e<=17):CK (n+1) z:=⟨⟨by rw [h];exact (by decide:2<=5000),by omega,o.2,by rw [h,kQ (by omega),kQ (by omega)];rfl⟩,fun q hq=>by
 rw [h] at hq;simp only [nM,Dl,or_false] at hq;obtain rfl | rfl:=hq
 · exact hx
 · exact hy⟩
theorem CK.one {n:Nat}{x z:jD}(hx:CK n x)(h:z.a=[x])(o:3<=z.e/\z.e < 6):CK (n+1) z:=⟨⟨by rw [h];exact (by decide:1<=5000),by omega,by omega,by rw [h,kQ (by omega),lF o.2];rfl⟩,fun q hq=>by
 rw [h] at hq;simp only [nM,Dl,or_false] at hq;subst hq;exact hx⟩
def EP (S:jy)(x:jD)(S':jy):Prop:=Nx S S'/\(S'.e=0->S.a < S'.a/\∃ n:Nat,(n:Int)<=S'.a - S.a/\CK n x)
theorem EP.eta {S S1:jy}{x:jD}(h:EP S x S1):EP S ⟨x.e,x.d,x.f,x.c,x.b,x.a⟩ ⟨S1.l,S1.a,S1.c,S1.e⟩:=by cases x;cases S1;exact h
def VK (f:jy->Int->Int->Option (jD × jy))(fu:Nat):Prop:=∀ S least nest,PS S->1<=least->least<=5->0<=nest->nest<=9->S.l.length+10 * (10 - nest)+(6 - least)<=(fu:Int)->kP (f S least nest) (fun r=>jB r (EP S))
def Tun (f:jy->Int->Option (jD × jy))(fu:Nat):Prop:=∀ S nest,PS S->0<=nest->nest<=9->S.l.length+10 * (10 - nest)<=(fu:Int)->kP (f S nest) (fun r=>jB r (EP S))
def Ttg (f:jy->Int->Option (jD × jy))(fu:Nat):Prop:=∀ S nest,PS S->0<=nest->nest<=8->S.l.length+10 * (10 - nest)<=(fu:Int)+1->kP (f S nest) (fun r=>jB r fun x S'=>EP S x S'/\1<=x.e/\x.e<=3)
section
variable {fu:Nat}{f:jy->Int->Int->Option (jD × jy)}{g t:jy->Int->Option (jD × jy)}
theorem OH (hf:VK f fu){least nest:Int}(h1:1<=least)(h2:least<=5)(h3:0<=nest)(h4:nest<=9){S0:jy}(h0:PS S0)(hb:S0.l.length+10 * (10 - nest)+(6 - least)<=(fu:Int)+1) :
  ∀ (n:Nat)(x:jD)(S:jy),S0.l.length+1<=n+S.a->EP S0 ⟨x.e,x.d,x.f,x.c,x.b,x.a⟩ ⟨S.l,S.a,S.c,S.e⟩->
  kP (qd fu f g t least nest n x.e x.d x.f x.c x.b x.a S.l S.a S.c S.e)
   (qp (fun r=>jB r fun a r=>jB r fun b r=>jB r fun c r=>jB r fun d r=>jB r fun e r=>jB r fun f r=>jB r fun g r=>jB r fun h r=>jB r fun i j=>EP S0 ⟨a,b,c,d,e,f⟩ ⟨g,h,i,j⟩) (fun r=>jB r (EP S0)))
 | 0,x,S,hn,hx=>by have:=hx.1.hi;dsimp only at this;omega
 | n+1,x,S,hn,hx=>by
  rw [qd];have hS:=hx.1.ps h0;refine .ite (fun c=>?_) (fun c=>.go hx);refine .ite (fun c2=>?_) (fun c=>.go hx);refine .bp (aaq hS) fun lv op hl=>?_;refine .ite (fun d=>.out hx) (fun d=>?_);obtain ⟨hl,ho⟩:=hl (by omega);have hs:=Nx.step hS hl;have hw:wr (least+1)=least+1:=l8 (by omega) (by omega);rw [hw];refine .bp (hf _ _ _ (hs.ps hS) (by omega) (by omega) h3 h4 (by rw [hs.l,hx.1.l];omega)) fun y S1 hy=>?_;have hx':EP S0 ⟨op,0,0,be,be,[⟨x.e,x.d,x.f,x.c,x.b,x.a⟩,y]⟩ S1:=by refine ⟨(hx.1.trans hs).trans hy.1,fun z=>?_⟩;obtain ⟨a1,n1,a2,a3⟩:=hy.2 z;obtain ⟨b1,n2,b2,b3⟩:=hx.2 c;have hw:wr (S.a+1)=S.a+1:=hS.Tm;dsimp only at a1 a2;rw [hw] at a1 a2;dsimp only at b1 b2;exact ⟨by omega,max n1 n2+1,by omega,CK.two (b3.mono (by omega)) (a3.mono (by omega)) rfl ho⟩
  refine .ite (fun c3=>.out hx') fun c3=>?_;refine OH hf h1 h2 h3 h4 h0 hb n ⟨op,0,0,be,be,_⟩ S1 ?_ hx';have:=hy.1.lo;have hw:wr (S.a+1)=S.a+1:=hS.Tm;dsimp only at this;omega
theorem acA (hf:VK f fu)(hg:Tun g fu):VK (uI fu f g t) (fu+1):=by
 intro S least nest h h1 h2 h3 h4 hb;unfold uI;have hA:kP (uq fu f g t S least nest) (qp (fun r=>jB r fun a r=>jB r fun b r=>jB r fun c r=>jB r fun d r=>jB r fun e r=>jB r fun f r=>jB r fun g r=>jB r fun h r=>jB r fun i j=>EP S ⟨a,b,c,d,e,f⟩ ⟨g,h,i,j⟩) (fun r=>jB r (EP S))):=by
  unfold uq;refine .ite (fun c=>?_) (fun c=>?_)
  · exact .bp (hg S nest h h3 h4 (by omega)) fun x S1 hx=>.go hx.eta
  · have hw:wr (least+1)=least+1:=l8 (by omega) (by omega);rw [hw];exact .bp (hf S _ nest h (by omega) (by omega) h3 h4 (by omega)) fun x S1 hx=>.go hx.eta
 refine .eo hA fun s hs=>?_;refine .pp hs fun a r hs=>.pp hs fun b r hs=>.pp hs fun c r hs=>.pp hs fun d r hs=>.pp hs fun e r hs=>.pp hs fun f' r hs=>.pp hs fun g' r hs=>.pp hs fun h' r hs=>.pp hs fun i j hs=>?_;have:=h.lo;have:=hs.1.lo;dsimp only at this;refine .eo (OH hf h1 h2 h3 h4 h (by omega) fu ⟨a,b,c,d,e,f'⟩ ⟨g',h',i,j⟩ (by dsimp only;omega) hs) fun s hs=>?_;exact .pp hs fun a r hs=>.pp hs fun b r hs=>.pp hs fun c r hs=>.pp hs fun d r hs=>.pp hs fun e r hs=>.pp hs fun f' r hs=>.pp hs fun g' r hs=>.pp hs fun h' r hs=>.pp hs fun i j hs=>.mk hs
theorem LJ (hg:Tun g fu){S:jy}{nest:Int}(h:PS S)(h3:0≤nest)(h4:nest≤8)(hb:S.l.length+10 * (9 - nest)≤(fu:Int)):∀ (l:List BA)(k:Nat),k+l.length≤2→
  kP (rY fu f g t S nest l k) (qp (fun _=>True) (fun r=>jB r (EP S)))
 | [],_,_=>.go kE
 | u :: r,k,hk=>by rw [uM] at hk;rw [rY];refine .bd (DW h) fun b hb2=>.ite (fun c=>?_) fun c=>LJ hg h h3 h4 hb r (k+1) (by omega);have hs:=Nx.step h (hb2 c);have hw:wr (nest+1)=nest+1:=l8 (by omega) (by omega);rw [hw];refine .bp (hg _ _ (hs.ps h) (by omega) (by omega) (by dsimp only;omega)) fun x S1 hx=>.out ⟨hs.trans hx.1,fun z=>?_⟩;obtain ⟨a1,n1,a2,a3⟩:=hx.2 z;have hw:wr (S.a+1)=S.a+1:=h.Tm;dsimp only at a1 a2;rw [hw] at a1 a2;exact ⟨by omega,n1+1,by omega,CK.one a3 rfl (by dsimp only;rw [l8 (by omega) (by omega)];omega)⟩
theorem ZR (hf:VK f fu)(hg:Tun g fu)(ht:Ttg t fu):Tun (BH fu f g t) (fu+1):=by
 intro S nest h h3 h4 hb;unfold BH;refine .ite (fun c=>.mk ⟨Nx.rfl' h,fun z=>absurd z c⟩) fun c=>?_;refine .bd (WS h) fun b hb2=>.ite (fun d=>?_) fun d=>?_
 · exact .bd (ED h (by decide)) fun S1 h1=>.mk ⟨h1.1,fun z=>absurd z h1.2.1⟩
 have hm:=hb2 (by simpa using d);have hs:=Nx.step h hm;have hw:wr (S.a+1)=S.a+1:=h.Tm;refine .ite (fun d=>?_) fun d=>?_
 · exact .bd (ED h (by decide)) fun S1 h1=>.mk ⟨h1.1,fun z=>absurd z h1.2.1⟩
 refine .eo (LJ hg h h3 (by omega) (by omega) _ 0 (by decide)) fun _ _=>?_;refine .bd (Et h) fun b _=>.ite (fun c2=>?_) fun c2=>?_
 · have hw2:wr (wr (S.a+1) - 1)=S.a:=by rw [hw];have:=h.lo;have:=h.hi;have:=h.tl.len;rw [l8 (by omega) (by omega)];omega
   rw [hw2];refine .bd (.ix h.lo h.hi) fun e he=>.mk ⟨hs,fun _=>?_⟩;dsimp only;rw [hw];exact ⟨by omega,1,by omega,CK.leaf rfl (by dsimp only;omega)⟩
 refine .bd (DW h) fun b _=>.ite (fun c3=>?_) fun c3=>?_
 · have hwn:wr (nest+1)=nest+1:=l8 (by omega) (by omega);rw [hwn];refine .bp (hf _ _ _ (hs.ps h) (by decide) (by decide) (by omega) (by omega) (by dsimp only;omega)) fun x S1 hx=>?_;refine .bd (uE ((hs.trans hx.1).ps h)) fun S2 h2=>.mk ⟨(hs.trans hx.1).trans h2.1,fun z=>?_⟩;obtain ⟨a1,n1,a2,a3⟩:=hx.2 (h2.1.e z);have:=h2.1.lo;dsimp only at a1 a2;rw [hw] at a1 a2;exact ⟨by omega,n1,by omega,a3⟩
 · exact .bp (ht S nest h h3 (by omega) (by omega)) fun x S1 hx=>.mk hx.1
theorem XE (hf:VK f fu):Ttg (zF fu f g t) (fu+1):=by
 intro S nest h h3 h4 hb;unfold zF;refine .bp (DK h) fun n S1 h1=>?_;have hS1:=h1.1.1.ps h;have hl:=h1.1.1.l;have hw:S1.e=0->wr (S1.a+1)=S1.a+1:=fun _=>hS1.Tm;have hJ:kP (xV fu f g t n S1) (qp (fun _=>True) (fun r=>jB r fun x S'=>EP S x S'/\1<=x.e/\x.e<=3)):=by unfold xV;refine .ite (fun c=>?_) fun c=>.go kE;refine .bd (DW hS1) fun b hb2=>.ite (fun d=>?_) fun d=>.go kE;have hs:=Nx.step hS1 (hb2 d);refine .bp (DK (hs.ps hS1)) fun n2 S2 h2=>.out ⟨⟨(h1.1.1.trans hs).trans h2.1.1,fun z=>?_⟩,by dsimp only;omega,by dsimp only;omega⟩;have a1:=h1.1.2 c;have a2:=h2.1.1.lo;dsimp only at a2;rw [hw c] at a2;exact ⟨by omega,1,by omega,CK.leaf rfl (by dsimp only;omega)⟩
 have hend:∀ x:jD,x.a=[]->x.e=1->EP S x S1:=fun x hx ho=>⟨h1.1.1,fun z=>by have a1:=h1.1.2 z;exact ⟨by omega,1,by omega,CK.leaf hx (by omega)⟩⟩;refine .eo hJ fun _ _=>?_;refine .ite (fun c=>?_) fun c=>.mk ⟨hend _ rfl rfl,by dsimp only;omega,by dsimp only;omega⟩;refine .bd (DW hS1) fun b hb2=>.ite (fun d=>?_) fun d=>.mk ⟨hend _ rfl rfl,by dsimp only;omega,by dsimp only;omega⟩;have hs:=Nx.step hS1 (hb2 d);have hwn:wr (nest+1)=nest+1:=l8 (by omega) (by omega);rw [hwn];refine .bp (hf _ _ _ (hs.ps hS1) (by decide) (by decide) (by omega) (by omega) (by dsimp only;rw [hl];omega)) fun x S2 hx=>?_;refine .bd (uE ((hs.trans hx.1).ps hS1)) fun S3 h3=>.mk ⟨⟨(h1.1.1.trans (hs.trans hx.1)).trans h3.1,fun z=>?_⟩,by dsimp only;omega,by dsimp only;omega⟩;obtain ⟨a1,n1,a2,a3⟩:=hx.2 (h3.1.e z);have a4:=h1.1.2 c;have a5:=h3.1.lo;dsimp only at a1 a2;rw [hw c] at a1 a2;exact ⟨by omega,n1+1,by omega,CK.one a3 rfl (by dsimp only;omega)⟩
end
theorem zo:∀ fu:Nat,VK (mP fu) fu∧Tun (Bo fu) fu∧Ttg (uU fu) fu
 | 0=>by refine ⟨fun S a b h _ _ _ _ hb=>?_,fun S b h _ _ hb=>?_,fun S b h _ _ hb=>?_⟩;all_goals have:=h.hi;have:=h.lo;omega
 | fu+1=>⟨acA (zo fu).1 (zo fu).2.1,ZR (zo fu).1 (zo fu).2.1 (zo fu).2.2,XE (zo fu).1⟩
structure Shape (x:jC):Prop where
 decl:x.b=1->x.e=[]/\x.a=[]/\x.d=[]/\x.i=[]/\x.k=be
 call:x.b=3->x.k≠be/\∀ y ∈ x.e,1<=y.e/\y.e<=3
 func:x.k≠be->(x.b=3\/x.b=6)/\x.d=[]/\x.i=[]
 type:0 < x.m->x.j=be
 kind:1<=x.b/\x.b<=10
 ret:x.b=6->x.e=[]
 args:x.k=be->x.b≠1->x.b≠8->x.b≠10->x.a≠[]
 targ:x.b=2->x.e≠[]
 len:x.m<=8
 tops:∀ y ∈ x.e,1<=y.e/\y.e<=3
def Ef (E:Nat):Nat→jC→Prop
 | 0,_=>False
 | n+1,x=>(x.e.length<=1/\∀ y ∈ x.e,CK E y)/\(x.a.length<=5000/\∀ y ∈ x.a,CK E y)/\(x.d.length<=5000/\∀ y ∈ x.d,Ef E n y)/\(x.i.length<=5000/\∀ y ∈ x.i,Ef E n y)/\Shape x
theorem Ef.mono {E:Nat}:∀ {n m:Nat}{x:jC},Ef E n x→n≤m→Ef E m x
 | 0,_,_,h,_=>h.elim
 | n+1,0,_,h,k=>by omega
 | n+1,m+1,x,h,k=>⟨h.1,h.2.1,⟨h.2.2.1.1,fun y hy=>Ef.mono (h.2.2.1.2 y hy) (by omega)⟩,⟨h.2.2.2.1.1,fun y hy=>Ef.mono (h.2.2.2.1.2 y hy) (by omega)⟩,h.2.2.2.2⟩
theorem nG {α:Type}{p:α->Prop}{b:Nat}:([]:List α).length<=b/\∀ y ∈ ([]:List α),p y:=⟨uL _,fun y hy=>by cases hy⟩
theorem len1 {α:Type}{p:α->Prop}{b:Nat}{x:α}(h:p x)(hb:1<=b):[x].length<=b/\∀ y ∈ [x],p y:=⟨hb,fun y hy=>by
 simp only [nM,Dl,or_false] at hy;subst hy;exact h⟩
theorem EP.ok {S S':jy}{x:jD}(h:PS S)(k:EP S x S')(z:S'.e=0):CK S.l.length x:=by obtain ⟨a,n,b,c⟩:=k.2 z;exact c.mono (by have:=k.1.hi;have:=h.lo;omega)
theorem Oh {fu:Nat}{S0:jy}(h0:PS S0)(hf:S0.l.length+105≤fu){O:List jD × jy→Prop}:∀ (n:Nat)(out:List jD)(S:jy),Nx S0 S→S0.l.length+1≤n+S.a→(S.e=0→(out.length:Int)≤S.a∧∀ y ∈ out,CK S0.l.length y)→
  1<=n->kP (qy fu n S.l S.a S.c S.e out) (qp (fun r=>jB r fun a r=>jB r fun b r=>jB r fun c r=>jB r fun d o=>Nx S ⟨a,b,c,d⟩/\(d=0->(o.length:Int)<=b/\∀ y ∈ o,CK S0.l.length y)) O)
 | 0,out,S,h,hn,ho,h1=>by omega
 | n+1,out,S,h,hn,ho,_=>by
  have hS:=h.ps h0;rw [qy];refine .ite (fun c=>?_) (fun c=>.go ⟨Nx.rfl' hS,ho⟩);refine .bd (DW hS) fun b hb=>?_;refine .ite (fun d=>?_) (fun d=>.go ⟨Nx.rfl' hS,ho⟩);have hs:=Nx.step hS (hb d);have hw:wr (S.a+1)=S.a+1:=hS.Tm;have hl:S.l=S0.l:=h.l;refine .bp ((zo fu).1 _ 1 0 (hs.ps hS) (by decide) (by decide) (by decide) (by decide) (by dsimp only;rw [hl];omega)) fun x S1 hx=>?_;have hlen:=h0.tl.len;have hi:=h.hi;refine .bd (.app (by have:=(ho c).1;simp only [uM,yG];omega)) fun r hr=>?_;have k:=hs.trans hx.1;have hat:=hx.1.lo;dsimp only at hat;rw [hw] at hat;have hlo:=h.lo;have h0lo:=h0.lo;have hhi:=k.hi;rw [hl] at hhi;refine (Oh h0 hf (O:=O) n r S1 (h.trans k) (by omega) (fun z=>?_) (by omega)).imp fun v hv=>?_
  · subst hr;have:=(ho c).1;refine ⟨by simp only [F9,uM,yG];omega,fun y hy=>?_⟩;obtain hy | hy:=qg.1 hy
    · exact (ho c).2 y hy
    · simp only [nM,Dl,or_false] at hy;subst hy;have:=hx.ok (hs.ps hS) z;dsimp only at this
      rwa [hl] at this
  · obtain v | v:=v
    · obtain ⟨a,b,c,d,o⟩:=v;exact ⟨k.trans hv.1,hv.2⟩
    · exact hv
theorem acv {fu:Nat}{S:jy}(h:PS S)(hf:S.l.length+105<=fu):kP (uZ fu S) (fun r=>jB r fun l S'=>Nx S S'/\(S'.e=0->S.a < S'.a/\l.length<=5000/\∀ y ∈ l,CK S.l.length y)):=by
 unfold uZ;refine .bd (uE h) fun S1 h1=>?_;have hS1:=h1.1.ps h;have hl:=h1.1.l;have hJ:kP (uR fu S1) (qp (fun r=>jB r fun o r=>jB r fun a r=>jB r fun b r=>jB r fun c d=>Nx S1 ⟨a,b,c,d⟩/\(d=0->(o.length:Int)<=b/\∀ y ∈ o,CK S.l.length y)) (fun _=>False)):=by
  unfold uR;have hnil:Nx S1 ⟨S1.l,S1.a,S1.c,S1.e⟩/\(S1.e=0->(([]:List jD).length:Int)<=S1.a/\∀ y ∈ ([]:List jD),CK S.l.length y):=⟨Nx.rfl' hS1,fun _=>⟨by have:=hS1.lo;simp only [yG];omega,fun y hy=>by cases hy⟩⟩;refine .ite (fun c=>?_) fun c=>.go hnil;refine .bd (DW hS1) fun b hb=>.ite (fun d=>?_) fun d=>.go hnil;refine .bp ((zo fu).1 _ 1 0 hS1 (by decide) (by decide) (by decide) (by decide) (by rw [hl];omega)) fun x S2 hx=>?_;refine .bd (.app (by simp only [uM,yG];omega)) fun r hr=>?_;have h2:=hx.1.ps hS1;have a1:=hx.1.lo;have a2:=hS1.lo;refine .Gp (Oh h (by omega) fu r S2 (h1.1.trans hx.1) (by omega) (fun z=>?_) (by omega)) fun s hs=>?_
  · subst hr;obtain ⟨b1,n,b2,b3⟩:=hx.2 z;refine ⟨by simp only [BZ,uM,yG];omega,fun y hy=>?_⟩;simp only [BZ,nM,Dl,or_false] at hy;subst hy;have:=hx.ok hS1 z
    rwa [hl] at this
  · refine .pp hs fun a r hs=>.pp hs fun b r hs=>.pp hs fun c r hs=>.pp hs fun d o hs=>.go ⟨hx.1.trans hs.1,hs.2⟩
 refine .el hJ (fun s hs=>?_) fun _ z=>z.elim;refine .pp hs fun o r hs=>.pp hs fun a r hs=>.pp hs fun b r hs=>.pp hs fun c d hs=>?_;refine .bd (uE (hs.1.ps hS1)) fun S3 h3=>.mk ⟨(h1.1.trans hs.1).trans h3.1,fun z=>?_⟩;have k1:=h3.1.e z;have k2:=hs.2 k1;have k3:=h1.2 (hs.1.e k1);have k4:=hs.1.lo;have k5:=h3.1.lo;have k6:=hs.1.hi;have k7:=h.tl.len;dsimp only at k4 k5 k6;rw [hl] at k6;exact ⟨by omega,by omega,k2.2⟩
theorem aaY {fu:Nat}{S:jy}{x:jC}(h:PS S)(h1:x.j=be)(h2:x.m=0):kP (Bq fu S x) (fun r=>jB r fun S' x'=>Nx S S'/\(S'.e=0->S.a < S'.a/\∃ T L,x'=⟨x.b,x.g,x.n,x.c,T,L,x.f,x.e,x.k,x.h,x.a,x.d,x.i⟩/\(0 < L->T=be)/\L<=8)):=by
 obtain ⟨a1,a2,a3,a4,a5,a6,a7,a8,a9,a10,a11,a12,a13⟩:=x;dsimp only at h1 h2;subst h1 h2;unfold Bq;refine .ite (fun c=>.mk ⟨Nx.rfl' h,fun z=>absurd z c⟩) fun c=>?_;refine .bd (DW h) fun b hb=>.ite (fun d=>?_) fun d=>?_
 · refine .bp (DK h) fun n S1 hn=>.mk ⟨hn.1.1,fun z=>?_⟩;have:=hn.1.2 z;exact ⟨by omega,n,0,rfl,fun z=>by omega,by decide⟩
 have hs:=Nx.step h (hb (by simpa using d));have hP:=hs.ps h;have hw:wr (S.a+1)=S.a+1:=h.Tm;have hlo:=h.lo;refine .bd (DW hP) fun b hb=>.ite (fun d=>?_) fun d=>?_
 · exact .mk ⟨hs,fun z=>⟨by dsimp only;omega,be,0,rfl,fun _=>rfl,by decide⟩⟩
 have hs2:=Nx.step hP (hb (by simpa using d));dsimp only at hs2;have hP2:=hs2.ps hP;have hw2:wr (wr (S.a+1)+1)=S.a+2:=by have:=hP.Tm;dsimp only at this;rw [this];omega
 refine .bd (Et hP2) fun b hb=>.ite (fun d=>?_) fun d=>?_
 · refine .bd (ED hP2 (by decide)) fun S1 hS1=>.mk ⟨(hs.trans hs2).trans hS1.1,fun z=>absurd z hS1.2.1⟩
 obtain ⟨tk,htk,_,_,hb⟩:=hb;have hb:=hb (by simpa using d) (by decide);refine .bd (.ix hP2.lo hP2.hi) fun e he=>?_;have hJ:kP (zl fu e) (qp (fun s=>s=false->e.d<=8) (fun _=>False)):=by unfold zl;exact .ite (fun _=>.go fun z=>by cases z) fun _=>.go fun z=>by have:=of_decide_eq_false z;omega
 refine .el hJ (fun s hs8=>?_) fun _ z=>z.elim;refine .ite (fun _=>?_) fun c8=>?_
 · refine .bd (ED hP2 (by decide)) fun S1 hS1=>.mk ⟨(hs.trans hs2).trans hS1.1,fun z=>absurd z hS1.2.1⟩
 have hs3:=Nx.step hP2 hb;refine .bd (uE (hs3.ps hP2)) fun S1 hS1=>.mk ⟨((hs.trans hs2).trans hs3).trans hS1.1,fun z=>⟨?_,be,e.d,rfl,fun _=>rfl,hs8 (by simpa using c8)⟩⟩;have k1:=hS1.1.lo;have k2:=hP2.Tm;dsimp only at k1 k2;rw [k2,hw2] at k1;omega
theorem IZ {fu:Nat}{S:jy}{x:jC}{call:Bool}(h:PS S)(hf:S.l.length+105<=fu):kP (tN fu S x call) (fun r=>jB r fun S' x'=>Nx S S'/\(S'.e=0->S.a < S'.a/\∃ f a,x'=⟨x.b,x.g,x.n,x.c,x.j,x.m,x.f,x.e,f,x.h,a,x.d,x.i⟩/\(a.length<=5000/\∀ y ∈ a,CK S.l.length y)/\(f=x.k\/call=true)/\(call=true->uW fu S=some true->f≠be)/\(f=be->a≠[]))):=by
 unfold tN;have hJ:kP (zI fu S x call) (qp (fun _=>S.e=0->call=true->uW fu S=some true->False) (fun r=>jB r fun S' x'=>Nx S S'/\(S'.e=0->S.a < S'.a/\∃ f a,x'=⟨x.b,x.g,x.n,x.c,x.j,x.m,x.f,x.e,f,x.h,a,x.d,x.i⟩/\(a.length<=5000/\∀ y ∈ a,CK S.l.length y)/\(f=x.k\/call=true)/\(call=true->uW fu S=some true->f≠be)/\(f=be->a≠[])))):=by
  unfold zI;refine .ite (fun c=>?_) fun c=>.go fun z=>absurd z c;refine .ite (fun c2=>?_) fun c2=>.go fun _ z=>absurd z c2;refine kP.XT (YR h) fun b hb _=>.ite (fun d=>?_) fun d=>.go fun _ _ z=>by rw [hb] at z;exact d (Kj z)
  refine .bp (DK h) fun n S1 h1=>?_;have hS1:=h1.1.1.ps h;have hl:=h1.1.1.l;refine .bp (acv hS1 (by rw [hl];omega)) fun a S2 h2=>.out ⟨h1.1.1.trans h2.1,fun z=>?_⟩;obtain ⟨k1,k2,k3⟩:=h2.2 z;rw [hl] at k3;have k4:=h1.1.1.lo;exact ⟨by omega,n,a,rfl,⟨k2,k3⟩,.inr c2,fun _ _=>h1.2.1 (h2.1.e z),fun q=>absurd q (h1.2.1 (h2.1.e z))⟩
 refine .eo hJ fun _ hs=>?_;refine .bp ((zo fu).1 _ 1 0 h (by decide) (by decide) (by decide) (by decide) (by omega)) fun y S1 hy=>.mk ⟨hy.1,fun z=>?_⟩;exact ⟨(hy.2 z).1,x.k,[y],rfl,len1 (hy.ok h z) (by decide),.inl rfl,fun c d=>(hs (hy.1.e z) c d).elim,fun _ q=>(by cases q)⟩
def TP (N n:Nat)(S:jy)(x:jC)(S':jy):Prop:=Nx S S'/\(S'.e=0->S.a < S'.a/\Ef N n x)
theorem Xo {fu n:Nat}{S:jy}{ln:Int}(h:PS S)(hf:S.l.length+105<=fu):kP (zq fu S ⟨0,ln,0,be,be,0,0,[],be,0,[],[],[]⟩) (fun r=>jB r fun S' x=>TP S.l.length (n+1) S x S'):=by
 unfold zq;refine kP.XT (YR h) fun b hb _=>.ite (fun d=>?_) fun d=>?_
 · subst d;refine .bp (IZ h hf) fun S1 x h1=>.mk ⟨h1.1,fun z=>?_⟩;obtain ⟨k1,f,a,rfl,k2,k3,k4,k6⟩:=h1.2 z;have k5:=k4 rfl hb;refine ⟨k1,nG,k2,nG,nG,⟨fun z=>(by cases z),fun _=>⟨k5,fun y hy=>(by cases hy)⟩,fun _=>⟨.inl rfl,rfl,rfl⟩,fun z=>absurd z (Int.lt_irrefl 0),(by dsimp only;decide),fun z=>(by cases z),fun z=>absurd z k5,fun z=>(by cases z),(by dsimp only;decide),fun y hy=>(by cases hy)⟩⟩
 refine .bp ((zo fu).2.2 S 0 h (by decide) (by decide) (by omega)) fun y S1 h1=>?_;have hS1:=h1.1.1.ps h;refine .bd (uE hS1) fun S2 h2=>?_;have hl:S2.l=S.l:=h2.1.l.trans h1.1.1.l;refine .bp (IZ (h2.1.ps hS1) (by rw [hl];exact hf)) fun S3 x h3=>?_;have k:=(h1.1.1.trans h2.1).trans h3.1;have hy:S3.e=0->[y].length<=1/\∀ q ∈ [y],CK S.l.length q:=fun z=>len1 (h1.1.ok h (h2.1.e (h3.1.e z))) (nD 1);have ht:∀ q ∈ [y],1<=q.e/\q.e<=3:=fun q hq=>by simp only [nM,Dl,or_false] at hq;subst hq;exact ⟨h1.2.1,h1.2.2⟩
 have hat:S3.e=0->S.a < S3.a:=fun z=>by have:=(h1.1.2 (h2.1.e (h3.1.e z))).1;have:=h2.1.lo;have:=h3.1.lo;omega
 refine .ite (fun c=>.mk ⟨k,fun z=>?_⟩) fun c=>.mk ⟨k,fun z=>?_⟩
 · obtain ⟨k1,f,a,rfl,k2,k3,k4,k6⟩:=h3.2 z;rw [hl] at k2;dsimp only at c;refine ⟨hat z,hy z,k2,nG,nG,⟨fun z=>(by cases z),fun z=>(by cases z),fun z=>absurd c z,fun z=>absurd z (Int.lt_irrefl 0),(by dsimp only;decide),fun z=>(by cases z),fun z _ _ _=>k6 z,fun _ z=>(by cases z),(by dsimp only;decide),ht⟩⟩
 · obtain ⟨k1,f,a,rfl,k2,k3,k4,k6⟩:=h3.2 z;rw [hl] at k2;dsimp only at c;refine ⟨hat z,hy z,k2,nG,nG,⟨fun z=>(by cases z),fun _=>⟨c,ht⟩,fun _=>⟨.inl rfl,rfl,rfl⟩,fun z=>absurd z (Int.lt_irrefl 0),(by dsimp only;decide),fun z=>(by cases z),fun z=>absurd z c,fun z=>(by cases z),(by dsimp only;decide),ht⟩⟩
def acV (f:jy->Int->Option ((List jC) × Int × jy))(fu:Nat):Prop:=∀ S nest,PS S->1<=nest->nest<=9->S.l.length+110+2 * (10 - nest)+1<=(fu:Int)->kP (f S nest) (fun r=>jB r fun l r=>jB r fun _ S'=>(Nx S S'/\(S'.e=0->S.a < S'.a/\l.length<=5000/\∀ y ∈ l,Ef S.l.length (11 - nest).toNat y))/\l.length<=5000)
def aac (f:jy->Int->Option (jC × jy))(fu:Nat):Prop:=∀ S nest,PS S->1<=nest->nest<=8->S.l.length+110+2 * (10 - nest)<=(fu:Int)->kP (f S nest) (fun r=>jB r fun x S'=>TP S.l.length (11 - nest).toNat S x S')
section
variable {fu:Nat}{f:jy->Int->Option ((List jC) × Int × jy)}{g:jy->Int->Option (jC × jy)}
theorem EG (hg:aac g fu){nest:Int}(h1:1≤nest)(h2:nest≤9){S0:jy}(h0:PS S0)(hf:S0.l.length+110+2 * (10 - nest)+1≤(fu:Int)+1){O:(List jC) × Int × jy→Prop}:∀ (n:Nat)(out:List jC)(S:jy),Nx S0 S→(S.e=0→S0.l.length+1≤n+S.a)→1≤n→(S.e=0→(out.length:Int)≤S.a∧∀ y ∈ out,Ef S0.l.length (11 - nest).toNat y)→out.length≤5000→
  kP (qJ fu f g nest n out S.l S.a S.c S.e) (qp (fun r=>jB r fun o r=>jB r fun a r=>jB r fun b r=>jB r fun c d=>(Nx S0 ⟨a,b,c,d⟩/\(d=0->(o.length:Int)<=b/\∀ y ∈ o,Ef S0.l.length (11 - nest).toNat y))/\o.length<=5000) O)
 | 0,out,S,h,hn,hn1,ho,hq=>by omega
 | n+1,out,S,h,hn,_,ho,hq=>by
  have hS:=h.ps h0;have hlen:=h0.tl.len;have hi:=h.hi;have hlo:=hS.lo;rw [qJ];refine .ite (fun c=>?_) (fun c=>.go ⟨⟨h,ho⟩,hq⟩);have hn:=hn c;refine .bd (DW hS) fun b hb=>.ite (fun d=>?_) (fun d=>.go ⟨⟨h,ho⟩,hq⟩);refine .bd (Yq hS) fun b hb=>.ite (fun d=>?_) (fun d=>.ite (fun d2=>?_) fun d2=>?_)
  · exact .bd (ED hS (by decide)) fun S1 k=>EG hg h1 h2 h0 hf n out S1 (h.trans k.1) (fun z=>absurd z k.2.1) (by omega) (fun z=>absurd z k.2.1) hq
  · exact .bd (ED hS (by decide)) fun S1 k=>EG hg h1 h2 h0 hf n out S1 (h.trans k.1) (fun z=>absurd z k.2.1) (by omega) (fun z=>absurd z k.2.1) hq
  · refine .bp (hg _ nest hS h1 (by omega) (by dsimp only;rw [h.l];omega)) fun x S1 hx=>?_;have ho:=ho c;refine .bd (.app (by simp only [uM,yG];omega)) fun r hr=>?_;refine EG hg h1 h2 h0 hf n r S1 (h.trans hx.1) (fun z=>?_) (by omega) (fun z=>?_) ?_
    · have:=(hx.2 z).1;dsimp only at this;omega
    · have k1:=(hx.2 z).1;have k2:=(hx.2 z).2;dsimp only at k1 k2;rw [h.l] at k2;subst hr;refine ⟨by simp only [F9,uM,yG];omega,fun y hy=>?_⟩;obtain hy | hy:=qg.1 hy
      · exact ho.2 y hy
      · simp only [nM,Dl,or_false] at hy;subst hy;exact k2
    · subst hr;simp only [F9,uM,yG];omega
theorem Z9 (hg:aac g fu):acV (BG fu f g) (fu+1):=by
 intro S nest h h1 h2 hf;unfold BG;refine .bd (uE h) fun S1 hS1=>?_;have hP:=hS1.1.ps h;have hlo:=h.lo;have hlo1:=hS1.1.lo;have hi1:=hS1.1.hi;refine .el (EG (O:=fun _=>False) hg h1 h2 h (by omega) fu [] S1 hS1.1 (fun _=>by omega) (by omega) (fun _=>⟨by simp only [yG];omega,fun y hy=>by cases hy⟩) (uL _)) (fun s hs=>?_) fun _ z=>z.elim;refine .pp hs fun o r hs=>.pp hs fun a r hs=>.pp hs fun b r hs=>.pp hs fun c d hs=>?_;obtain ⟨hs,hq⟩:=hs;have hP2:=hs.1.ps h;have hJ:kP (zu fu f g a b d) (qp (fun _=>True) (fun _=>False)):=by unfold zu;exact .ite (fun _=>.bd (.ix hP2.lo hP2.hi) fun _ _=>.go kE) fun _=>.go kE
 refine .el hJ (fun ln _=>?_) fun _ z=>z.elim;refine .bd (uE hP2) fun S3 h3=>.mk ⟨⟨hs.1.trans h3.1,fun z=>?_⟩,hq⟩;have k0:=h3.1.e z;have k1:=h3.2 z;have k2:=hs.1.lo;have k3:=hs.2 k0;have k4:=hs.1.hi;have k5:=h.tl.len;dsimp only at k1 k2 k3 k4;exact ⟨by omega,by omega,k3.2⟩
theorem Tf (hf:acV f fu):aac (vk fu f g) (fu+1):=by
 intro S nest h h1 h2 hfu;have hlo:=h.lo;unfold vk;refine .bd (.ix h.lo h.hi) fun e he=>?_;have hJ:kP (uV fu f g S e) (qp (fun r=>jB r fun w a=>Nx S ⟨S.l,a,S.c,S.e⟩) (fun _=>False)):=by unfold uV;refine .bd (Et h) fun b hb=>.ite (fun d=>.go ?_) fun d=>.go (Nx.rfl' h);obtain ⟨_,_,_,_,hb⟩:=hb;exact Nx.step h (hb d (by decide))
 refine .el hJ (fun s hs=>.pp hs fun w a hs=>?_) fun _ z=>z.elim;have hP:=hs.ps h;have ha:S.a<=a:=hs.lo;have hN:(11 - nest).toNat=(10 - nest).toNat+1:=by omega
 have hn:wr (nest+1)=nest+1:=l8 (by omega) (by omega);have hd:(11 - (nest+1)).toNat=(10 - nest).toNat:=by omega
 rw [hN,hn];have blk:∀ S1,Nx S S1->kP (f S1 (nest+1)) (fun r=>jB r fun l r=>jB r fun _ S'=>Nx S1 S'/\(S'.e=0->S1.a < S'.a/\l.length<=5000/\∀ y ∈ l,Ef S.l.length (10 - nest).toNat y)):=fun S1 k=>by have:=hf S1 (nest+1) (k.ps h) (by omega) (by omega) (by rw [k.l];omega);rw [k.l,hd] at this;refine this.imp fun v hv=>?_;obtain ⟨l,b,S2⟩:=v;exact hv.1
 have expr:∀ S1,Nx S S1->kP (mP fu S1 1 0) (fun r=>jB r fun x S'=>Nx S1 S'/\(S'.e=0->S1.a < S'.a/\CK S.l.length x)):=fun S1 k=>by
   refine ((zo fu).1 S1 1 0 (k.ps h) (by decide) (by decide) (by decide) (by decide) (by rw [k.l];omega)).imp fun v hv=>?_;obtain ⟨x,S2⟩:=v;refine ⟨hv.1,fun z=>⟨(hv.2 z).1,?_⟩⟩;have:=EP.ok (k.ps h) hv z
   rwa [k.l] at this
 have e1:(0:Int) < 0->be=be:=fun _=>rfl;have e2:be≠be->∀ {p:Prop},p:=fun z=>absurd rfl z;refine .ite (fun c=>?_) fun c=>.ite (fun c=>?_) fun c=>.ite (fun c=>?_) fun c=>.ite (fun c=>?_) fun c=>.ite (fun c=>?_) fun c=>.ite (fun c=>?_) fun c=>.ite (fun c=>?_) fun c=>?_
 · -- var
   refine .bp (DK hP) fun n S1 k1=>?_;have q1:=hs.trans k1.1.1;refine .bd (uE (q1.ps h)) fun S2 k2=>?_;have q2:=q1.trans k2.1;refine .bp (aaY (q2.ps h) rfl rfl) fun S3 x k3=>?_;have q3:=q2.trans k3.1;refine .bd (uE (q3.ps h)) fun S4 k4=>.mk ⟨q3.trans k4.1,fun z=>?_⟩;have z3:=k4.1.e z;obtain ⟨a1,T,L,rfl,a2,a8⟩:=k3.2 z3;have a3:=q2.lo;have a4:=k4.1.lo;exact ⟨by omega,nG,nG,nG,nG,⟨fun _=>⟨rfl,rfl,rfl,rfl,rfl⟩,fun z=>(by cases z),fun z=>absurd rfl z,a2,(by dsimp only;decide),fun z=>(by cases z),fun _ z=>absurd rfl z,fun z=>(by cases z),a8,fun y hy=>(by cases hy)⟩⟩
 · -- if
   refine .bp (expr _ hs) fun x S1 k1=>?_;have q1:=hs.trans k1.1;refine .bp (blk _ q1) fun l r k2=>.pp k2 fun ln S2 k2=>?_;have q2:=q1.trans k2.1;have fin:∀ S3 l2,Nx S2 S3->(S3.e=0->l2.length<=5000/\∀ y ∈ l2,Ef S.l.length (10 - nest).toNat y)->TP S.l.length ((10 - nest).toNat+1) S ⟨4,e.g,0,be,be,0,0,[],be,0,[x],l,l2⟩ S3:=fun S3 l2 k3 k4=>⟨q2.trans k3,fun z=>by
    have z2:=k3.e z;have z1:=k2.1.e z2;have a1:=k1.2 z1;have a2:=k2.2 z2;have a3:=k3.lo;have a4:=hs.lo;dsimp only at a1 a4;exact ⟨by omega,nG,len1 a1.2 (by decide),a2.2,k4 z,⟨fun z=>(by cases z),fun z=>(by cases z),fun z=>absurd rfl z,e1,(by dsimp only;decide),fun z=>(by cases z),fun _ _ _ _ z=>(by cases z),fun z=>(by cases z),(by dsimp only;decide),fun y hy=>(by cases hy)⟩⟩⟩
   have P2:=q2.ps h;refine .ite (fun d=>?_) fun d=>.mk (fin S2 [] (Nx.rfl' P2) fun _=>nG);refine .bd (DW P2) fun b hb=>.ite (fun d2=>?_) fun d2=>.mk (fin S2 [] (Nx.rfl' P2) fun _=>nG);have ks:=Nx.step P2 (hb d2);exact .bp (blk _ (q2.trans ks)) fun l2 r k3=>.pp k3 fun ln S3 k3=>.mk (fin S3 l2 (ks.trans k3.1) fun z=>(k3.2 z).2)
 · -- while
   refine .bp (expr _ hs) fun x S1 k1=>?_;have q1:=hs.trans k1.1;refine .bp (blk _ q1) fun l r k2=>.pp k2 fun ln S2 k2=>.mk ⟨q1.trans k2.1,fun z=>?_⟩;have z1:=k2.1.e z;have a1:=k1.2 z1;have a2:=k2.2 z;have a4:=hs.lo;dsimp only at a1 a4;exact ⟨by omega,nG,len1 a1.2 (by decide),a2.2,nG,⟨fun z=>(by cases z),fun z=>(by cases z),fun z=>absurd rfl z,e1,(by dsimp only;decide),fun z=>(by cases z),fun _ _ _ _ z=>(by cases z),fun z=>(by cases z),(by dsimp only;decide),fun y hy=>(by cases hy)⟩⟩
 · -- try
   refine .bp (blk _ hs) fun l r k2=>.pp k2 fun ln S2 k2=>?_;have q2:=hs.trans k2.1;refine .bd (uE (q2.ps h)) fun S3 k3=>?_;have q3:=q2.trans k3.1;refine .bp (DK (q3.ps h)) fun n S4 k4=>?_;have q4:=q3.trans k4.1.1;refine .bp (blk _ q4) fun l2 r k5=>.pp k5 fun ln S5 k5=>.mk ⟨q4.trans k5.1,fun z=>?_⟩;have z2:=k3.1.e (k4.1.1.e (k5.1.e z));have a2:=k2.2 z2;have a3:=k5.2 z;have a4:=hs.lo;have a5:=k3.1.lo;have a6:=k4.1.1.lo;dsimp only at a2 a4;exact ⟨by omega,nG,nG,a2.2,a3.2,⟨fun z=>(by cases z),fun z=>(by cases z),fun z=>absurd rfl z,e1,(by dsimp only;decide),fun z=>(by cases z),fun _ _ z=>absurd rfl z,fun z=>(by cases z),(by dsimp only;decide),fun y hy=>(by cases hy)⟩⟩
 · -- return
   refine .bp (IZ hP (by dsimp only;omega)) fun S1 x k1=>?_;have q1:=hs.trans k1.1;refine .bd (uE (q1.ps h)) fun S2 k2=>.mk ⟨q1.trans k2.1,fun z=>?_⟩;obtain ⟨a1,f',a',rfl,a2,a3,a4,a8⟩:=k1.2 (k2.1.e z);have a5:=k2.1.lo;have a6:=hs.lo;dsimp only at a1 a6;exact ⟨by omega,nG,a2,nG,nG,⟨fun z=>(by cases z),fun z=>(by cases z),fun _=>⟨.inr rfl,rfl,rfl⟩,e1,(by dsimp only;decide),fun _=>rfl,fun z _ _ _=>a8 z,fun z=>(by cases z),(by dsimp only;decide),fun y hy=>(by cases hy)⟩⟩
 · -- throw
   refine .bp (IZ hP (by dsimp only;omega)) fun S1 x k1=>?_;have q1:=hs.trans k1.1;refine .bd (uE (q1.ps h)) fun S2 k2=>.mk ⟨q1.trans k2.1,fun z=>?_⟩;obtain ⟨a1,f',a',rfl,a2,a3,a4,a8⟩:=k1.2 (k2.1.e z);have a5:=k2.1.lo;have a6:=hs.lo;dsimp only at a1 a6;have a7:f'=be:=a3.elim id fun q=>(by cases q);subst a7;exact ⟨by omega,nG,a2,nG,nG,⟨fun z=>(by cases z),fun z=>(by cases z),fun z=>absurd rfl z,e1,(by dsimp only;decide),fun z=>(by cases z),fun z _ _ _=>a8 z,fun z=>(by cases z),(by dsimp only;decide),fun y hy=>(by cases hy)⟩⟩
 · -- print
   refine .bp (IZ hP (by dsimp only;omega)) fun S1 x k1=>?_;have q1:=hs.trans k1.1;refine .bd (uE (q1.ps h)) fun S2 k2=>.mk ⟨q1.trans k2.1,fun z=>?_⟩;obtain ⟨a1,f',a',rfl,a2,a3,a4,a8⟩:=k1.2 (k2.1.e z);have a5:=k2.1.lo;have a6:=hs.lo;dsimp only at a1 a6;have a7:f'=be:=a3.elim id fun q=>(by cases q);subst a7;exact ⟨by omega,nG,a2,nG,nG,⟨fun z=>(by cases z),fun z=>(by cases z),fun z=>absurd rfl z,e1,(by dsimp only;decide),fun z=>(by cases z),fun z _ _ _=>a8 z,fun z=>(by cases z),(by dsimp only;decide),fun y hy=>(by cases hy)⟩⟩
 · -- an assignment or a call
   refine .bp (Xo (n:=(10 - nest).toNat) hP (by dsimp only;omega)) fun S1 x k1=>?_;have q1:=hs.trans k1.1;refine .bd (uE (q1.ps h)) fun S2 k2=>.mk ⟨q1.trans k2.1,fun z=>?_⟩;have a1:=k1.2 (k2.1.e z);have a5:=k2.1.lo;have a6:=hs.lo;dsimp only at a1 a6;exact ⟨by omega,a1.2⟩
end
theorem Ma:∀ fu:Nat,acV (yK fu) fu∧aac (xU fu) fu
 | 0=>by refine ⟨fun S a h _ _ hb=>?_,fun S b h _ _ hb=>?_⟩;all_goals have:=h.hi;have:=h.lo;omega
 | fu+1=>⟨Z9 (Ma fu).2,Tf (Ma fu).1⟩
theorem Lm {fu:Nat}{c:Int}:kP (tJ fu c) (fun _=>True):=by
 unfold tJ
 repeat' (first | exact .mk kE | refine .ite (fun _=>?_) fun _=>?_)
theorem Pg {fu:Nat}{c:Int}:kP (wI fu c) (fun _=>True):=by
 unfold wI
 repeat' (first | exact .mk kE | refine .ite (fun _=>?_) fun _=>?_)
theorem Gx {fu:Nat}{s:BA}:∀ (l:List BA)(k:Nat),kP (pJ fu s l k) (qp (fun _=>True) (fun _=>True))
 | [],_=>.go kE
 | u :: r,k=>by rw [pJ];exact .ite (fun _=>.out kE) fun _=>Gx r (k+1)
theorem Uu {fu:Nat}{s:BA}:kP (vZ fu s) (fun _=>True):=by unfold vZ;exact .eo (Gx _ 0) fun _ _=>.mk kE
theorem N9 {fu:Nat}{s:BA}{at_:Int}(h0:0≤at_)(h1:at_+2≤s.size)(h2:s.size≤4000):∀ (l:List BA)(k:Nat),(∀ u ∈ l,u.size=2)→kP (ug fu s at_ l k) (qp (fun _=>True) (fun r=>r.size=2))
 | [],_,_=>.go kE
 | u :: r,k,hl=>by rw [ug];have hw:wr (at_+2)=at_+2:=l8 (by omega) (by omega);rw [hw];refine .bd (.Zp (by omega)) fun g hg=>.ite (fun _=>.out (hl u (.head _))) fun _=>N9 h0 h1 h2 r (k+1) fun u hu=>hl u (.tail _ hu)
theorem OI {fu:Nat}{s:BA}{at_:Int}(h0:0≤at_)(h1:at_ < s.size)(h2:s.size≤4000):∀ (l:List Jc)(k:Nat),kP (um fu s at_ l k) (qp (fun _=>True) (fun r=>r.size=1))
 | [],_=>.go kE
 | u :: r,k=>by rw [um];have hw:wr (at_+1)=at_+1:=l8 (by omega) (by omega);rw [hw];refine .bd (.ixs h0 h1) fun c hc=>.ite (fun _=>?_) fun _=>OI h0 h1 h2 r (k+1);refine .bd (.Zp (by omega)) fun g hg=>.out ?_;subst hg;rw [ByteArray.size_extract];omega
theorem ac8 {fu:Nat}{s:BA}{at_:Int}(h0:0<=at_)(h1:at_ < s.size)(h2:s.size<=4000):kP (CP fu s at_) (fun r=>r≠(⟨#[]⟩:BA)->1<=r.size/\at_+r.size<=s.size):=by
 unfold CP;have hw:wr (at_+1)=at_+1:=l8 (by omega) (by omega);have hJ:kP (AB fu s at_) (qp (fun _=>True) (fun r=>r.size=2/\at_+2<=s.size)):=by unfold AB;rw [hw];refine .ite (fun c=>?_) fun _=>.go kE;refine .el (N9 h0 (by omega) h2 _ 0 ?_) (fun _ _=>.go kE) fun o ho=>.out ⟨ho,by omega⟩;decide
 refine .el hJ (fun _ _=>?_) fun o ho=>.mk fun _=>by omega
 exact .el (OI h0 h1 h2 _ 0) (fun _ _=>.mk fun z=>absurd rfl z) fun o ho=>.mk fun _=>by omega
theorem OL {fu:Nat}{s:BA}(h2:s.size≤4000){O:Int × Int→Prop}:∀ (n:Nat)(at_:Int),0≤at_→at_≤s.size→s.size+1≤n+at_→kP (tO fu s n at_) (qp (fun a=>at_≤a∧a≤s.size) O)
 | 0,a,h0,h1,hn=>by omega
 | n+1,a,h0,h1,hn=>by
  rw [tO];refine .ite (fun c=>?_) fun c=>.go ⟨vP _,h1⟩;have hw:wr (a+1)=a+1:=l8 (by omega) (by omega);rw [hw];refine .bd (.ixs h0 c) fun x hx=>.ite (fun _=>?_) fun _=>.go ⟨vP _,h1⟩;refine (OL (O:=O) h2 n (a+1) (by omega) (by omega) (by omega)).imp fun v hv=>?_;obtain v | v:=v
  · exact ⟨by have:=hv.1;omega,hv.2⟩
  · exact hv
theorem Oi {fu:Nat}{s:BA}(h2:s.size≤4000)(hf:4001≤fu):∀ (n:Nat)(at_ line:Int),0≤at_→at_≤s.size→s.size+1≤n+at_→kP (qH fu s n at_ line) (qp (fun r=>jB r fun a _=>at_≤a∧a≤s.size) (fun r=>jB r fun a _=>at_≤a∧a≤s.size))
 | 0,a,ln,h0,h1,hn=>by omega
 | n+1,a,ln,h0,h1,hn=>by
  rw [qH];refine .ite (fun c=>?_) fun c=>.go ⟨vP _,h1⟩;have hw:wr (a+1)=a+1:=l8 (by omega) (by omega);refine kP.XT (.ixs h0 c) fun x hx0 hx=>?_;have hJ:kP (AJ fu s a x) (qp (fun b=>b=true->x=47) (fun _=>False)):=by unfold AJ;rw [hw];refine .ite (fun c=>?_) fun c=>.go fun z=>(by cases z);exact .ite (fun c2=>.bd (.ixs (by omega) c2) fun y _=>.go fun _=>c) fun _=>.go fun z=>(by cases z)
  have up:∀ (b l2:Int),a < b->b<=s.size->kP (qH fu s n b l2) (qp (fun r=>jB r fun a' _=>a<=a'/\a'<=s.size) (fun r=>jB r fun a' _=>a<=a'/\a'<=s.size)):=fun b l2 k1 k2=>by
    refine (Oi h2 hf n b l2 (by omega) k2 (by omega)).imp fun v hv=>?_;obtain v | v:=v
    all_goals
     obtain ⟨p,q⟩:=v;exact ⟨by have:=hv.1;omega,hv.2⟩
  refine .el hJ (fun b hb=>?_) fun _ z=>z.elim;refine .ite (fun d=>?_) fun d=>?_
  · -- the comment's first byte is no end of a line
    obtain ⟨fu',rfl⟩:∃ k,fu=k+1:=⟨fu - 1,by omega⟩;have hx47:=hb d;rw [tO,lF c,hx0];show kP (Option.bind (if x≠10 then _ else _) _) _;rw [lF (by omega),hw];exact .Gp (OL h2 fu' (a+1) (by omega) (by omega) (by omega)) fun b hb=>up b ln (by omega) hb.2
  · have hJ3:kP (AA fu a ln x) (qp (fun _=>True) (fun r=>jB r fun a' _=>a<=a'/\a'<=s.size)):=by
     unfold AA
     repeat' (first | exact .go kE | exact .out ⟨vP _,h1⟩ | refine .ite (fun _=>?_) fun _=>?_)
    refine .Gp hJ3 fun _ _=>?_;rw [hw];exact .ite (fun _=>up _ _ (by omega) (by omega)) fun _=>up _ _ (by omega) (by omega)
theorem YC {fu:Nat}{s:BA}{at_ line:Int}(h2:s.size<=4000)(hf:4001<=fu)(h0:0<=at_)(h1:at_<=s.size):kP (zP fu s at_ line) (fun r=>jB r fun a _=>at_<=a/\a<=s.size):=by unfold zP;exact .eo (Oi h2 hf fu at_ line h0 h1 (by omega)) fun r hs=>.pp hs fun a b hs=>.mk hs
theorem YE {fu:Nat}{s:BA}{a:Int}(h0:0<=a):kP (wS fu s a) (qp (fun b=>b=true->a < s.size) (fun _=>False)):=by unfold wS;refine .ite (fun c=>?_) fun c=>.go fun z=>(by cases z);refine .bd (.ixs h0 c) fun x hx=>.bd Lm fun b _=>.ite (fun _=>.go fun _=>c) fun _=>?_;exact .bd (.ixs h0 c) fun x hx=>.bd Pg fun b _=>.go fun _=>c
theorem Qy {fu:Nat}{s:BA}(h2:s.size≤4000){O:kN × Int × Int→Prop}:∀ (n:Nat)(a:Int),0≤a→a≤s.size→s.size+1≤n+a→kP (rC fu s n a) (qp (fun b=>a≤b∧b≤s.size) O)
 | 0,a,h0,h1,hn=>by omega
 | n+1,a,h0,h1,hn=>by
  rw [rC];refine .el (YE h0) (fun b hb=>?_) fun _ z=>z.elim;refine .ite (fun c=>?_) fun c=>.go ⟨vP _,h1⟩;have:=hb c;have hw:wr (a+1)=a+1:=l8 (by omega) (by omega);rw [hw];refine (Qy (O:=O) h2 n (a+1) (by omega) (by omega) (by omega)).imp fun v hv=>?_;obtain v | v:=v
  · exact ⟨by have:=hv.1;omega,hv.2⟩
  · exact hv
theorem Sq {fu:Nat}{s:BA}{at_:Int}(h2:s.size≤4000)(h3:0≤at_){O:kN × Int × Int→Prop}:∀ (n:Nat)(a m:Int),at_≤a→a≤s.size→s.size+1≤n+a→kP (pK fu s at_ n a m) (qp (fun r=>jB r fun b _=>a≤b∧b≤s.size) O)
 | 0,a,m,h0,h1,hn=>by omega
 | n+1,a,m,h0,h1,hn=>by
  rw [pK];refine .ite (fun c=>?_) fun c=>.go ⟨vP _,h1⟩;refine .bd (.ixs (by omega) c) fun x hx=>.bd Pg fun b _=>.ite (fun _=>?_) fun c=>.go ⟨vP _,h1⟩;have hw:wr (a+1)=a+1:=l8 (by omega) (by omega);rw [hw];have up:∀ m2:Int,kP (pK fu s at_ n (a+1) m2) (qp (fun r=>jB r fun b _=>a<=b/\b<=s.size) O):=fun m2=>by
   refine (Sq (O:=O) h2 h3 n (a+1) m2 (by omega) (by omega) (by omega)).imp fun v hv=>?_;obtain v | v:=v
   · obtain ⟨p,q⟩:=v;exact ⟨by have:=hv.1;omega,hv.2⟩
   · exact hv
  exact .ite (fun _=>.bd (.ixs (by omega) c) fun _ _=>up _) fun _=>up _
theorem aey {fu:Nat}{s:BA}{at_ line:Int}(h2:s.size<=4000)(hf:4001<=fu)(h0:0<=at_)(h1:at_ < s.size):kP (D6 fu s at_ line) (fun r=>jB r fun t r=>jB r fun nx e=>e=0->at_ < nx/\nx<=s.size/\(t.b=1->t.a≠(⟨#[]⟩:BA))):=by
 unfold D6;have bad:∀ (t:kN)(n e:Int),e≠0->kP (some (t,n,e)) (fun r=>jB r fun t r=>jB r fun nx e=>e=0->at_ < nx/\nx<=s.size/\(t.b=1->t.a≠(⟨#[]⟩:BA))):=fun t n e he=>.mk fun z=>absurd z he;obtain ⟨fu',rfl⟩:∃ k,fu=k+1:=⟨fu - 1,by omega⟩;have hw:wr (at_+1)=at_+1:=l8 (by omega) (by omega);refine kP.XT (.ixs h0 h1) fun x hx0 hx=>kP.XT Lm fun b hb _=>.ite (fun c=>?_) fun c=>?_
 · have hL:kP (rC (fu'+1) s (fu'+1) at_) (qp (fun b=>at_ < b/\b<=s.size) (fun _=>False)):=by
    rw [rC];have hJ:wS (fu'+1) s at_=some (.go true):=by unfold wS;rw [lF h1,hx0];show Option.bind (tJ (fu'+1) x) _=_;rw [hb,c];rfl
    rw [hJ];show kP (if true=true then rC (fu'+1) s fu' (wr (at_+1)) else some (.go at_)) _;rw [lF rfl,hw];refine (Qy (O:=fun _=>False) h2 fu' (at_+1) (by omega) (by omega) (by omega)).imp fun v hv=>?_;obtain v | v:=v
    · exact ⟨by have:=hv.1;omega,hv.2⟩
    · exact hv
   refine .el hL (fun a ha=>?_) fun _ z=>z.elim;refine .ite (fun _=>bad _ _ _ (by decide)) fun _=>?_;refine .bd (.Zp (by omega)) fun g hg=>.bd Uu fun b _=>?_;refine .ite (fun _=>.mk fun _=>⟨ha.1,ha.2,fun z=>(by cases z)⟩) fun _=>.mk fun _=>⟨ha.1,ha.2,fun _ z=>?_⟩;have z2:=congrArg ByteArray.size z;dsimp only at z2;rw [hg,ByteArray.size_extract] at z2;have z3:(⟨#[]⟩:BA).size=0:=rfl;omega
 refine kP.XT (.ixs h0 h1) fun x2 hx2 _=>kP.XT Pg fun b2 hb2 _=>.ite (fun c2=>?_) fun c2=>?_
 · have hL:kP (pK (fu'+1) s at_ (fu'+1) at_ 0) (qp (fun r=>jB r fun b _=>at_ < b/\b<=s.size) (fun _=>False)):=by
    rw [pK,lF h1,hx2,Option.bind_some,hb2,Option.bind_some,lF c2,hw];have up:∀ m2:Int,kP (pK (fu'+1) s at_ fu' (at_+1) m2) (qp (fun r=>jB r fun b _=>at_ < b/\b<=s.size) (fun _=>False)):=fun m2=>by
      refine (Sq (O:=fun _=>False) h2 h0 fu' (at_+1) m2 (by omega) (by omega) (by omega)).imp fun v hv=>?_;obtain v | v:=v
      · obtain ⟨p,q⟩:=v;exact ⟨by have:=hv.1;omega,hv.2⟩
      · exact hv
    exact .ite (fun _=>up _) fun _=>up _
   refine .el hL (fun r hs=>.pp hs fun a m ha=>?_) fun _ z=>z.elim;refine .ite (fun _=>bad _ _ _ (by decide)) fun _=>?_;have hJ:kP (BX (fu'+1) s a) (qp (fun _=>True) (fun r=>jB r fun t r=>jB r fun nx e=>e≠0)):=by unfold BX;refine .ite (fun c=>?_) fun _=>.go kE;exact .bd (.ixs (by omega) c) fun _ _=>.bd Lm fun _ _=>.ite (fun _=>.out (show (6:Int)≠0 by decide)) fun _=>.go kE
   refine .el hJ (fun _ _=>.mk fun _=>⟨ha.1,ha.2,fun z=>(by cases z)⟩) fun o ho=>.mk ?_;obtain ⟨t,n,e⟩:=o;exact fun z=>absurd z ho
 refine .bd (ac8 h0 h1 h2) fun g hg=>.ite (fun _=>bad _ _ _ (by decide)) fun c3=>.mk fun _=>?_;have:=hg c3;have hw2:wr (at_+((g.size:Nat):Int))=at_+g.size:=l8 (by omega) (by omega);rw [hw2];exact ⟨by omega,by omega,fun z=>(by cases z)⟩
def Nm (l:List kN):Prop:=∀ (k:Nat)(t:kN),l[k]?=some t->t.b=1->t.a≠(⟨#[]⟩:BA)
theorem Nm.app {l:List kN}(h:Nm l){t:kN}(ht:t.b=1->t.a≠(⟨#[]⟩:BA)):Nm (l ++ [t]):=fun k t' hk=>by
 rw [List.getElem?_append] at hk;split at hk
 · exact h k t' hk
 · have:k - l.length=0:=by have:=ku hk;simp only [uM,yG] at this;omega
   rw [this] at hk;obtain rfl:=Kj hk;exact ht
theorem Ob {fu:Nat}{s:BA}(h2:s.size≤4000)(hf:4001≤fu):∀ (n:Nat)(a line:Int)(l:List kN),0≤a→a≤s.size→s.size+1≤n+a→l.length≤2000→Nm l→kP (vI fu s n a line l) (qp (fun r=>jB r fun _ r=>jB r fun _ l=>l.length≤2000∧Nm l) (fun r=>jB r fun _ r=>jB r fun _ e=>e≠0))
 | 0,a,ln,l,h0,h1,hn,hl,hm=>by omega
 | n+1,a,ln,l,h0,h1,hn,hl,hm=>by
  rw [vI];refine .ite (fun c=>?_) fun c=>.go ⟨hl,hm⟩;refine .bp (aey h2 hf h0 c) fun t r ht=>.pp ht fun nx e ht=>?_;have hJ:kP (AU fu l e) (qp (fun e'=>e'=0->e=0/\l.length < 2000) (fun _=>False)):=by unfold AU;refine .ite (fun c=>?_) fun c=>.go fun z=>absurd z c;exact .ite (fun c=>.go fun z=>(by cases z)) fun c2=>.go fun _=>⟨c,by omega⟩
  refine .el hJ (fun e' he=>?_) fun _ z=>z.elim;refine .ite (fun d=>.out d) fun d=>?_;have he:=he (by omega);have ht:=ht he.1;refine .bd (.app (by simp only [uM,yG];omega)) fun r hr=>?_;refine .bp (YC h2 hf (by omega) ht.2.1) fun a2 ln2 ha=>?_;subst hr;exact Ob h2 hf n a2 ln2 _ (by omega) ha.2 (by omega) (by simp only [F9,uM,yG];omega) (hm.app ht.2.2)
theorem acS {fu:Nat}{s:BA}(hf:4001<=fu):kP (CV fu s) (fun r=>jB r fun l r=>jB r fun _ e=>e=0->TL l/\1<=l.length/\l.length<=2001):=by
 unfold CV;refine .ite (fun c=>.mk fun z=>(by cases z)) fun c=>?_;have h2:s.size<=4000:=by omega
 refine .bp (YC h2 hf (vP _) (by omega)) fun a ln ha=>?_;refine .el (Ob h2 hf fu a ln [] ha.1 ha.2 (by omega) (by decide) fun k t hk=>(by cases hk)) (fun r hs=>.pp hs fun _ r hs=>.pp hs fun b l hs=>?_) fun o ho=>?_
 · refine .bd (.app (by simp only [uM,yG];omega)) fun r hr=>.mk fun _=>?_;subst hr;refine ⟨⟨by simp only [F9,uM,yG];omega,fun k t hk ht=>?_,hs.2.app fun z=>(by cases z)⟩,by simp only [F9,uM,yG];omega,by simp only [F9,uM,yG];omega⟩;simp only [F9,uM,yG] at hk;obtain rfl:k=l.length:=by omega
   rw [EX (nD _),Nat.sub_self] at ht;obtain rfl:=Kj ht;rfl
 · obtain ⟨l,b,e⟩:=o;exact .mk fun z=>absurd z ho
structure FOk (N:Nat)(f:kC):Prop where
 b:f.a.length<=5000
 body:f.d.length<=5001
 el:∀ y ∈ f.d,Ef N 10 y
 en:∃ l e,f.d=l ++ [e]/\e.b=10
structure VG (N:Nat)(p:jV):Prop where
 recs:p.a.length<=5000
 fields:∀ r ∈ p.a,r.a.length<=5000
 e:p.b.length<=5000
 el:∀ f ∈ p.b,FOk N f
theorem Ef.X6 {E F:Nat}(h:E≤F):∀ {n:Nat}{x:jC},Ef E n x→Ef F n x
 | 0,_,k=>k.elim
 | n+1,x,k=>⟨⟨k.1.1,fun y hy=>(k.1.2 y hy).mono h⟩,⟨k.2.1.1,fun y hy=>(k.2.1.2 y hy).mono h⟩,⟨k.2.2.1.1,fun y hy=>Ef.X6 h (k.2.2.1.2 y hy)⟩,⟨k.2.2.2.1.1,fun y hy=>Ef.X6 h (k.2.2.2.1.2 y hy)⟩,k.2.2.2.2⟩
theorem VG.mono {E F:Nat}{p:jV}(k:VG E p)(h:E<=F):VG F p:=⟨k.recs,k.fields,k.e,fun f hf=>⟨(k.el f hf).b,(k.el f hf).body,fun y hy=>((k.el f hf).el y hy).X6 h,(k.el f hf).en⟩⟩
theorem oO {α:Type}{p:α->Prop}{l:List α}{x:α}(h:∀ y ∈ l,p y)(hx:p x):∀ y ∈ l ++ [x],p y:=fun y hy=>by
 obtain hy | hy:=qg.1 hy
 · exact h y hy
 · simp only [nM,Dl,or_false] at hy;subst hy;exact hx
theorem kD {α:Type}{l:List α}{x:α}:(l ++ [x]).length=l.length+1:=by simp only [F9,uM,yG]
theorem Iq {fu:Nat}{S0:jy}(h0:PS S0)(hf:S0.l.length+200≤fu){O:jV × jy→Prop}:∀ (n:Nat)(out:List jX)(S:jy),Nx S0 S→(S.e=0→S0.l.length+1≤n+S.a)→1≤n→(S.e=0→(out.length:Int)≤S.a∧∀ r ∈ out,r.a.length≤5000)→
  kP (rR fu n out S.l S.a S.c S.e) (qp (fun r=>jB r fun o r=>jB r fun a r=>jB r fun b r=>jB r fun c d=>Nx S0 ⟨a,b,c,d⟩/\(d=0->(o.length:Int)<=b/\∀ r ∈ o,r.a.length<=5000)) O)
 | 0,out,S,h,hn,hn1,ho=>by omega
 | n+1,out,S,h,hn,_,ho=>by have hS:=h.ps h0;have hlen:=h0.tl.len;have hi:=h.hi;have hlo:=hS.lo;rw [rR];refine .ite (fun c=>?_) (fun c=>.go ⟨h,ho⟩);have hn:=hn c;have ho:=ho c;refine .bd (DW hS) fun b hb=>.ite (fun d=>?_) (fun d=>.go ⟨h,fun _=>ho⟩);have q0:=h.trans (Nx.step hS (hb d));have hw:wr (S.a+1)=S.a+1:=hS.Tm;refine .bp (DK (q0.ps h0)) fun nm S1 k1=>?_;have q1:=q0.trans k1.1.1;refine .bd (uE (q1.ps h0)) fun S2 k2=>?_;have q2:=q1.trans k2.1;refine .bp (UU (q2.ps h0) (by rw [q2.l];omega)) fun fs S3 k3=>?_;have q3:=q2.trans k3.1;refine .bd (uE (q3.ps h0)) fun S4 k4=>?_;have q4:=q3.trans k4.1;refine .bd (.app (by simp only [uM,yG];omega)) fun r hr=>?_;have a0:=k1.1.1.lo;have a1:=k2.1.lo;have a2:=k3.1.lo;have a3:=k4.1.lo;have a4:=q4.hi;dsimp only at a0;rw [hw] at a0;subst hr;refine Iq h0 hf n _ S4 q4 (fun z=>by omega) (by omega) fun z=>?_;have a5:=k3.2 (k4.1.e z);exact ⟨by rw [kD];omega,oO ho.2 a5.1⟩
theorem IJ {fu:Nat}{S0:jy}(h0:PS S0)(hf:S0.l.length+200≤fu){O:jV × jy→Prop}:∀ (n:Nat)(out:List kC)(S:jy),Nx S0 S→(S.e=0→S0.l.length+1≤n+S.a)→1≤n→(S.e=0→(out.length:Int)≤S.a∧∀ f ∈ out,FOk S0.l.length f)→
  kP (rU fu n out S.l S.a S.c S.e) (qp (fun r=>jB r fun o r=>jB r fun a r=>jB r fun b r=>jB r fun c d=>(Nx S0 ⟨a,b,c,d⟩/\(d=0->(o.length:Int)<=b/\∀ f ∈ o,FOk S0.l.length f))/\(d=0->S.e=0)) O)
 | 0,out,S,h,hn,hn1,ho=>by omega
 | n+1,out,S,h,hn,_,ho=>by
  have hS:=h.ps h0;have hlen:=h0.tl.len;have hi:=h.hi;have hlo:=hS.lo;rw [rU];refine .ite (fun c=>?_) (fun c=>.go ⟨⟨h,ho⟩,id⟩);have hn:=hn c;have ho:=ho c;refine .bd (DW hS) fun b hb=>.ite (fun d=>?_) (fun d=>.go ⟨⟨h,fun _=>ho⟩,id⟩);refine .bd (.ix hS.lo hS.hi) fun e he=>?_;have q0:=h.trans (Nx.step hS (hb d));have hw:wr (S.a+1)=S.a+1:=hS.Tm;refine .bp (DK (q0.ps h0)) fun nm S1 k1=>?_;have q1:=q0.trans k1.1.1;refine .bd (uE (q1.ps h0)) fun S2 k2=>?_;have q2:=q1.trans k2.1;have P2:=q2.ps h0;have hJ:kP (wX fu S2) (qp (fun r=>jB r fun o r=>jB r fun a r=>jB r fun b r=>jB r fun c d=>Nx S2 ⟨a,b,c,d⟩/\(d=0->o.length<=5000)) (fun _=>False)):=by unfold wX;refine .ite (fun c=>?_) fun c=>.go ⟨Nx.rfl' P2,fun _=>uL _⟩;refine .bd (DW P2) fun b hb=>.ite (fun d=>?_) fun d=>.go ⟨Nx.rfl' P2,fun _=>uL _⟩;exact .bp (UU P2 (by rw [q2.l];omega)) fun l S3 k3=>.go ⟨k3.1,fun z=>(k3.2 z).1⟩
  refine .el hJ (fun s hs=>?_) fun _ z=>z.elim;refine .pp hs fun ps r hs=>.pp hs fun x1 r hs=>.pp hs fun x2 r hs=>.pp hs fun x3 x4 hs=>?_;have q3:=q2.trans hs.1;refine .bd (uE (q3.ps h0)) fun S4 k4=>?_;have q4:=q3.trans k4.1;refine .bp ((Ma fu).1 S4 1 (q4.ps h0) (by decide) (by decide) (by rw [q4.l];omega)) fun l r k5=>.pp k5 fun ln S5 k5=>?_;obtain ⟨k5,hq⟩:=k5;have q5:=q4.trans k5.1;have a0:=k1.1.1.lo;have a1:=k2.1.lo;have a2:=hs.1.lo;have a3:=k4.1.lo;have a4:=k5.1.lo;have a5:=q5.hi;dsimp only at a0 a2 a3;rw [hw] at a0;refine .bd (.app (by simp only [uM,yG];omega)) fun bd hbd=>?_;refine .bd (.app (by simp only [uM,yG];omega)) fun r hr=>?_;subst hr hbd;refine (IJ (O:=O) h0 hf n _ S5 q5 (fun z=>by omega) (by omega) fun z=>?_).imp fun v hv=>?_;rotate_left
  · obtain v | v:=v
    · obtain ⟨o,a,b,c',d⟩:=v;exact ⟨hv.1,fun _=>c⟩
    · exact hv
  have z4:=k5.1.e z;have a6:=k5.2 z;rw [q4.l] at a6;refine ⟨by rw [kD];omega,oO ho.2 ⟨hs.2 (k4.1.e z4),by rw [kD];omega,oO a6.2.2 ?_,⟨_,_,rfl,rfl⟩⟩⟩;exact ⟨nG,nG,nG,nG,⟨fun z=>(by cases z),fun z=>(by cases z),fun z=>absurd rfl z,fun _=>rfl,(by dsimp only;decide),fun z=>(by cases z),fun _ _ _ z=>absurd rfl z,fun z=>(by cases z),(by dsimp only;decide),fun y hy=>(by cases hy)⟩⟩
theorem Wm {fu:Nat}{S:jy}(h:PS S)(hf:S.l.length+200<=fu):kP (xO fu S) (fun r=>jB r fun p S'=>(S'.e=0->VG S.l.length p)):=by unfold xO;have hlo:=h.lo;refine .el (Iq (O:=fun _=>False) h hf fu [] S (Nx.rfl' h) (fun _=>by omega) (by omega) fun _=>⟨hlo,fun r hr=>(by cases hr)⟩) (fun s hs=>?_) fun _ z=>z.elim;refine .pp hs fun rs r hs=>.pp hs fun a r hs=>.pp hs fun b r hs=>.pp hs fun c d hs=>?_;have P1:=hs.1.ps h;have b0:=P1.lo;have b1:=hs.1.hi;dsimp only at b0 b1;refine .el (IJ (O:=fun _=>False) h hf fu [] ⟨a,b,c,d⟩ hs.1 (fun _=>by dsimp only;omega) (by omega) fun _=>⟨b0,fun r hr=>(by cases hr)⟩) (fun s hs2=>?_) fun _ z=>z.elim;refine .pp hs2 fun fs r hs2=>.pp hs2 fun a2 r hs2=>.pp hs2 fun b2 r hs2=>.pp hs2 fun c2 d2 hs2=>?_;obtain ⟨hs2,hd⟩:=hs2;have P2:=hs2.1.ps h;have hlen:=h.tl.len;have b3:=hs2.1.hi;dsimp only at b3;refine .ite (fun z=>?_) fun z=>.mk fun y=>absurd y z;have r1:=hs.2 (hd z);have r2:=hs2.2 z;have ok:VG S.l.length ⟨rs,fs⟩:=⟨by dsimp only;omega,r1.2,by dsimp only;omega,r2.2⟩;refine .bd (Et P2) fun b hb=>.ite (fun _=>?_) fun _=>.mk fun _=>ok;exact .bd (ED P2 (by decide)) fun S3 h3=>.mk fun y=>absurd y h3.2.1
theorem Z5 {fu:Nat}{s:BA}(hf:5300<=fu):kP (yx fu s) (fun r=>jB r fun p r=>jB r fun _ e=>e=0->VG 5000 p):=by unfold yx;refine .bp (acS (by omega)) fun l r hl=>.pp hl fun ln e hl=>?_;refine .ite (fun c=>.mk fun z=>absurd z c) fun c=>?_;obtain ⟨h1,h2,h3⟩:=hl (by omega);refine .bp (Wm (S:=⟨l,0,0,0⟩) ⟨h1,Int.le_refl _,by dsimp only;omega⟩ (by dsimp only;omega)) fun p S hp=>?_;refine .ite (fun c=>.mk fun z=>absurd z c) fun c=>.mk fun _=>?_;have:=hp (by omega);dsimp only at this;exact this.mono (by omega)
structure SI (S:fV)(V:List iA):Prop where
 f0:0<=S.f
 vl:(S.a.c.length:Int)=S.f+1
 v:S.a.c[S.f.toNat]?=some V
 vn:V.length<=24
 op:∀ v ∈ S.b,0<=v/\v < V.length
 ol:S.b.length<=V.length
 st:S.a.b.length<=200
 rk:∀ x ∈ V,x.b=2->0<=x.f/\x.f < S.a.a.a.length
structure NI (S:fV)(V:List iA):Prop where
 cl:∀ (i:Nat)(x:iA),V[i]?=some x->(i:Int) ∉ S.b->x.d < S.a.b.length
 pr:∀ (i j:Nat)(x y:iA),i < j->V[i]?=some x->V[j]?=some y->x.c≠y.c\/((i:Int) ∉ S.b/\x.d < y.e)
structure Stp (S:fV)(V:List iA)(S':fV)(V':List iA):Prop where
 si:SI S' V'
 f:S'.f=S.f
 pg:S'.a.a=S.a.a
 vs:∀ k:Nat,(k:Int)≠S.f->S'.a.c[k]?=S.a.c[k]?
 st:S.a.b.length<=S'.a.b.length
 e:S'.e=0->S.e=0
 vle:V.length<=V'.length
 ni:S'.e=0->NI S V->NI S' V'
theorem Stp.rfl' {S:fV}{V:List iA}(h:SI S V):Stp S V S V:=⟨h,rfl,rfl,fun _ _=>rfl,nD _,id,nD _,fun _ k=>k⟩
theorem Stp.trans {S S1 S2:fV}{V V1 V2:List iA}(h:Stp S V S1 V1)(k:Stp S1 V1 S2 V2):Stp S V S2 V2:=
 ⟨k.si,k.f.trans h.f,k.pg.trans h.pg,fun x hx=>(k.vs x (by rw [h.f];exact hx)).trans (h.vs x hx),sO h.st k.st,fun z=>h.e (k.e z),sO h.vle k.vle,fun z n=>k.ni z (h.ni (k.e z) n)⟩
structure EN (S S':fV):Prop where
 out:S'.a=S.a
 f:S'.f=S.f
 op:S'.b=S.b
 e:S'.e=0->S.e=0
theorem EN.rfl' {S:fV}:EN S S:=⟨rfl,rfl,rfl,id⟩
theorem EN.trans {S S1 S2:fV}(h:EN S S1)(k:EN S1 S2):EN S S2:=⟨k.out.trans h.out,k.f.trans h.f,k.op.trans h.op,fun z=>h.e (k.e z)⟩
theorem EN.si {S S':fV}{V:List iA}(k:EN S S')(h:SI S V):SI S' V:=
 ⟨by rw [k.f];exact h.f0,by rw [k.out,k.f];exact h.vl,by rw [k.out,k.f];exact h.v,h.vn,by rw [k.op];exact h.op,by rw [k.op];exact h.ol,by rw [k.out];exact h.st,by rw [k.out];exact h.rk⟩
theorem EN.stp {S S':fV}{V:List iA}(k:EN S S')(h:SI S V):Stp S V S' V:=
 ⟨k.si h,k.f,by rw [k.out],fun x _=>by rw [k.out],by rw [k.out];exact nD _,k.e,nD _,fun _ n=>⟨fun i x hi ho=>by rw [k.out];rw [k.op] at ho;exact n.cl i x hi ho,fun i j x y hij hi hj=>by rw [k.op];exact n.pr i j x y hij hi hj⟩⟩
theorem xB {fu:Nat}{S:fV}{ln e:Int}(he:e≠0):kP (mO fu S ln e) (fun S'=>EN S S'/\S'.e≠0):=by unfold mO;exact .ite (fun c=>.mk ⟨⟨rfl,rfl,rfl,fun z=>absurd z he⟩,he⟩) fun c=>.mk ⟨.rfl',c⟩
theorem Ka {fu:Nat}{n:BA}:∀ (l:List jX)(k:Nat),kP (qX fu n l k) (qp (fun _=>True) (fun r=>jB r fun v b=>(k:Int)≤v∧v < k+l.length))
 | [],_=>.go kE
 | u :: r,k=>by
  rw [qX,uM];refine .ite (fun _=>.out ⟨vP _,by omega⟩) fun _=>(Ka r (k+1)).imp fun v hv=>?_;obtain v | v:=v
  · trivial
  · obtain ⟨a,b⟩:=v;exact ⟨by have:=hv.1;omega,by have:=hv.2;omega⟩
theorem Yo {fu:Nat}{S:fV}{n:BA}:kP (zn fu S n) (fun r=>jB r fun v b=>b=true->0<=v/\v < S.a.a.a.length):=by unfold zn;refine .el (Ka _ 0) (fun _ _=>.mk fun z=>(by cases z)) fun o ho=>.mk ?_;obtain ⟨a,b⟩:=o;exact fun _=>⟨by have:=ho.1;omega,by have:=ho.2;omega⟩
theorem Oa {fu:Nat}{n:BA}:∀ (l:List kC)(k:Nat),kP (uh fu n l k) (qp (fun _=>True) (fun r=>jB r fun v b=>(k:Int)≤v∧v < k+l.length))
 | [],_=>.go kE
 | u :: r,k=>by
  rw [uh,uM];refine .ite (fun _=>.out ⟨vP _,by omega⟩) fun _=>(Oa r (k+1)).imp fun v hv=>?_;obtain v | v:=v
  · trivial
  · obtain ⟨a,b⟩:=v;exact ⟨by have:=hv.1;omega,by have:=hv.2;omega⟩
theorem acP {fu:Nat}{s:jW}{n:BA}:kP (Cy fu s n) (fun r=>jB r fun v b=>b=true->0<=v/\v < s.a.b.length):=by unfold Cy;refine .el (Oa _ 0) (fun _ _=>.mk fun z=>(by cases z)) fun o ho=>.mk ?_;obtain ⟨a,b⟩:=o;exact fun _=>⟨by have:=ho.1;omega,by have:=ho.2;omega⟩
theorem SI.ix {S:fV}{V:List iA}(h:SI S V):kP (ix S.a.c S.f) (fun r=>r=V):=by have h1:=h.vl;have h2:=h.f0;refine (kP.ix h2 (by omega)).imp fun v hv=>?_;rw [h.v] at hv;exact (Kj hv).symm
theorem JX {fu:Nat}{S:fV}{V:List iA}(h:SI S V){n:BA}:∀ (l:List Int)(k:Nat),(∀ v ∈ l,v ∈ S.b)→kP (oQ fu S n l k) (qp (fun _=>∀ v ∈ l,∀ x,V[v.toNat]?=some x→x.c≠n) (fun r=>jB r fun v b=>b=true∧v ∈ S.b∧∃ x,V[v.toNat]?=some x∧x.c=n))
 | [],_,_=>.go fun v hv=>(by cases hv)
 | u :: r,k,hl=>by
  rw [oQ];have hu:=h.op u (hl u (.head _));refine .bd h.ix fun e he=>?_;subst he;refine .bd (.ix hu.1 hu.2) fun x hx=>.ite (fun c=>.out ⟨rfl,hl u (.head _),x,hx,c⟩) fun c=>(JX h r (k+1) fun v hv=>hl v (.tail _ hv)).imp fun v hv=>?_;obtain v | v:=v
  · intro w hw y hy;obtain rfl | hw:=nM.1 hw
    · rw [hx] at hy;obtain rfl:=Kj hy;exact c
    · exact hv w hw y hy
  · exact hv
theorem R3 {fu:Nat}{S:fV}{V:List iA}(h:SI S V){n:BA}:kP (sZ fu S n) (fun r=>jB r fun v b=>(b=true->v ∈ S.b/\∃ x,V[v.toNat]?=some x/\x.c=n)/\(b=false->∀ v ∈ S.b,∀ x,V[v.toNat]?=some x->x.c≠n)):=by unfold sZ;refine .el (JX h S.b 0 fun v hv=>hv) (fun _ hs=>.mk ⟨fun z=>(by cases z),fun _=>hs⟩) fun o ho=>.mk ?_;obtain ⟨a,b⟩:=o;obtain ⟨rfl,h1,h2⟩:=ho;exact ⟨fun _=>⟨h1,h2⟩,fun z=>(by cases z)⟩
theorem JA {fu:Nat}{S:fV}{V:List iA}(h:SI S V){ln:Int}{x:iA}(hx:x.b=2->0<=x.f/\x.f < S.a.a.a.length)(hf:S.a.b.length<=x.e) :kP (nL fu S ln x) (fun r=>jB r fun v S'=>∃ V',Stp S V S' V'/\(∃ ext,S'.b=S.b ++ ext)/\(S'.e=0->V'=V ++ [x]/\v=V.length/\S'.b=S.b ++ [(V.length:Int)])):=by
 unfold nL;refine .bp (R3 h) fun v b hv=>.bd h.ix fun e he=>?_;subst he;have same:∀ S',EN S S'->S'.e≠0->∃ V',Stp S e S' V'/\(∃ ext,S'.b=S.b ++ ext)/\(S'.e=0->V'=e ++ [x]/\(0:Int)=e.length/\S'.b=S.b ++ [(e.length:Int)]):=fun S' k z=>⟨e,k.stp h,⟨[],by rw [k.op,EW]⟩,fun y=>absurd y z⟩;refine .ite (fun c=>.mk (same S .rfl' c)) fun c=>?_;have c:S.e=0:=by omega
 refine .ite (fun d=>.bd (xB (by decide)) fun S' k=>.mk (same S' k.1 k.2)) fun d=>?_;refine .ite (fun d2=>.bd (xB (by decide)) fun S' k=>.mk (same S' k.1 k.2)) fun d2=>?_;have a1:=h.vn;have a2:=h.ol;have a3:=h.f0;have a4:=h.vl;refine .bd (.app (by simp only [uM,yG];omega)) fun r hr=>?_;refine .bd (.app (by simp only [uM,yG];omega)) fun o ho=>?_;refine .bd (.st (by omega)) fun vs hvs=>.mk ?_;subst hr ho hvs;have hb:b=false:=by cases b <;> simp_all
 refine ⟨e ++ [x],⟨⟨h.f0,by simp only [wR];exact h.vl,?_,by rw [kD];omega,?_,by rw [kD,kD];omega,h.st,oO h.rk hx⟩,rfl,rfl,fun k hk=>?_,nD _,fun _=>c,by rw [kD];omega,fun _ n=>⟨fun i y hi ho=>?_,fun i j y z hij hi hj=>?_⟩⟩,⟨[_],rfl⟩,fun _=>⟨rfl,rfl,rfl⟩⟩
 · show (S.a.c.set S.f.toNat (e ++ [x]))[S.f.toNat]?=_;rw [DJ (by omega)]
 · refine oO (fun v hv=>?_) ?_
   · have:=h.op v hv;rw [kD];omega
   · rw [kD];omega
 · show (S.a.c.set S.f.toNat (e ++ [x]))[k]?=_;rw [zV (by omega)]
 · dsimp only at ho ⊢;rw [qg,not_or] at ho;have hi2:i < e.length:=by have:=ku hi;rw [kD] at this;have h3:i≠e.length:=fun z=>ho.2 (by rw [z];exact .head _);omega
   rw [zQ hi2] at hi;exact n.cl i y hi ho.1
 · dsimp only;have hi2:i < e.length:=by have:=ku hj;rw [kD] at this;omega
   rw [zQ hi2] at hi;have hne:(i:Int) ∉ S.b->(i:Int) ∉ S.b ++ [(e.length:Int)]:=fun z y=>by
     obtain y | y:=qg.1 y
     · exact z y
     · simp only [nM,Dl,or_false] at y;omega
   by_cases hj2:j < e.length
   · rw [zQ hj2] at hj;obtain k | k:=n.pr i j y z hij hi hj
     · exact .inl k
     · exact .inr ⟨hne k.1,k.2⟩
   · have:j=e.length:=by have:=ku hj;rw [kD] at this;omega
     subst this;rw [EX (nD _),Nat.sub_self] at hj;obtain rfl:=Kj hj;by_cases ho:(i:Int) ∈ S.b
     · exact .inl (hv.2 hb _ ho y hi)
     · exact .inr ⟨hne ho,by have:=n.cl i y hi ho;omega⟩
def aa0 (f:fV->jD->Int->Option (jD × fV))(fu:Nat):Prop:=∀ S V x ln n,SI S V->CK n x->2 * n<=fu->kP (f S x ln) (fun r=>jB r fun _ S'=>EN S S')
def Yw (f:fV->List jD->Int->Option (List jD × fV))(fu:Nat):Prop:=∀ S V l ln n,SI S V->(∀ y ∈ l,CK n y)->l.length<=5000->2 * n+1<=fu->kP (f S l ln) (fun r=>jB r fun l' S'=>EN S S'/\l'.length=l.length)
section
variable {fu:Nat}{f:fV->jD->Int->Option (jD × fV)}{g:fV->List jD->Int->Option (List jD × fV)}
theorem Jm {x:jD}{O:jD × fV→Prop}:∀ (l:List BA)(k:Nat)(n:Int),kP (oz fu g f x l k n) (qp (fun _=>True) O)
 | [],_,_=>.go kE
 | u :: r,k,n=>by rw [oz];exact .ite (fun _=>Jm r (k+1) _) fun _=>Jm r (k+1) n
theorem adl (hg:Yw g fu):aa0 (sI fu g f) (fu+1):=by
 intro S V x ln n h hx hn;cases n with
 | zero=>exact hx.elim
 | succ n=>
 unfold sI;refine .ite (fun c=>.mk .rfl') fun c=>?_;have hJ:kP (oF fu g f S x ln) (qp (fun r=>jB r fun _ r=>jB r fun _ r=>jB r fun a r=>jB r fun b r=>jB r fun c r=>jB r fun d r=>jB r fun e r=>jB r fun f r=>jB r fun g h=>EN S ⟨⟨⟨a,e⟩,f,g⟩,b,h,c,d⟩) (fun r=>jB r fun _ S'=>EN S S')):=by
  unfold oF;have hJ1:kP (rF fu g f x) (qp (fun b=>b=true->x.e=1\/x.e=2\/x.e=3) (fun _=>False)):=by unfold rF;refine .ite (fun c=>.go fun _=>.inl c) fun _=>.ite (fun c=>.go fun _=>.inr (.inl c)) fun _=>.go fun z=>.inr (.inr (Dh z))
  refine .el hJ1 (fun b hb=>?_) fun _ z=>z.elim;refine .ite (fun c=>?_) fun c=>.go .rfl';refine .bp (R3 h) fun v is hv=>.ite (fun d=>?_) fun d=>?_
  · exact .bd (xB (by decide)) fun S' k=>.out k.1
  have hv:=hv.1 (by simpa using d);refine .bd h.ix fun e he=>?_;subst he;have ho:=h.op v hv.1;refine .bd (.ix ho.1 ho.2) fun y hy=>.ite (fun _=>?_) fun d2=>?_
  · exact .bd (xB (by decide)) fun S' k=>.out k.1
  refine .ite (fun c2=>?_) fun _=>.go .rfl';have hk:y.b=2:=by rw [c2,show wr ((1:Int)+2)=3 from l8 (by omega) (by omega),show wr ((3:Int) - 1)=2 from l8 (by omega) (by omega)] at d2;omega
  have hr:=h.rk y (vS hy) hk;refine .bd (.ix hr.1 hr.2) fun rc _=>.Gp (Jm _ 0 _) fun m _=>?_;exact .ite (fun _=>.bd (xB (by decide)) fun S' k=>.go k.1) fun _=>.go .rfl'
 refine .eo hJ fun s hs=>?_;refine .pp hs fun a1 r hs=>.pp hs fun a2 r hs=>.pp hs fun a3 r hs=>.pp hs fun a4 r hs=>.pp hs fun a5 r hs=>.pp hs fun a6 r hs=>.pp hs fun a7 r hs=>.pp hs fun a8 r hs=>.pp hs fun a9 a10 hs=>?_;exact .bp (hg _ V _ ln n (hs.si h) hx.2 hx.1.1 (by omega)) fun l' S' k=>.mk (hs.trans k.1)
theorem Mg (hf:aa0 f fu){V:List iA}{ln:Int}{n:Nat}(hn:2 * n≤fu){S0:fV}(h:SI S0 V){O:List jD × fV→Prop}:∀ (l:List jD)(k:Nat)(out:List jD)(S:fV),EN S0 S→(∀ y ∈ l,CK n y)→out.length+l.length≤5000→
  kP (nk fu g f ln l k out S.a.a.a S.f S.c S.e S.a.a.b S.a.c S.a.b S.b) (qp (fun r=>jB r fun o r=>jB r fun a r=>jB r fun b r=>jB r fun c r=>jB r fun d r=>jB r fun e r=>jB r fun f r=>jB r fun g h=>EN S0 ⟨⟨⟨a,e⟩,f,g⟩,b,h,c,d⟩/\o.length=out.length+l.length) O)
 | [],_,out,S,hS,_,_=>.go ⟨hS,rfl⟩
 | u :: r,k,out,S,hS,hl,hlen=>by
  rw [nk];rw [uM] at hlen;refine .bp (hf _ V u ln n (hS.si h) (hl u (.head _)) hn) fun x S1 k1=>?_;refine .bd (.app (by simp only [uM,yG];omega)) fun o ho=>?_;subst ho;refine (Mg hf hn h (O:=O) r (k+1) _ S1 (hS.trans k1) (fun y hy=>hl y (.tail _ hy)) (by rw [kD];omega)).imp fun v hv=>?_;obtain v | v:=v
  · obtain ⟨a1,a2,a3,a4,a5,a6,a7,a8,a9⟩:=v;exact ⟨hv.1,by rw [hv.2,kD,uM];omega⟩
  · exact hv
theorem aaT (hf:aa0 f fu):Yw (qK fu g f) (fu+1):=by intro S V l ln n h hl hlen hn;unfold qK;refine .el (Mg (O:=fun _=>False) hf (by omega) h l 0 [] S .rfl' hl (by simp only [yG];omega)) (fun s hs=>?_) fun _ z=>z.elim;refine .pp hs fun a1 r hs=>.pp hs fun a2 r hs=>.pp hs fun a3 r hs=>.pp hs fun a4 r hs=>.pp hs fun a5 r hs=>.pp hs fun a6 r hs=>.pp hs fun a7 r hs=>.pp hs fun a8 a9 hs=>.mk ⟨hs.1,?_⟩;rw [hs.2,yG,DV]
end
theorem PL:∀ fu:Nat,aa0 (yu fu) fu∧Yw (rP fu) fu
 | 0=>by
  refine ⟨fun S V x ln n h hx hn=>?_,fun S V l ln n h hl hlen hn=>by omega⟩;obtain rfl:n=0:=by omega
  exact hx.elim
 | fu+1=>⟨adl (PL fu).2,aaT (PL fu).1⟩
theorem Xp {fu:Nat}{S:fV}{x:jC}:kP (rE fu S x) (fun r=>jB r fun S' x'=>EN S S'/\∃ c,x'=⟨x.b,x.g,x.n,x.c,x.j,x.m,x.f,x.e,x.k,c,x.a,x.d,x.i⟩):=by
 unfold rE;have hx:x=⟨x.b,x.g,x.n,x.c,x.j,x.m,x.f,x.e,x.k,x.h,x.a,x.d,x.i⟩:=by cases x;rfl
 refine .ite (fun _=>.mk ⟨.rfl',_,hx⟩) fun _=>?_;refine .bp acP fun v b hv=>.ite (fun _=>?_) fun d=>?_
 · exact .bd (xB (by decide)) fun S' k=>.mk ⟨k.1,_,rfl⟩
 have hv:=hv (by simpa using d);refine .bd (.ix hv.1 hv.2) fun fn _=>.ite (fun _=>?_) fun _=>.mk ⟨.rfl',_,rfl⟩;exact .bd (xB (by decide)) fun S' k=>.mk ⟨k.1,_,rfl⟩
structure Ng (N:Int)(C:Nat->Prop)(V V':List iA):Prop where
 len:V'.length=V.length
 el:∀ (i:Nat)(x':iA),V'[i]?=some x'->∃ x,V[i]?=some x/\x'.c=x.c/\x'.b=x.b/\x'.f=x.f/\x'.e=x.e/\(x'.d=N\/x'.d=x.d)/\(C i->x'.d=N)/\(¬ C i->x'.d=x.d)
theorem Ng.rfl' {N:Int}{V:List iA}:Ng N (fun _=>False) V V:=⟨rfl,fun i x h=>⟨x,h,rfl,rfl,rfl,rfl,.inr rfl,fun z=>z.elim,fun _=>rfl⟩⟩
theorem Ng.trans {N:Int}{C C2:Nat->Prop}{V V1 V2:List iA}(h:Ng N C V V1)(k:Ng N C2 V1 V2):Ng N (fun i=>C i\/C2 i) V V2:=⟨k.len.trans h.len,fun i x hx=>by
 obtain ⟨y,hy,a1,a2,a3,a4,a5,a6,a7⟩:=k.el i x hx;obtain ⟨z,hz,b1,b2,b3,b4,b5,b6,b7⟩:=h.el i y hy;refine ⟨z,hz,a1.trans b1,a2.trans b2,a3.trans b3,a4.trans b4,?_,fun c=>?_,fun c=>?_⟩
 · obtain a5 | a5:=a5
   · exact .inl a5
   · rw [a5];exact b5
 · obtain c | c:=c
   · obtain a5 | a5:=a5
     · exact a5
     · rw [a5];exact b6 c
   · exact a6 c
 · rw [a7 fun y=>c (.inr y)];exact b7 fun y=>c (.inl y)⟩
theorem Ng.one {N:Int}{V:List iA}{i:Nat}{x:iA}(hx:V[i]?=some x):Ng N (·=i) V (V.set i ⟨x.c,x.b,x.f,x.a,x.g,x.e,N⟩):=⟨wR,fun j y hy=>by
 by_cases c:j=i
 · subst c;rw [DJ (ku hx)] at hy;obtain rfl:=Kj hy;exact ⟨x,hx,rfl,rfl,rfl,rfl,.inl rfl,fun _=>rfl,fun z=>absurd rfl z⟩
 · rw [zV (Ne.symm c)] at hy;exact ⟨y,hy,rfl,rfl,rfl,rfl,.inr rfl,fun z=>absurd z c,fun _=>rfl⟩⟩
theorem M4 {α:Type}{l:List α}{x:α}{k:Nat}(h:l[k]?=some x):l.set k x=l:=by obtain ⟨hk,rfl⟩:=List.getElem?_eq_some_iff.1 h;exact List.set_getElem_self hk
theorem UQ {α:Type}{l:List α}{x:α}(h:x ∈ l):∃ i:Nat,l[i]?=some x:=by obtain ⟨i,hi,rfl⟩:=List.getElem_of_mem h;exact ⟨i,List.getElem?_eq_getElem hi⟩
theorem Ng.stp {S:fV}{V V':List iA}{C:Nat->Prop}{op:List Int}{vs:List (List iA)}(h:SI S V)(k:Ng ((S.a.b.length:Int) - 1) C V V')(hvs:vs=S.a.c.set S.f.toNat V')(ho:∀ v ∈ op,v ∈ S.b)(hl:op.length<=S.b.length)(hC:∀ i:Nat,C i->(i:Int) ∈ S.b)(hD:S.e=0->∀ i:Nat,(i:Int) ∈ S.b->(i:Int) ∉ op->C i):Stp S V ⟨⟨S.a.a,vs,S.a.b⟩,S.f,op,S.c,S.e⟩ V':=by
 have a3:=h.f0;have a4:=h.vl;subst hvs;refine ⟨⟨h.f0,by simp only [wR];exact h.vl,?_,by rw [k.len];exact h.vn,fun v hv=>by rw [k.len];exact h.op v (ho v hv),by rw [k.len];exact sO hl h.ol,h.st,fun x hx hk=>?_⟩,rfl,rfl,fun q hq=>?_,nD _,id,by rw [k.len];exact nD _,fun he n=>⟨fun i x hi ho2=>?_,fun i j x y hij hi hj=>?_⟩⟩
 · show (S.a.c.set S.f.toNat V')[S.f.toNat]?=_;rw [DJ (by omega)]
 · obtain ⟨i,hi⟩:=UQ hx;obtain ⟨y,hy,_,b1,b2,_⟩:=k.el i x hi;rw [b2];exact h.rk y (vS hy) (b1 ▸ hk)
 · show (S.a.c.set S.f.toNat V')[q]?=_;rw [zV (by omega)]
 · obtain ⟨y,hy,_,_,_,_,b5,b6,b7⟩:=k.el i x hi;dsimp only at ho2 ⊢;by_cases c:(i:Int) ∈ S.b
   · rw [b6 (hD he i c ho2)];omega
   · rw [b7 fun z=>c (hC i z)];exact n.cl i y hy c
 · obtain ⟨x0,hx0,b1,_,_,_,_,b6,b7⟩:=k.el i x hi;obtain ⟨y0,hy0,c1,_,_,c4,_⟩:=k.el j y hj;rw [b1,c1,c4];obtain m | m:=n.pr i j x0 y0 hij hx0 hy0
   · exact .inl m
   · exact .inr ⟨fun z=>m.1 (ho _ z),by rw [b7 fun z=>m.1 (hC i z)];exact m.2⟩
def aaU (f:fV->List jC->Option (List jC × fV))(fu:Nat):Prop:=∀ S V l n,SI S V->(∀ y ∈ l,Ef 5000 n y)->l.length<=5001->2 * n+10002<=fu->kP (f S l) (fun r=>jB r fun _ S'=>∃ V',Stp S V S' V'/\S'.b=S.b)
def aaV (f:fV->jC->Option (jC × fV))(fu:Nat):Prop:=∀ S V x n,SI S V->Ef 5000 n x->2 * n+10001<=fu->kP (f S x) (fun r=>jB r fun _ S'=>∃ V',Stp S V S' V'/\∃ ext,S'.b=S.b ++ ext)
section
variable {fu:Nat}{f:fV->List jC->Option (List jC × fV)}{g:fV->jC->Option (jC × fV)}
theorem MS (hg:aaV g fu){n:Nat}(hn:2 * n+10001≤fu){S0:fV}{V0:List iA}(h0:SI S0 V0){O:List jC × fV→Prop}:∀ (l:List jC)(k:Nat)(out:List jC)(S:fV)(V:List iA),Stp S0 V0 S V→(∃ ext,S.b=S0.b ++ ext)→(∀ y ∈ l,Ef 5000 n y)→out.length+l.length≤5001→
  kP (lJ fu f g l k out S.a.a.a S.f S.c S.e S.a.a.b S.a.c S.a.b S.b) (qp (fun r=>jB r fun o r=>jB r fun a r=>jB r fun b r=>jB r fun c r=>jB r fun d r=>jB r fun e r=>jB r fun f r=>jB r fun g h=>∃ V',Stp S0 V0 ⟨⟨⟨a,e⟩,f,g⟩,b,h,c,d⟩ V'/\∃ ext,h=S0.b ++ ext) O)
 | [],_,out,S,V,hS,he,_,_=>.go ⟨V,hS,he⟩
 | u :: r,k,out,S,V,hS,he,hl,hlen=>by rw [lJ];rw [uM] at hlen;refine .ite (fun c=>.go ⟨V,hS,he⟩) fun c=>?_;refine .bp (hg _ V u n hS.si (hl u (.head _)) hn) fun x S1 ⟨V1,k1,ext,k2⟩=>?_;refine .bd (.app (by simp only [uM,yG];omega)) fun o ho=>?_;subst ho;obtain ⟨e0,he⟩:=he;exact MS hg hn h0 r (k+1) _ S1 V1 (hS.trans k1) ⟨e0 ++ ext,by rw [k2];dsimp only;rw [he,List.append_assoc]⟩ (fun y hy=>hl y (.tail _ hy)) (by rw [kD];omega)
theorem KT {S:fV}{V:List iA}(h:SI S V){O:List jC × fV→Prop}:∀ (l:List Int)(k:Nat)(vs:List (List iA))(V1:List iA)(C:Nat→Prop),(∀ v ∈ l,v ∈ S.b)→vs.length=S.a.c.length→vs=S.a.c.set S.f.toNat V1→Ng ((S.a.b.length:Int) - 1) C V V1→(∀ i,C i→(i:Int) ∈ S.b)→
  kP (mZ fu f g S.f S.a.b l k vs) (qp (fun vs'=>∃ V',vs'=S.a.c.set S.f.toNat V'/\∃ C',Ng ((S.a.b.length:Int) - 1) C' V V'/\(∀ i,C' i->(i:Int) ∈ S.b)/\(∀ i,C i->C' i)/\∀ v ∈ l,C' v.toNat) O)
 | [],_,vs,V1,C,_,_,h1,h2,h3=>.go ⟨V1,h1,C,h2,h3,fun _ z=>z,fun v hv=>(by cases hv)⟩
 | u :: r,k,vs,V1,C,hl,hlen,h1,h2,h3=>by
  have a3:=h.f0;have a4:=h.vl;have a5:=h.st;have hu:=hl u (.head _);have hu2:=h.op u hu;rw [mZ];have hg:vs[S.f.toNat]?=some V1:=by rw [h1,DJ (by omega)]
  refine .bd (.ix (by omega) (by omega)) fun e he=>?_;rw [hg] at he;obtain rfl:=Kj he;refine .bd (.ix hu2.1 (by rw [h2.len];exact hu2.2)) fun x hx=>?_;refine .bd (.st (by rw [h2.len];exact hu2)) fun w hw=>?_;refine .bd (.st (by omega)) fun w2 hw2=>?_;rw [l8 (by omega) (by omega)] at hw;have k1:=Ng.one (N:=(S.a.b.length:Int) - 1) hx;rw [<-hw] at k1;refine (KT h (O:=O) r (k+1) w2 w _ (fun v hv=>hl v (.tail _ hv)) (by rw [hw2,wR];exact hlen) (by rw [hw2,h1,List.set_set]) (h2.trans k1) (fun i hi=>?_)).imp fun v hv=>?_
  · obtain hi | rfl:=hi
    · exact h3 i hi
    · rw [show ((u.toNat:Nat):Int)=u by omega];exact hu
  · obtain v | v:=v
    · obtain ⟨V',b1,C',b2,b3,b4,b5⟩:=hv;refine ⟨V',b1,C',b2,b3,fun i hi=>b4 i (.inl hi),fun q hq=>?_⟩;obtain rfl | hq:=nM.1 hq
      · exact b4 _ (.inr rfl)
      · exact b5 q hq
    · exact hv
theorem aaZ (hg:aaV g fu):aaU (oh fu f g) (fu+1):=by
 intro S V l n h hl hlen hn;unfold oh;refine .el (MS (O:=fun _=>False) hg (by omega) h l 0 [] S V (.rfl' h) ⟨[],(EW _).symm⟩ hl (by simp only [yG];omega)) (fun s hs=>?_) fun _ z=>z.elim;refine .pp hs fun o r hs=>.pp hs fun a1 r hs=>.pp hs fun a2 r hs=>.pp hs fun a3 r hs=>.pp hs fun a4 r hs=>.pp hs fun a5 r hs=>.pp hs fun a6 r hs=>.pp hs fun a7 a8 hs=>?_;obtain ⟨V1,h1,ext,rfl⟩:=hs;have b1:=h1.si.ol;have b2:=h1.si.vn;dsimp only at b1;rw [F9] at b1;refine .bd (.sl (by rw [F9];omega)) fun l1 hl1=>?_;have e1:l1=ext:=by rw [hl1,F9];simp only [ET,List.drop_left];rw [List.take_of_length_le (by omega)]
 subst e1;clear hl1;refine .el (KT h1.si (O:=fun _=>False) l1 0 a6 V1 (fun _=>False) (fun v hv=>qg.2 (.inr hv)) rfl (M4 h1.si.v).symm .rfl' (fun _ z=>z.elim)) (fun vs hvs=>?_) fun _ z=>z.elim;obtain ⟨V2,c1,C,c2,c3,_,c5⟩:=hvs;refine .bd (.sl (by rw [F9];omega)) fun l2 hl2=>?_;have e2:l2=S.b:=by rw [hl2];simp only [Int.toNat_zero,List.drop_zero,Int.sub_zero,ET,List.take_left]
 subst e2;refine .bd (.app (by simp only [yG];omega)) fun r hr=>.mk ?_;rw [BZ] at hr;subst hr;refine ⟨V2,h1.trans (Ng.stp h1.si c2 c1 (fun v hv=>List.mem_append.2 (.inl hv)) (by dsimp only;rw [List.length_append];omega) c3 fun _ i hi ho=>?_),rfl⟩;dsimp only at hi;obtain hi | hi:=qg.1 hi
 · exact absurd hi ho
 · have:=c5 _ hi
   rwa [ET] at this
end
def UP (S:fV)(V:List iA)(S':fV):Prop:=∃ V',Stp S V S' V'/\∃ ext,S'.b=S.b ++ ext
theorem UP.trans {S S1 S2:fV}{V V1:List iA}(h:Stp S V S1 V1)(ho:S1.b=S.b)(k:UP S1 V1 S2):UP S V S2:=by obtain ⟨V2,k1,ext,k2⟩:=k;exact ⟨V2,h.trans k1,ext,by rw [k2,ho]⟩
section
variable {fu:Nat}{f:fV->List jC->Option (List jC × fV)}{g:fV->jC->Option (jC × fV)}
theorem V7 {S:fV}{V:List iA}{x:jC}{r8:List jR}(h:SI ⟨⟨S.a.a,S.a.c,r8⟩,S.f,S.b,S.c,S.e⟩ V):kP (rM fu f g S x r8) (qp (fun r=>jB r fun k r=>jB r fun c _=>k=2->0<=c/\c < S.a.a.a.length) (fun r=>jB r fun _ S'=>UP ⟨⟨S.a.a,S.a.c,r8⟩,S.f,S.b,S.c,S.e⟩ V S')):=by
 unfold rM;refine .ite (fun _=>.go fun z=>(by cases z)) fun _=>.ite (fun _=>?_) fun _=>.go fun z=>(by cases z);refine .bp Yo fun v b hv=>.ite (fun _=>?_) fun d=>?_
 · exact .bd (xB (by decide)) fun S' k=>.out ⟨V,k.1.stp h,[],by rw [k.1.op,EW]⟩
 have hv:=hv (by simpa using d);exact .bd (.ix hv.1 hv.2) fun rc _=>.go fun _=>hv
theorem Wy {S:fV}{V:List iA}{x:jC}{r8:List jR}(h:SI ⟨⟨S.a.a,S.a.c,r8⟩,S.f,S.b,S.c,S.e⟩ V)(hr:r8.length=S.a.b.length+1):kP (oD fu f g S x r8) (qp (fun r=>jB r fun a r=>jB r fun b r=>jB r fun c r=>jB r fun d r=>jB r fun e r=>jB r fun f r=>jB r fun g h=>EN ⟨⟨S.a.a,S.a.c,r8⟩,S.f,S.b,S.c,S.e⟩ ⟨⟨⟨a,e⟩,f,g⟩,b,h,c,d⟩) (fun r=>jB r fun _ S'=>UP ⟨⟨S.a.a,S.a.c,r8⟩,S.f,S.b,S.c,S.e⟩ V S')):=by
 unfold oD;refine .ite (fun _=>?_) fun _=>.ite (fun _=>.ite (fun c=>?_) fun _=>.go .rfl') fun _=>.go .rfl'
 · refine .el (V7 h) (fun s hs=>?_) fun o ho=>.out ho;refine .pp hs fun k r hs=>.pp hs fun c w hs=>?_;have h1:=h.st;dsimp only at h1;refine .bp (JA h hs ?_) fun v S' k=>.out ?_
   · dsimp only;rw [l8 (by omega) (by omega)];omega
   · obtain ⟨V',k1,k2,_⟩:=k;exact ⟨V',k1,k2⟩
 · refine .bd (.ix (vP _) c) fun e he=>.ite (fun _=>?_) fun _=>.go .rfl';exact .bd (xB (by decide)) fun S' k=>.go k.1
theorem Wt {S:fV}{V:List iA}{v:Int}(h:SI S V)(hv:S.e=0->0<=v/\v < V.length){O:jC × fV->Prop}:kP (pI fu f g v S) (qp (fun vs=>∃ V',vs=S.a.c.set S.f.toNat V'/\∃ C,Ng ((S.a.b.length:Int) - 1) C V V'/\(S.e=0->∀ i,C i ↔ i=v.toNat)/\(S.e≠0->∀ i,¬ C i)) O):=by unfold pI;refine .ite (fun c=>?_) fun c=>.go ⟨V,(M4 h.v).symm,_,.rfl',fun z=>absurd z c,fun _ _ z=>z⟩;have hv:=hv c;have a3:=h.f0;have a4:=h.vl;have a5:=h.st;refine .bd h.ix fun e he=>?_;subst he;refine .bd (.ix hv.1 hv.2) fun x hx=>.bd (.st hv) fun w hw=>.bd (.st (by omega)) fun w2 hw2=>.go ?_;rw [l8 (by omega) (by omega)] at hw;subst hw hw2;exact ⟨_,rfl,_,Ng.one hx,fun _ i=>Iff.rfl,fun z=>absurd c z⟩
theorem VD (hf:aaU f fu){n:Nat}(hn:2 * n+10002<=fu){S:fV}{V:List iA}{l:List jC}(h:SI S V)(hl:(∀ y ∈ l,Ef 5000 n y)/\l.length<=5001){a1 a2 a3:Int}{a4 a5:BA}{a6:Int}{a7:List jD}{a8:BA}{a9:Int}{a10:List jD}{a11:List jC} :kP (oG fu f g a1 a2 a3 a4 a5 a6 a7 a8 a9 l a10 a11 S) (qp (fun _=>True) (fun r=>jB r fun _ S'=>UP S V S')):=by
 unfold oG;refine .ite (fun _=>.ite (fun c=>?_) fun _=>.go kE) fun _=>.go kE;have b1:=h.ol;have b2:=h.vn;refine .bd (.app (by simp only [yG];omega)) fun r hr=>?_;rw [BZ] at hr;subst hr;refine .bp (JA h (fun z=>(by cases z)) (vP _)) fun v S1 k1=>?_;obtain ⟨V1,k1,⟨ext,k2⟩,k3⟩:=k1;refine .bp (hf S1 V1 l n k1.si hl.1 hl.2 hn) fun l2 S2 k4=>?_;obtain ⟨V2,k4,k5⟩:=k4;have hv:S2.e=0->0<=v/\v < V2.length:=fun z=>by have q:=k3 (k4.e z);have q1:=k4.vle;rw [q.1,kD] at q1;omega
 refine .el (Wt (O:=fun _=>False) k4.si hv) (fun vs hvs=>?_) fun _ z=>z.elim;obtain ⟨V3,c1,C,c2,c3,c4⟩:=hvs;have hop:S2.b=S.b ++ ext:=by rw [k5,k2]
 refine .out ⟨V3,(k1.trans k4).trans (Ng.stp k4.si c2 c1 (fun v hv=>by rw [hop];exact qg.2 (.inl hv)) (by rw [hop,F9];omega) (fun i hi=>?_) fun z i hi ho=>?_),[],by rw [EW]⟩
 · by_cases z:S2.e=0
   · have q:=k3 (k4.e z);rw [(c3 z i).1 hi,k5,q.2.2,q.2.1,ET];exact qg.2 (.inr (.head _))
   · exact absurd hi (c4 z i)
 · have q:=k3 (k4.e z);rw [k5,q.2.2] at hi;obtain hi | hi:=qg.1 hi
   · exact absurd hi ho
   · simp only [nM,Dl,or_false] at hi;refine (c3 z i).2 ?_;rw [q.2.1];omega
theorem Vw {S:fV}{x:jC}{a:List jD}{S1:fV}{O:jC × fV->Prop}:kP (rO fu f g S x a S1) (qp (fun r=>jB r fun a r=>jB r fun b r=>jB r fun c r=>jB r fun d r=>jB r fun e r=>jB r fun f r=>jB r fun g r=>jB r fun h r=>jB r fun _ r=>jB r fun _ r=>jB r fun _ r=>jB r fun _ r=>jB r fun _ r=>jB r fun _ r=>jB r fun _ r=>jB r fun _ r=>jB r fun _ r=>jB r fun _ r=>jB r fun i r=>jB r fun j k=>EN S1 ⟨⟨⟨a,e⟩,f,g⟩,b,h,c,d⟩/\i=x.a/\j=x.d/\k=x.i) O):=by unfold rO;refine .ite (fun _=>.bp Xp fun S' x' k=>.go ?_) fun _=>.go ⟨.rfl',rfl,rfl,rfl⟩;obtain ⟨k1,c,rfl⟩:=k;exact ⟨k1,rfl,rfl,rfl⟩
theorem adY (hf:aaU f fu):aaV (sH fu f g) (fu+1):=by
 intro S V x n h hx hn;cases n with
 | zero=>exact hx.elim
 | succ n=>
 obtain ⟨x1,x2,x3,x4,x5⟩:=hx;unfold sH;refine .ite (fun c=>.bd (xB (by decide)) fun S' k=>.mk ⟨V,k.1.stp h,[],by rw [k.1.op,EW]⟩) fun c=>?_;have a3:=h.st;refine .bd (.app (by simp only [uM,yG];omega)) fun r8 hr8=>?_;have hlen:r8.length=S.a.b.length+1:=by rw [hr8,kD]
 have h1:SI ⟨⟨S.a.a,S.a.c,r8⟩,S.f,S.b,S.c,S.e⟩ V:=⟨h.f0,h.vl,h.v,h.vn,h.op,h.ol,by dsimp only;omega,h.rk⟩;have s1:Stp S V ⟨⟨S.a.a,S.a.c,r8⟩,S.f,S.b,S.c,S.e⟩ V:=⟨h1,rfl,rfl,fun _ _=>rfl,by dsimp only;omega,id,Nat.le_refl _,fun _ m=>⟨fun i y hi ho=>by have:=m.cl i y hi ho;dsimp only;omega,m.pr⟩⟩;refine .el (Wy h1 hlen) (fun s hs=>?_) fun o ho=>.mk ?_;rotate_left
 · obtain ⟨y,S'⟩:=o;exact UP.trans s1 rfl ho
 refine .pp hs fun b1 r hs=>.pp hs fun b2 r hs=>.pp hs fun b3 r hs=>.pp hs fun b4 r hs=>.pp hs fun b5 r hs=>.pp hs fun b6 r hs=>.pp hs fun b7 b8 hs=>?_;refine .bp ((PL fu).2 _ V _ _ 5000 (hs.si h1) x1.2 (by have:=x1.1;omega) (by omega)) fun tg S2 k2=>?_;have q2:=hs.trans k2.1;refine .el (Vw (O:=fun _=>False)) (fun s hs=>?_) fun _ z=>z.elim;refine .pp hs fun c1 r hs=>.pp hs fun c2 r hs=>.pp hs fun c3 r hs=>.pp hs fun c4 r hs=>.pp hs fun c5 r hs=>.pp hs fun c6 r hs=>.pp hs fun c7 r hs=>.pp hs fun c8 r hs=>.pp hs fun c9 r hs=>.pp hs fun c10 r hs=>.pp hs fun c11 r hs=>.pp hs fun c12 r hs=>.pp hs fun c13 r hs=>.pp hs fun c14 r hs=>.pp hs fun c15 r hs=>.pp hs fun c16 r hs=>.pp hs fun c17 r hs=>.pp hs fun c18 r hs=>.pp hs fun c19 r hs=>.pp hs fun c20 c21 hs=>?_;obtain ⟨k3,rfl,rfl,rfl⟩:=hs;have q3:=q2.trans k3;refine .bp ((PL fu).2 _ V _ _ 5000 (q3.si h1) x2.2 x2.1 (by omega)) fun ar S4 k4=>?_;have q4:=q3.trans k4.1;have s4:=s1.trans (q4.stp h1);refine .bp (hf S4 V x.d n s4.si x3.2 (by have:=x3.1;omega) (by omega)) fun bd S5 k5=>?_;obtain ⟨V5,k5,o5⟩:=k5;have s5:=s4.trans k5;have ho5:S5.b=S.b:=by rw [o5,q4.op]
 refine .el (VD hf (by omega) s5.si ⟨x4.2,by have:=x4.1;omega⟩) (fun _ _=>?_) fun o ho=>.mk ?_
 · refine .bp (hf S5 V5 x.i n s5.si x4.2 (by have:=x4.1;omega) (by omega)) fun el S6 k6=>.mk ?_;obtain ⟨V6,k6,o6⟩:=k6;exact ⟨V6,s5.trans k6,[],by rw [o6,ho5,EW]⟩
 · obtain ⟨y,S'⟩:=o;exact UP.trans s5 ho5 ho
end
theorem Mq:∀ fu:Nat,aaU (qm fu) fu∧aaV (vY fu) fu
 | 0=>⟨fun S V l n h hl hlen hn=>by omega,fun S V x n h hx hn=>by omega⟩
 | fu+1=>⟨aaZ (Mq fu).2,adY (Mq fu).1⟩
end Go.Proofs.YtdkneekpdecjbaaGreat
