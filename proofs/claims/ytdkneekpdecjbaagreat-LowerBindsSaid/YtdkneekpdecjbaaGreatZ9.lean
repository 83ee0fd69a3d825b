/- Plain words: a computation that answers, with what its answer is known to be. -/
import Derived.Test.YtdkneekpdecjbaaGreatLa
import Derived.Test.YtdkneekpdecjbaaGreatLb
set_option linter.unusedVariables false
namespace Go.Fw
open Go.RowKit
def kS {α:Type}(x:Option α)(P:α->Prop):Prop:=∃ v,x=some v/\P v
def qg {σ ρ:Type}(G:σ→Prop)(O:ρ→Prop):Ld σ ρ→Prop
 | .go s=>G s
 | .out r=>O r
section
variable {α β γ σ ρ:Type}{P:α->Prop}
theorem kS.mk {v:α}(h:P v):kS (some v) P:=⟨v,rfl,h⟩
theorem kS.bd {x:Option β}{f:β->Option α}{Q:β->Prop}(h:kS x Q)(k:∀ v,Q v->kS (f v) P):kS (x.bind f) P:=by obtain ⟨v,rfl,hv⟩:=h;exact k v hv
theorem kS.bp {x:Option (β × γ)}{f:β->γ->Option α}{Q:β->γ->Prop}(h:kS x (fun r=>jy r Q))(k:∀ a b,Q a b->kS (f a b) P):kS (x.bind fun r=>jy r f) P:=by obtain ⟨⟨a,b⟩,rfl,hv⟩:=h;exact k a b hv
theorem kS.pp {r:β × γ}{f:β->γ->Option α}{Q:β->γ->Prop}(h:jy r Q)(k:∀ a b,Q a b->kS (f a b) P):kS (jy r f) P:=by obtain ⟨a,b⟩:=r;exact k a b h
theorem kS.ite {c:Prop}[Decidable c]{a b:Option α}(h1:c->kS a P)(h2:¬ c->kS b P):kS (if c then a else b) P:=by
 by_cases h:c
 · rw [lG h];exact h1 h
 · rw [lD h];exact h2 h
theorem kS.el {x:Option (Ld σ ρ)}{f:σ->Option α}{g:ρ->Option α}{G:σ->Prop}{O:ρ->Prop}(h:kS x (qg G O))(h1:∀ s,G s->kS (f s) P)(h2:∀ o,O o->kS (g o) P):kS (x.bind fun r=>r.el f g) P:=by
 obtain ⟨v,rfl,hv⟩:=h;cases v with
 | go s=>exact h1 s hv
 | out o=>exact h2 o hv
theorem kS.eo {x:Option (Ld σ α)}{f:σ->Option α}{G:σ->Prop}(h:kS x (qg G P))(h1:∀ s,G s->kS (f s) P):kS (x.bind fun r=>r.el f fun o=>some o) P:=h.el h1 fun o ho=>.mk ho
theorem kS.FL {τ:Type}{x:Option (Ld σ ρ)}{f:σ->Option (Ld τ ρ)}{G:σ->Prop}{G':τ->Prop}{O:ρ->Prop}(h:kS x (qg G O))(h1:∀ s,G s->kS (f s) (qg G' O)):kS (x.bind fun r=>r.el f fun o=>some (.out o)) (qg G' O):=h.el h1 fun o ho=>.mk ho
theorem kS.imp {x:Option α}{Q:α->Prop}(h:kS x Q)(k:∀ v,Q v->P v):kS x P:=by obtain ⟨v,h1,h2⟩:=h;exact ⟨v,h1,k v h2⟩
theorem kS.go {s:σ}{G:σ->Prop}{O:ρ->Prop}(h:G s):kS (some (Ld.go s)) (qg G O):=⟨_,rfl,h⟩
theorem kS.out {r:ρ}{G:σ->Prop}{O:ρ->Prop}(h:O r):kS (some (Ld.out r)) (qg G O):=⟨_,rfl,h⟩
theorem kS.ix {l:List α}{i:Int}(h0:0<=i)(h1:i < l.length):kS (ix l i) (fun x=>l[i.toNat]?=some x):=by obtain ⟨x,hx⟩:=mF (l:=l) (k:=i.toNat) (by omega);refine ⟨x,?_,hx⟩;unfold Go.Fw.ix;rw [lD (by omega),hx]
theorem kS.app {l m:List α}(h:l.length+m.length<=1000000000):kS (app l m) (fun r=>r=l ++ m):=⟨_,lG h,rfl⟩
theorem kS.sl {l:List α}{a b:Int}(h:0<=a/\a<=b/\b<=l.length):kS (sl l a b) (fun r=>r=(l.drop a.toNat).take (b - a).toNat):=⟨_,lG h,rfl⟩
theorem kS.st {l:List α}{i:Int}{x:α}(h:0<=i/\i < l.length):kS (st l i x) (fun r=>r=l.set i.toNat x):=⟨_,lG h,rfl⟩
theorem kS.cat {s t:ByteArray}(h:s.size+t.size<=1000000000):kS (cat s t) (fun r=>r=s ++ t):=⟨_,lG h,rfl⟩
theorem kS.ixs {s:ByteArray}{i:Int}(h0:0<=i)(h1:i < s.size):kS (ixs s i) (fun x=>0<=x/\x<=255):=by
 unfold Go.Fw.ixs;rw [lD (by omega)];have h:i.toNat < s.size:=by omega
 refine ⟨((s[i.toNat].toNat:Nat):Int),?_,by omega,?_⟩
 · rw [getElem?_pos s i.toNat h];rfl
 · have:=s[i.toNat].toNat_lt;omega
theorem kS.VA {s:ByteArray}{a b:Int}(h:0<=a/\a<=b/\b<=s.size):kS (VA s a b) (fun r=>r=s.extract a.toNat b.toNat):=⟨_,lG h,rfl⟩
theorem kS.XM {x:Option β}{f:β->Option α}{Q:β->Prop}(h:kS x Q)(k:∀ v,x=some v->Q v->kS (f v) P):kS (x.bind f) P:=by obtain ⟨v,rfl,hv⟩:=h;exact k v rfl hv
end
theorem mo {n:Int}(h1:-9000000000000000000<=n)(h2:n<=9000000000000000000):wr n=n:=by unfold wr;exact Ru (by omega) (by omega)
theorem EH (s t:ByteArray):(s ++ t).size=s.size+t.size:=ByteArray.size_append ..
end Go.Fw
set_option linter.unusedSimpArgs false
namespace Go.Proofs.YtdkneekpdecjbaaGreat
open Go.RowKit Go.Fw Go.Proofs.Tryz
structure TL (l:List kR):Prop where
 len:l.length<=5000
 last:∀ (k:Nat)(t:kR),k+1=l.length->l[k]?=some t->t.b=0
 name:∀ (k:Nat)(t:kR),l[k]?=some t->t.b=1->t.a≠(⟨#[]⟩:ByteArray)
structure PS (S:iA):Prop where
 tl:TL S.l
 lo:0<=S.a
 hi:S.a < S.l.length
structure Nx (S S':iA):Prop where
 l:S'.l=S.l
 lo:S.a<=S'.a
 hi:S'.a < S.l.length
 e:S'.e=0->S.e=0
theorem Nx.ps {S S':iA}(h:PS S)(k:Nx S S'):PS S':=⟨by rw [k.l];exact h.tl,by have:=h.lo;have:=k.lo;omega,by rw [k.l];exact k.hi⟩
theorem Nx.rfl' {S:iA}(h:PS S):Nx S S:=⟨rfl,vk _,h.hi,id⟩
theorem Nx.trans {S S' S2:iA}(h:Nx S S')(k:Nx S' S2):Nx S S2:=⟨k.l.trans h.l,Int.le_trans h.lo k.lo,by rw [<-h.l];exact k.hi,fun z=>h.e (k.e z)⟩
theorem Nx.step {S:iA}(h:PS S)(k:S.a+1 < S.l.length):Nx S ⟨S.l,wr (S.a+1),S.c,S.e⟩:=by have:=h.lo;have:=h.tl.len;have hw:wr (S.a+1)=S.a+1:=mo (by omega) (by omega);exact ⟨rfl,by dsimp only;omega,by dsimp only;omega,id⟩
theorem PS.Rx {S:iA}(h:PS S):wr (S.a+1)=S.a+1:=by have:=h.lo;have:=h.tl.len;have:=h.hi;exact mo (by omega) (by omega)
theorem PS.more {S:iA}(h:PS S){t:kR}(ht:S.l[S.a.toNat]?=some t)(hk:t.b≠0):S.a+1 < S.l.length:=by
 have:=h.lo;have:=h.hi;by_cases hc:S.a.toNat+1=S.l.length
 · exact absurd (h.tl.last _ t hc ht) hk
 · omega
theorem DY {S:iA}{fu:Nat}{e:Int}(h:PS S)(he:e≠0):kS (qo fu S e) (fun S'=>Nx S S'/\S'.e≠0/\S'.a=S.a):=by
 unfold qo;refine .ite (fun c=>?_) (fun c=>?_)
 · refine .bd (.ix h.lo h.hi) fun t ht=>.mk ⟨⟨rfl,vk _,h.hi,fun z=>absurd z he⟩,he,rfl⟩
 · exact .mk ⟨Nx.rfl' h,c,rfl⟩
theorem DF {S:iA}{fu:Nat}{s:ByteArray}(h:PS S):kS (ng fu S 0 s) (fun b=>b=true->S.a+1 < S.l.length):=by
 unfold ng;have hw:wr (S.a+0)=S.a:=by have:=h.lo;have:=h.hi;have:=h.tl.len;rw [Int.add_zero];exact mo (by omega) (by omega)
 rw [hw];refine .ite (fun c=>.mk fun z=>by cases z) (fun c=>?_);refine .bd (.ix h.lo h.hi) fun t ht=>?_;refine .ite (fun c=>.mk fun _=>h.more ht (by omega)) (fun c=>?_);exact .ite (fun c=>.mk fun _=>h.more ht (by omega)) (fun c=>.mk fun z=>by cases z)
theorem adK {S:iA}{fu:Nat}{s:ByteArray}(h:PS S):kS (ng fu S 1 s) (fun b=>True):=by unfold ng;rw [h.Rx];refine .ite (fun c=>.mk kL) (fun c=>?_);have:=h.lo;refine .bd (.ix (by omega) (by omega)) fun t ht=>?_;refine .ite (fun c=>.mk kL) (fun c=>?_);exact .ite (fun c=>.mk kL) (fun c=>.mk kL)
theorem DU {S:iA}{fu:Nat}{k:Int}(h:PS S):kS (qw fu S 0 k) (fun b=>∃ t,S.l[S.a.toNat]?=some t/\(b=true->t.b=k)/\(t.b=k->b=true)/\(b=true->k≠0->S.a+1 < S.l.length)):=by
 unfold qw;have hw:wr (S.a+0)=S.a:=by have:=h.lo;have:=h.hi;have:=h.tl.len;rw [Int.add_zero];exact mo (by omega) (by omega)
 rw [hw];refine .ite (fun c=>?_) (fun c=>absurd h.hi c);refine .bd (.ix h.lo h.hi) fun t ht=>.mk ⟨t,ht,fun z=>Ey z,fun z=>IX z,fun z hk=>h.more ht (by have:=Ey z;omega)⟩
def Tk (S S':iA):Prop:=Nx S S'/\(S'.e=0->S'.a=S.a+1)
theorem uh {S:iA}{fu:Nat}{s:ByteArray}(h:PS S):kS (mh fu S s) (Tk S):=by
 unfold mh;refine .ite (fun c=>.mk ⟨Nx.rfl' h,fun z=>absurd z c⟩) (fun c=>?_);refine .bd (DF h) fun b hb=>?_;refine .ite (fun d=>?_) (fun d=>?_)
 · refine .bd (DY h (by decide)) fun S' hS=>.mk ⟨hS.1,fun z=>absurd z hS.2.1⟩
 · exact .mk ⟨Nx.step h (hb (by simpa using d)),fun _=>h.Rx⟩
theorem Dg {S:iA}{fu:Nat}(h:PS S):kS (pR fu S) (fun r=>jy r fun n S'=>Tk S S'/\(S'.e=0->n≠(⟨#[]⟩:ByteArray))/\(S.e=0->(∃ t,S.l[S.a.toNat]?=some t/\t.b=1)->S'.e=0)):=by
 unfold pR;refine .ite (fun c=>.mk ⟨⟨Nx.rfl' h,fun z=>absurd z c⟩,fun z=>absurd z c,fun z=>absurd z c⟩) (fun c=>?_);refine .bd (DU h) fun b hb=>?_;obtain ⟨t,ht,hb1,hb3,hb2⟩:=hb;refine .ite (fun d=>?_) (fun d=>?_)
 · refine .bd (DY h (by decide)) fun S' hS=>.mk ⟨⟨hS.1,fun z=>absurd z hS.2.1⟩,fun z=>absurd z hS.2.1,fun _ ⟨t2,ht2,hk⟩=>?_⟩;rw [ht] at ht2;obtain rfl:=JD ht2;rw [hb3 hk] at d;cases d
 · have hw:wr (wr (S.a+1) - 1)=S.a:=by rw [h.Rx];have:=h.lo;have:=h.hi;have:=h.tl.len;rw [mo (by omega) (by omega)];omega
   rw [hw];refine .bd (.ix h.lo h.hi) fun t2 ht2=>.mk ⟨⟨Nx.step h (hb2 (by simpa using d) (by decide)),fun _=>h.Rx⟩,fun _=>?_,fun z _=>z⟩;rw [ht] at ht2;obtain rfl:=JD ht2;exact h.tl.name _ _ ht (hb1 (by simpa using d))
theorem KH {fu:Nat}{O:List ByteArray × iA→Prop}:∀ (n:Nat)(out:List ByteArray)(S:iA),PS S→S.l.length+1≤n+S.a→(S.e=0→(out.length:Int)≤S.a)→
  kS (rQ fu n out S.l S.a S.c S.e) (qg (fun r=>jy r fun o r=>jy r fun a r=>jy r fun b r=>jy r fun c d=>Nx S ⟨a,b,c,d⟩/\(d=0->(o.length:Int)<=b)) O)
 | 0,out,S,h,hn,ho=>by have:=h.hi;omega
 | n+1,out,S,h,hn,ho=>by
  rw [rQ];refine .ite (fun c=>?_) (fun c=>.go ⟨Nx.rfl' h,ho⟩);refine .bd (DF h) fun b hb=>?_;refine .ite (fun d=>?_) (fun d=>.go ⟨Nx.rfl' h,ho⟩);refine .bd (uh h) fun S1 h1=>?_;refine .bp (Dg (h1.1.ps h)) fun nm S2 h2=>?_;have hl:=h.tl.len;have:=h.hi;refine .bd (.app (by have:=ho c;simp only [uK,xX];omega)) fun r hr=>?_;have k:=h1.1.trans h2.1.1;by_cases z:S2.e=0
  · have z1:S1.a=S.a+1:=h1.2 (h2.1.1.e z);have z2:=h2.1.2 z;refine (KH (O:=O) n r S2 (k.ps h) (by rw [k.l];dsimp only;omega) fun _=>?_).imp fun v hv=>?_
    · subst hr;have:=ho c;simp only [Ij,uK,xX];omega
    · obtain v | v:=v
      · obtain ⟨o,a,b,c,d⟩:=v;exact ⟨k.trans hv.1,hv.2⟩
      · exact hv
  · cases n with
    | zero=>have:S.a<=S1.a:=h1.1.lo;have:=h2.1.1.lo;omega
    | succ n=>
      rw [rQ,lD z];exact .go ⟨k,fun y=>absurd y z⟩
theorem Ub {fu:Nat}{S:iA}(h:PS S)(hf:S.l.length+1<=fu):kS (xW fu S) (fun r=>jy r fun n S'=>Nx S S'/\(S'.e=0->n.length<=5000/\S.a < S'.a)):=by
 unfold xW;refine .bp (Dg h) fun n S1 h1=>?_;have h2:=h1.1.1.ps h;have h3:=h2.lo;have h4:=h.lo;have h5:=h2.tl.len;refine .eo (KH fu [n] S1 h2 (by rw [h1.1.1.l];omega) fun z=>?_) fun s hs=>?_
 · have:=h1.1.2 z;simp only [uK,xX];omega
 · refine .pp hs fun o r hs=>.pp hs fun a r hs=>.pp hs fun b r hs=>.pp hs fun c d hs=>.mk ⟨h1.1.1.trans hs.1,fun z=>?_⟩;have k1:=hs.2 z;have k2:=hs.1.hi;have k3:=hs.1.lo;have k4:=h1.1.2 (hs.1.e z);dsimp only at k2 k3 ⊢;omega
theorem Vu {fu:Nat}{S:iA}(h:PS S):kS (yM fu S) (fun b=>b=true->S.a+1 < S.l.length):=by unfold yM;refine .bd (DU h) fun b ⟨t,ht,hb,_,hb2⟩=>.ite (fun c=>.mk fun _=>hb2 c (by decide)) fun c=>?_;refine .bd (DU h) fun b ⟨t,ht,hb,_,hb2⟩=>.ite (fun c=>.mk fun _=>hb2 c (by decide)) fun c=>?_;refine .bd (DF h) fun b hb=>.ite (fun c=>.mk fun _=>hb c) fun c=>?_;refine .bd (DF h) fun b hb=>.ite (fun c=>.mk fun _=>hb c) fun c=>?_;exact .bd (DF h) fun b hb=>.mk hb
theorem Ku {fu:Nat}{S:iA}(h:PS S):∀ (l:List ByteArray)(k:Nat),k+l.length≤12→kS (rO fu S l k) (qg (fun _=>True) (fun r=>jy r fun n op=>S.a+1 < S.l.length∧6≤op∧op≤17))
 | [],_,_=>.go kL
 | u :: r,k,hk=>by rw [rO];rw [uK] at hk;refine .bd (DF h) fun b hb=>.ite (fun c=>?_) fun c=>Ku h r (k+1) (by omega);refine .bd (.ix (by omega) (by simp only [uK,xX];omega)) fun e he=>.out ?_;rw [mo (by omega) (by omega)];exact ⟨hb c,by omega,by omega⟩
theorem Zy {fu:Nat}{S:iA}(h:PS S):kS (Bh fu S) (fun r=>jy r fun n op=>n≠0->S.a+1 < S.l.length/\6<=op/\op<=17):=by unfold Bh;refine .el (Ku h _ 0 (by decide)) (fun _ _=>.mk fun z=>absurd rfl z) fun o ho=>.mk ?_;obtain ⟨n,op⟩:=o;exact fun _=>ho
theorem V7 {fu:Nat}{S:iA}(h:PS S):kS (uz fu S) (fun b=>b=true->∃ t,S.l[S.a.toNat]?=some t/\t.b=1):=by
 unfold uz;refine .bd (DU h) fun b ⟨t,ht,hb,_,hb2⟩=>.ite (fun c=>?_) fun c=>.mk fun z=>by cases z
 exact .bd (adK h) fun b2 _=>.mk fun _=>⟨t,ht,hb c⟩
theorem Jp {fu:Nat}{S:iA}(h:PS S):∀ (l:List ByteArray)(k:Nat),kS (qM fu S l k) (qg (fun _=>True) (fun r=>S.a+1 < S.l.length))
 | [],_=>.go kL
 | u :: r,k=>by rw [qM];exact .bd (DF h) fun b hb=>.ite (fun c=>.out (hb c)) fun c=>Jp h r (k+1)
theorem X4 {fu:Nat}{S:iA}(h:PS S):kS (yS fu S) (fun b=>b=true->S.a+1 < S.l.length):=by unfold yS;refine .el (Jp h _ 0) (fun _ _=>?_) fun o ho=>.mk fun _=>ho;exact .bd (DU h) fun b ⟨t,ht,hb,_,hb2⟩=>.mk fun c=>hb2 c (by decide)
def Sx (x:jB):Prop:=0<=x.e/\x.e<=17/\x.a.length=if x.e < 3 then 0 else if x.e < 6 then 1 else 2
def Cr:Nat→jB→Prop
 | 0,_=>False
 | n+1,x=>(x.a.length<=5000/\Sx x)/\∀ y ∈ x.a,Cr n y
theorem Cr.mono:∀ {n m:Nat}{x:jB},Cr n x→n≤m→Cr m x
 | 0,_,_,h,_=>h.elim
 | n+1,0,_,h,k=>by omega
 | n+1,m+1,x,h,k=>⟨h.1,fun y hy=>Cr.mono (h.2 y hy) (by omega)⟩
theorem Cr.leaf {x:jB}(h:x.a=[])(o:0<=x.e/\x.e < 3):Cr 1 x:=⟨⟨by rw [h];decide,o.1,by omega,by rw [h,lG o.2];rfl⟩,fun y hy=>by rw [h] at hy;cases hy⟩
theorem Cr.two {n:Nat}{x y z:jB}(hx:Cr n x)(hy:Cr n y)(h:z.a=[x,y])(o:6<=z.e/\z.e<=17):Cr (n+1) z:=⟨⟨by rw [h];exact (by decide:2<=5000),by omega,o.2,by rw [h,lD (by omega),lD (by omega)];rfl⟩,fun q hq=>by
 rw [h] at hq;simp only [oM,CF,or_false] at hq;rcases hq with rfl | rfl
 · exact hx
 · exact hy⟩
theorem Cr.one {n:Nat}{x z:jB}(hx:Cr n x)(h:z.a=[x])(o:3<=z.e/\z.e < 6):Cr (n+1) z:=⟨⟨by rw [h];exact (by decide:1<=5000),by omega,by omega,by rw [h,lD (by omega),lG o.2];rfl⟩,fun q hq=>by
 rw [h] at hq;simp only [oM,CF,or_false] at hq;subst hq;exact hx⟩
def EP (S:iA)(x:jB)(S':iA):Prop:=Nx S S'/\(S'.e=0->S.a < S'.a/\∃ n:Nat,(n:Int)<=S'.a - S.a/\Cr n x)
theorem EP.eta {S S1:iA}{x:jB}(h:EP S x S1):EP S ⟨x.e,x.d,x.f,x.c,x.b,x.a⟩ ⟨S1.l,S1.a,S1.c,S1.e⟩:=by cases x;cases S1;exact h
def U6 (f:iA->Int->Int->Option (jB × iA))(fu:Nat):Prop:=∀ S least nest,PS S->1<=least->least<=5->0<=nest->nest<=9->S.l.length+10 * (10 - nest)+(6 - least)<=(fu:Int)->kS (f S least nest) (fun r=>jy r (EP S))
def Tun (f:iA->Int->Option (jB × iA))(fu:Nat):Prop:=∀ S nest,PS S->0<=nest->nest<=9->S.l.length+10 * (10 - nest)<=(fu:Int)->kS (f S nest) (fun r=>jy r (EP S))
def Ttg (f:iA->Int->Option (jB × iA))(fu:Nat):Prop:=∀ S nest,PS S->0<=nest->nest<=8->S.l.length+10 * (10 - nest)<=(fu:Int)+1->kS (f S nest) (fun r=>jy r fun x S'=>EP S x S'/\1<=x.e/\x.e<=3)
section
variable {fu:Nat}{f:iA->Int->Int->Option (jB × iA)}{g t:iA->Int->Option (jB × iA)}
theorem MX (hf:U6 f fu){least nest:Int}(h1:1<=least)(h2:least<=5)(h3:0<=nest)(h4:nest<=9){S0:iA}(h0:PS S0)(hb:S0.l.length+10 * (10 - nest)+(6 - least)<=(fu:Int)+1) :
  ∀ (n:Nat)(x:jB)(S:iA),S0.l.length+1<=n+S.a->EP S0 ⟨x.e,x.d,x.f,x.c,x.b,x.a⟩ ⟨S.l,S.a,S.c,S.e⟩->
  kS (pV fu f g t least nest n x.e x.d x.f x.c x.b x.a S.l S.a S.c S.e)
   (qg (fun r=>jy r fun a r=>jy r fun b r=>jy r fun c r=>jy r fun d r=>jy r fun e r=>jy r fun f r=>jy r fun g r=>jy r fun h r=>jy r fun i j=>EP S0 ⟨a,b,c,d,e,f⟩ ⟨g,h,i,j⟩) (fun r=>jy r (EP S0)))
 | 0,x,S,hn,hx=>by have:=hx.1.hi;dsimp only at this;omega
 | n+1,x,S,hn,hx=>by
  rw [pV];have hS:=hx.1.ps h0;refine .ite (fun c=>?_) (fun c=>.go hx);refine .ite (fun c2=>?_) (fun c=>.go hx);refine .bp (Zy hS) fun lv op hl=>?_;refine .ite (fun d=>.out hx) (fun d=>?_);obtain ⟨hl,ho⟩:=hl (by omega);have hs:=Nx.step hS hl;have hw:wr (least+1)=least+1:=mo (by omega) (by omega);rw [hw];refine .bp (hf _ _ _ (hs.ps hS) (by omega) (by omega) h3 h4 (by rw [hs.l,hx.1.l];omega)) fun y S1 hy=>?_;have hx':EP S0 ⟨op,0,0,be,be,[⟨x.e,x.d,x.f,x.c,x.b,x.a⟩,y]⟩ S1:=by refine ⟨(hx.1.trans hs).trans hy.1,fun z=>?_⟩;obtain ⟨a1,n1,a2,a3⟩:=hy.2 z;obtain ⟨b1,n2,b2,b3⟩:=hx.2 c;have hw:wr (S.a+1)=S.a+1:=hS.Rx;dsimp only at a1 a2;rw [hw] at a1 a2;dsimp only at b1 b2;exact ⟨by omega,max n1 n2+1,by omega,Cr.two (b3.mono (by omega)) (a3.mono (by omega)) rfl ho⟩
  refine .ite (fun c3=>.out hx') fun c3=>?_;refine MX hf h1 h2 h3 h4 h0 hb n ⟨op,0,0,be,be,_⟩ S1 ?_ hx';have:=hy.1.lo;have hw:wr (S.a+1)=S.a+1:=hS.Rx;dsimp only at this;omega
theorem abS (hf:U6 f fu)(hg:Tun g fu):U6 (tX fu f g t) (fu+1):=by
 intro S least nest h h1 h2 h3 h4 hb;unfold tX;have hA:kS (tO fu f g t S least nest) (qg (fun r=>jy r fun a r=>jy r fun b r=>jy r fun c r=>jy r fun d r=>jy r fun e r=>jy r fun f r=>jy r fun g r=>jy r fun h r=>jy r fun i j=>EP S ⟨a,b,c,d,e,f⟩ ⟨g,h,i,j⟩) (fun r=>jy r (EP S))):=by
  unfold tO;refine .ite (fun c=>?_) (fun c=>?_)
  · exact .bp (hg S nest h h3 h4 (by omega)) fun x S1 hx=>.go hx.eta
  · have hw:wr (least+1)=least+1:=mo (by omega) (by omega);rw [hw];exact .bp (hf S _ nest h (by omega) (by omega) h3 h4 (by omega)) fun x S1 hx=>.go hx.eta
 refine .eo hA fun s hs=>?_;refine .pp hs fun a r hs=>.pp hs fun b r hs=>.pp hs fun c r hs=>.pp hs fun d r hs=>.pp hs fun e r hs=>.pp hs fun f' r hs=>.pp hs fun g' r hs=>.pp hs fun h' r hs=>.pp hs fun i j hs=>?_;have:=h.lo;have:=hs.1.lo;dsimp only at this;refine .eo (MX hf h1 h2 h3 h4 h (by omega) fu ⟨a,b,c,d,e,f'⟩ ⟨g',h',i,j⟩ (by dsimp only;omega) hs) fun s hs=>?_;exact .pp hs fun a r hs=>.pp hs fun b r hs=>.pp hs fun c r hs=>.pp hs fun d r hs=>.pp hs fun e r hs=>.pp hs fun f' r hs=>.pp hs fun g' r hs=>.pp hs fun h' r hs=>.pp hs fun i j hs=>.mk hs
theorem KJ (hg:Tun g fu){S:iA}{nest:Int}(h:PS S)(h3:0≤nest)(h4:nest≤8)(hb:S.l.length+10 * (9 - nest)≤(fu:Int)):∀ (l:List ByteArray)(k:Nat),k+l.length≤2→
  kS (rW fu f g t S nest l k) (qg (fun _=>True) (fun r=>jy r (EP S)))
 | [],_,_=>.go kL
 | u :: r,k,hk=>by rw [uK] at hk;rw [rW];refine .bd (DF h) fun b hb2=>.ite (fun c=>?_) fun c=>KJ hg h h3 h4 hb r (k+1) (by omega);have hs:=Nx.step h (hb2 c);have hw:wr (nest+1)=nest+1:=mo (by omega) (by omega);rw [hw];refine .bp (hg _ _ (hs.ps h) (by omega) (by omega) (by dsimp only;omega)) fun x S1 hx=>.out ⟨hs.trans hx.1,fun z=>?_⟩;obtain ⟨a1,n1,a2,a3⟩:=hx.2 z;have hw:wr (S.a+1)=S.a+1:=h.Rx;dsimp only at a1 a2;rw [hw] at a1 a2;exact ⟨by omega,n1+1,by omega,Cr.one a3 rfl (by dsimp only;rw [mo (by omega) (by omega)];omega)⟩
theorem Yx (hf:U6 f fu)(hg:Tun g fu)(ht:Ttg t fu):Tun (AB fu f g t) (fu+1):=by
 intro S nest h h3 h4 hb;unfold AB;refine .ite (fun c=>.mk ⟨Nx.rfl' h,fun z=>absurd z c⟩) fun c=>?_;refine .bd (Vu h) fun b hb2=>.ite (fun d=>?_) fun d=>?_
 · exact .bd (DY h (by decide)) fun S1 h1=>.mk ⟨h1.1,fun z=>absurd z h1.2.1⟩
 have hm:=hb2 (by simpa using d);have hs:=Nx.step h hm;have hw:wr (S.a+1)=S.a+1:=h.Rx;refine .ite (fun d=>?_) fun d=>?_
 · exact .bd (DY h (by decide)) fun S1 h1=>.mk ⟨h1.1,fun z=>absurd z h1.2.1⟩
 refine .eo (KJ hg h h3 (by omega) (by omega) _ 0 (by decide)) fun _ _=>?_;refine .bd (DU h) fun b _=>.ite (fun c2=>?_) fun c2=>?_
 · have hw2:wr (wr (S.a+1) - 1)=S.a:=by rw [hw];have:=h.lo;have:=h.hi;have:=h.tl.len;rw [mo (by omega) (by omega)];omega
   rw [hw2];refine .bd (.ix h.lo h.hi) fun e he=>.mk ⟨hs,fun _=>?_⟩;dsimp only;rw [hw];exact ⟨by omega,1,by omega,Cr.leaf rfl (by dsimp only;omega)⟩
 refine .bd (DF h) fun b _=>.ite (fun c3=>?_) fun c3=>?_
 · have hwn:wr (nest+1)=nest+1:=mo (by omega) (by omega);rw [hwn];refine .bp (hf _ _ _ (hs.ps h) (by decide) (by decide) (by omega) (by omega) (by dsimp only;omega)) fun x S1 hx=>?_;refine .bd (uh ((hs.trans hx.1).ps h)) fun S2 h2=>.mk ⟨(hs.trans hx.1).trans h2.1,fun z=>?_⟩;obtain ⟨a1,n1,a2,a3⟩:=hx.2 (h2.1.e z);have:=h2.1.lo;dsimp only at a1 a2;rw [hw] at a1 a2;exact ⟨by omega,n1,by omega,a3⟩
 · exact .bp (ht S nest h h3 (by omega) (by omega)) fun x S1 hx=>.mk hx.1
theorem Wj (hf:U6 f fu):Ttg (zo fu f g t) (fu+1):=by
 intro S nest h h3 h4 hb;unfold zo;refine .bp (Dg h) fun n S1 h1=>?_;have hS1:=h1.1.1.ps h;have hl:=h1.1.1.l;have hw:S1.e=0->wr (S1.a+1)=S1.a+1:=fun _=>hS1.Rx;have hJ:kS (xK fu f g t n S1) (qg (fun _=>True) (fun r=>jy r fun x S'=>EP S x S'/\1<=x.e/\x.e<=3)):=by unfold xK;refine .ite (fun c=>?_) fun c=>.go kL;refine .bd (DF hS1) fun b hb2=>.ite (fun d=>?_) fun d=>.go kL;have hs:=Nx.step hS1 (hb2 d);refine .bp (Dg (hs.ps hS1)) fun n2 S2 h2=>.out ⟨⟨(h1.1.1.trans hs).trans h2.1.1,fun z=>?_⟩,by dsimp only;omega,by dsimp only;omega⟩;have a1:=h1.1.2 c;have a2:=h2.1.1.lo;dsimp only at a2;rw [hw c] at a2;exact ⟨by omega,1,by omega,Cr.leaf rfl (by dsimp only;omega)⟩
 have hend:∀ x:jB,x.a=[]->x.e=1->EP S x S1:=fun x hx ho=>⟨h1.1.1,fun z=>by have a1:=h1.1.2 z;exact ⟨by omega,1,by omega,Cr.leaf hx (by omega)⟩⟩;refine .eo hJ fun _ _=>?_;refine .ite (fun c=>?_) fun c=>.mk ⟨hend _ rfl rfl,by dsimp only;omega,by dsimp only;omega⟩;refine .bd (DF hS1) fun b hb2=>.ite (fun d=>?_) fun d=>.mk ⟨hend _ rfl rfl,by dsimp only;omega,by dsimp only;omega⟩;have hs:=Nx.step hS1 (hb2 d);have hwn:wr (nest+1)=nest+1:=mo (by omega) (by omega);rw [hwn];refine .bp (hf _ _ _ (hs.ps hS1) (by decide) (by decide) (by omega) (by omega) (by dsimp only;rw [hl];omega)) fun x S2 hx=>?_;refine .bd (uh ((hs.trans hx.1).ps hS1)) fun S3 h3=>.mk ⟨⟨(h1.1.1.trans (hs.trans hx.1)).trans h3.1,fun z=>?_⟩,by dsimp only;omega,by dsimp only;omega⟩;obtain ⟨a1,n1,a2,a3⟩:=hx.2 (h3.1.e z);have a4:=h1.1.2 c;have a5:=h3.1.lo;dsimp only at a1 a2;rw [hw c] at a1 a2;exact ⟨by omega,n1+1,by omega,Cr.one a3 rfl (by dsimp only;omega)⟩
end
theorem yG:∀ fu:Nat,U6 (mI fu) fu∧Tun (AU fu) fu∧Ttg (uG fu) fu
 | 0=>by refine ⟨fun S a b h _ _ _ _ hb=>?_,fun S b h _ _ hb=>?_,fun S b h _ _ hb=>?_⟩;all_goals have:=h.hi;have:=h.lo;omega
 | fu+1=>⟨abS (yG fu).1 (yG fu).2.1,Yx (yG fu).1 (yG fu).2.1 (yG fu).2.2,Wj (yG fu).1⟩
structure Shape (x:jA):Prop where
 decl:x.b=1->x.e=[]/\x.a=[]/\x.d=[]/\x.h=[]/\x.k=be
 call:x.b=3->x.k≠be/\∀ y ∈ x.e,1<=y.e/\y.e<=3
 func:x.k≠be->(x.b=3\/x.b=6)/\x.d=[]/\x.h=[]
 type:0 < x.m->x.j=be
 kind:1<=x.b/\x.b<=10
 ret:x.b=6->x.e=[]
 args:x.k=be->x.b≠1->x.b≠8->x.b≠10->x.a≠[]
 targ:x.b=2->x.e≠[]
 len:x.m<=8
 tops:∀ y ∈ x.e,1<=y.e/\y.e<=3
def DL (E:Nat):Nat→jA→Prop
 | 0,_=>False
 | n+1,x=>(x.e.length<=1/\∀ y ∈ x.e,Cr E y)/\(x.a.length<=5000/\∀ y ∈ x.a,Cr E y)/\(x.d.length<=5000/\∀ y ∈ x.d,DL E n y)/\(x.h.length<=5000/\∀ y ∈ x.h,DL E n y)/\Shape x
theorem DL.mono {E:Nat}:∀ {n m:Nat}{x:jA},DL E n x→n≤m→DL E m x
 | 0,_,_,h,_=>h.elim
 | n+1,0,_,h,k=>by omega
 | n+1,m+1,x,h,k=>⟨h.1,h.2.1,⟨h.2.2.1.1,fun y hy=>DL.mono (h.2.2.1.2 y hy) (by omega)⟩,⟨h.2.2.2.1.1,fun y hy=>DL.mono (h.2.2.2.1.2 y hy) (by omega)⟩,h.2.2.2.2⟩
theorem nE {α:Type}{p:α->Prop}{b:Nat}:([]:List α).length<=b/\∀ y ∈ ([]:List α),p y:=⟨uN _,fun y hy=>by cases hy⟩
theorem len1 {α:Type}{p:α->Prop}{b:Nat}{x:α}(h:p x)(hb:1<=b):[x].length<=b/\∀ y ∈ [x],p y:=⟨hb,fun y hy=>by
 simp only [oM,CF,or_false] at hy;subst hy;exact h⟩
theorem EP.ok {S S':iA}{x:jB}(h:PS S)(k:EP S x S')(z:S'.e=0):Cr S.l.length x:=by obtain ⟨a,n,b,c⟩:=k.2 z;exact c.mono (by have:=k.1.hi;have:=h.lo;omega)
theorem MU {fu:Nat}{S0:iA}(h0:PS S0)(hf:S0.l.length+105≤fu){O:List jB × iA→Prop}:∀ (n:Nat)(out:List jB)(S:iA),Nx S0 S→S0.l.length+1≤n+S.a→(S.e=0→(out.length:Int)≤S.a∧∀ y ∈ out,Cr S0.l.length y)→
  1<=n->kS (qp fu n S.l S.a S.c S.e out) (qg (fun r=>jy r fun a r=>jy r fun b r=>jy r fun c r=>jy r fun d o=>Nx S ⟨a,b,c,d⟩/\(d=0->(o.length:Int)<=b/\∀ y ∈ o,Cr S0.l.length y)) O)
 | 0,out,S,h,hn,ho,h1=>by omega
 | n+1,out,S,h,hn,ho,_=>by
  have hS:=h.ps h0;rw [qp];refine .ite (fun c=>?_) (fun c=>.go ⟨Nx.rfl' hS,ho⟩);refine .bd (DF hS) fun b hb=>?_;refine .ite (fun d=>?_) (fun d=>.go ⟨Nx.rfl' hS,ho⟩);have hs:=Nx.step hS (hb d);have hw:wr (S.a+1)=S.a+1:=hS.Rx;have hl:S.l=S0.l:=h.l;refine .bp ((yG fu).1 _ 1 0 (hs.ps hS) (by decide) (by decide) (by decide) (by decide) (by dsimp only;rw [hl];omega)) fun x S1 hx=>?_;have hlen:=h0.tl.len;have hi:=h.hi;refine .bd (.app (by have:=(ho c).1;simp only [uK,xX];omega)) fun r hr=>?_;have k:=hs.trans hx.1;have hat:=hx.1.lo;dsimp only at hat;rw [hw] at hat;have hlo:=h.lo;have h0lo:=h0.lo;have hhi:=k.hi;rw [hl] at hhi;refine (MU h0 hf (O:=O) n r S1 (h.trans k) (by omega) (fun z=>?_) (by omega)).imp fun v hv=>?_
  · subst hr;have:=(ho c).1;refine ⟨by simp only [Ij,uK,xX];omega,fun y hy=>?_⟩;rcases pX.1 hy with hy | hy
    · exact (ho c).2 y hy
    · simp only [oM,CF,or_false] at hy;subst hy;have:=hx.ok (hs.ps hS) z;dsimp only at this
      rwa [hl] at this
  · obtain v | v:=v
    · obtain ⟨a,b,c,d,o⟩:=v;exact ⟨k.trans hv.1,hv.2⟩
    · exact hv
theorem aaT {fu:Nat}{S:iA}(h:PS S)(hf:S.l.length+105<=fu):kS (uQ fu S) (fun r=>jy r fun l S'=>Nx S S'/\(S'.e=0->S.a < S'.a/\l.length<=5000/\∀ y ∈ l,Cr S.l.length y)):=by
 unfold uQ;refine .bd (uh h) fun S1 h1=>?_;have hS1:=h1.1.ps h;have hl:=h1.1.l;have hJ:kS (uJ fu S1) (qg (fun r=>jy r fun o r=>jy r fun a r=>jy r fun b r=>jy r fun c d=>Nx S1 ⟨a,b,c,d⟩/\(d=0->(o.length:Int)<=b/\∀ y ∈ o,Cr S.l.length y)) (fun _=>False)):=by
  unfold uJ;have hnil:Nx S1 ⟨S1.l,S1.a,S1.c,S1.e⟩/\(S1.e=0->(([]:List jB).length:Int)<=S1.a/\∀ y ∈ ([]:List jB),Cr S.l.length y):=⟨Nx.rfl' hS1,fun _=>⟨by have:=hS1.lo;simp only [xX];omega,fun y hy=>by cases hy⟩⟩;refine .ite (fun c=>?_) fun c=>.go hnil;refine .bd (DF hS1) fun b hb=>.ite (fun d=>?_) fun d=>.go hnil;refine .bp ((yG fu).1 _ 1 0 hS1 (by decide) (by decide) (by decide) (by decide) (by rw [hl];omega)) fun x S2 hx=>?_;refine .bd (.app (by simp only [uK,xX];omega)) fun r hr=>?_;have h2:=hx.1.ps hS1;have a1:=hx.1.lo;have a2:=hS1.lo;refine .FL (MU h (by omega) fu r S2 (h1.1.trans hx.1) (by omega) (fun z=>?_) (by omega)) fun s hs=>?_
  · subst hr;obtain ⟨b1,n,b2,b3⟩:=hx.2 z;refine ⟨by simp only [DI,uK,xX];omega,fun y hy=>?_⟩;simp only [DI,oM,CF,or_false] at hy;subst hy;have:=hx.ok hS1 z
    rwa [hl] at this
  · refine .pp hs fun a r hs=>.pp hs fun b r hs=>.pp hs fun c r hs=>.pp hs fun d o hs=>.go ⟨hx.1.trans hs.1,hs.2⟩
 refine .el hJ (fun s hs=>?_) fun _ z=>z.elim;refine .pp hs fun o r hs=>.pp hs fun a r hs=>.pp hs fun b r hs=>.pp hs fun c d hs=>?_;refine .bd (uh (hs.1.ps hS1)) fun S3 h3=>.mk ⟨(h1.1.trans hs.1).trans h3.1,fun z=>?_⟩;have k1:=h3.1.e z;have k2:=hs.2 k1;have k3:=h1.2 (hs.1.e k1);have k4:=hs.1.lo;have k5:=h3.1.lo;have k6:=hs.1.hi;have k7:=h.tl.len;dsimp only at k4 k5 k6;rw [hl] at k6;exact ⟨by omega,by omega,k2.2⟩
theorem Yj {fu:Nat}{S:iA}{x:jA}(h:PS S)(h1:x.j=be)(h2:x.m=0):kS (Bb fu S x) (fun r=>jy r fun S' x'=>Nx S S'/\(S'.e=0->S.a < S'.a/\∃ T L,x'=⟨x.b,x.g,x.n,x.c,T,L,x.f,x.e,x.k,x.i,x.a,x.d,x.h⟩/\(0 < L->T=be)/\L<=8)):=by
 obtain ⟨a1,a2,a3,a4,a5,a6,a7,a8,a9,a10,a11,a12,a13⟩:=x;dsimp only at h1 h2;subst h1 h2;unfold Bb;refine .ite (fun c=>.mk ⟨Nx.rfl' h,fun z=>absurd z c⟩) fun c=>?_;refine .bd (DF h) fun b hb=>.ite (fun d=>?_) fun d=>?_
 · refine .bp (Dg h) fun n S1 hn=>.mk ⟨hn.1.1,fun z=>?_⟩;have:=hn.1.2 z;exact ⟨by omega,n,0,rfl,fun z=>by omega,by decide⟩
 have hs:=Nx.step h (hb (by simpa using d));have hP:=hs.ps h;have hw:wr (S.a+1)=S.a+1:=h.Rx;have hlo:=h.lo;refine .bd (DF hP) fun b hb=>.ite (fun d=>?_) fun d=>?_
 · exact .mk ⟨hs,fun z=>⟨by dsimp only;omega,be,0,rfl,fun _=>rfl,by decide⟩⟩
 have hs2:=Nx.step hP (hb (by simpa using d));dsimp only at hs2;have hP2:=hs2.ps hP;have hw2:wr (wr (S.a+1)+1)=S.a+2:=by have:=hP.Rx;dsimp only at this;rw [this];omega
 refine .bd (DU hP2) fun b hb=>.ite (fun d=>?_) fun d=>?_
 · refine .bd (DY hP2 (by decide)) fun S1 hS1=>.mk ⟨(hs.trans hs2).trans hS1.1,fun z=>absurd z hS1.2.1⟩
 obtain ⟨tk,htk,_,_,hb⟩:=hb;have hb:=hb (by simpa using d) (by decide);refine .bd (.ix hP2.lo hP2.hi) fun e he=>?_;have hJ:kS (yK fu e) (qg (fun s=>s=false->e.d<=8) (fun _=>False)):=by unfold yK;exact .ite (fun _=>.go fun z=>by cases z) fun _=>.go fun z=>by have:=of_decide_eq_false z;omega
 refine .el hJ (fun s hs8=>?_) fun _ z=>z.elim;refine .ite (fun _=>?_) fun c8=>?_
 · refine .bd (DY hP2 (by decide)) fun S1 hS1=>.mk ⟨(hs.trans hs2).trans hS1.1,fun z=>absurd z hS1.2.1⟩
 have hs3:=Nx.step hP2 hb;refine .bd (uh (hs3.ps hP2)) fun S1 hS1=>.mk ⟨((hs.trans hs2).trans hs3).trans hS1.1,fun z=>⟨?_,be,e.d,rfl,fun _=>rfl,hs8 (by simpa using c8)⟩⟩;have k1:=hS1.1.lo;have k2:=hP2.Rx;dsimp only at k1 k2;rw [k2,hw2] at k1;omega
theorem Iu {fu:Nat}{S:iA}{x:jA}{call:Bool}(h:PS S)(hf:S.l.length+105<=fu):kS (sN fu S x call) (fun r=>jy r fun S' x'=>Nx S S'/\(S'.e=0->S.a < S'.a/\∃ f a,x'=⟨x.b,x.g,x.n,x.c,x.j,x.m,x.f,x.e,f,x.i,a,x.d,x.h⟩/\(a.length<=5000/\∀ y ∈ a,Cr S.l.length y)/\(f=x.k\/call=true)/\(call=true->uz fu S=some true->f≠be)/\(f=be->a≠[]))):=by
 unfold sN;have hJ:kS (yx fu S x call) (qg (fun _=>S.e=0->call=true->uz fu S=some true->False) (fun r=>jy r fun S' x'=>Nx S S'/\(S'.e=0->S.a < S'.a/\∃ f a,x'=⟨x.b,x.g,x.n,x.c,x.j,x.m,x.f,x.e,f,x.i,a,x.d,x.h⟩/\(a.length<=5000/\∀ y ∈ a,Cr S.l.length y)/\(f=x.k\/call=true)/\(call=true->uz fu S=some true->f≠be)/\(f=be->a≠[])))):=by
  unfold yx;refine .ite (fun c=>?_) fun c=>.go fun z=>absurd z c;refine .ite (fun c2=>?_) fun c2=>.go fun _ z=>absurd z c2;refine kS.XM (V7 h) fun b hb _=>.ite (fun d=>?_) fun d=>.go fun _ _ z=>by rw [hb] at z;exact d (JD z)
  refine .bp (Dg h) fun n S1 h1=>?_;have hS1:=h1.1.1.ps h;have hl:=h1.1.1.l;refine .bp (aaT hS1 (by rw [hl];omega)) fun a S2 h2=>.out ⟨h1.1.1.trans h2.1,fun z=>?_⟩;obtain ⟨k1,k2,k3⟩:=h2.2 z;rw [hl] at k3;have k4:=h1.1.1.lo;exact ⟨by omega,n,a,rfl,⟨k2,k3⟩,.inr c2,fun _ _=>h1.2.1 (h2.1.e z),fun q=>absurd q (h1.2.1 (h2.1.e z))⟩
 refine .eo hJ fun _ hs=>?_;refine .bp ((yG fu).1 _ 1 0 h (by decide) (by decide) (by decide) (by decide) (by omega)) fun y S1 hy=>.mk ⟨hy.1,fun z=>?_⟩;exact ⟨(hy.2 z).1,x.k,[y],rfl,len1 (hy.ok h z) (by decide),.inl rfl,fun c d=>(hs (hy.1.e z) c d).elim,fun _ q=>(by cases q)⟩
def TP (N n:Nat)(S:iA)(x:jA)(S':iA):Prop:=Nx S S'/\(S'.e=0->S.a < S'.a/\DL N n x)
theorem VB {fu n:Nat}{S:iA}{ln:Int}(h:PS S)(hf:S.l.length+105<=fu):kS (yU fu S ⟨0,ln,0,be,be,0,0,[],be,0,[],[],[]⟩) (fun r=>jy r fun S' x=>TP S.l.length (n+1) S x S'):=by
 unfold yU;refine kS.XM (V7 h) fun b hb _=>.ite (fun d=>?_) fun d=>?_
 · subst d;refine .bp (Iu h hf) fun S1 x h1=>.mk ⟨h1.1,fun z=>?_⟩;obtain ⟨k1,f,a,rfl,k2,k3,k4,k6⟩:=h1.2 z;have k5:=k4 rfl hb;refine ⟨k1,nE,k2,nE,nE,⟨fun z=>(by cases z),fun _=>⟨k5,fun y hy=>(by cases hy)⟩,fun _=>⟨.inl rfl,rfl,rfl⟩,fun z=>absurd z (Int.lt_irrefl 0),(by dsimp only;decide),fun z=>(by cases z),fun z=>absurd z k5,fun z=>(by cases z),(by dsimp only;decide),fun y hy=>(by cases hy)⟩⟩
 refine .bp ((yG fu).2.2 S 0 h (by decide) (by decide) (by omega)) fun y S1 h1=>?_;have hS1:=h1.1.1.ps h;refine .bd (uh hS1) fun S2 h2=>?_;have hl:S2.l=S.l:=h2.1.l.trans h1.1.1.l;refine .bp (Iu (h2.1.ps hS1) (by rw [hl];exact hf)) fun S3 x h3=>?_;have k:=(h1.1.1.trans h2.1).trans h3.1;have hy:S3.e=0->[y].length<=1/\∀ q ∈ [y],Cr S.l.length q:=fun z=>len1 (h1.1.ok h (h2.1.e (h3.1.e z))) (mO 1);have ht:∀ q ∈ [y],1<=q.e/\q.e<=3:=fun q hq=>by simp only [oM,CF,or_false] at hq;subst hq;exact ⟨h1.2.1,h1.2.2⟩
 have hat:S3.e=0->S.a < S3.a:=fun z=>by have:=(h1.1.2 (h2.1.e (h3.1.e z))).1;have:=h2.1.lo;have:=h3.1.lo;omega
 refine .ite (fun c=>.mk ⟨k,fun z=>?_⟩) fun c=>.mk ⟨k,fun z=>?_⟩
 · obtain ⟨k1,f,a,rfl,k2,k3,k4,k6⟩:=h3.2 z;rw [hl] at k2;dsimp only at c;refine ⟨hat z,hy z,k2,nE,nE,⟨fun z=>(by cases z),fun z=>(by cases z),fun z=>absurd c z,fun z=>absurd z (Int.lt_irrefl 0),(by dsimp only;decide),fun z=>(by cases z),fun z _ _ _=>k6 z,fun _ z=>(by cases z),(by dsimp only;decide),ht⟩⟩
 · obtain ⟨k1,f,a,rfl,k2,k3,k4,k6⟩:=h3.2 z;rw [hl] at k2;dsimp only at c;refine ⟨hat z,hy z,k2,nE,nE,⟨fun z=>(by cases z),fun _=>⟨c,ht⟩,fun _=>⟨.inl rfl,rfl,rfl⟩,fun z=>absurd z (Int.lt_irrefl 0),(by dsimp only;decide),fun z=>(by cases z),fun z=>absurd z c,fun z=>(by cases z),(by dsimp only;decide),ht⟩⟩
def aaK (f:iA->Int->Option ((List jA) × Int × iA))(fu:Nat):Prop:=∀ S nest,PS S->1<=nest->nest<=9->S.l.length+110+2 * (10 - nest)+1<=(fu:Int)->kS (f S nest) (fun r=>jy r fun l r=>jy r fun _ S'=>(Nx S S'/\(S'.e=0->S.a < S'.a/\l.length<=5000/\∀ y ∈ l,DL S.l.length (11 - nest).toNat y))/\l.length<=5000)
def Ym (f:iA->Int->Option (jA × iA))(fu:Nat):Prop:=∀ S nest,PS S->1<=nest->nest<=8->S.l.length+110+2 * (10 - nest)<=(fu:Int)->kS (f S nest) (fun r=>jy r fun x S'=>TP S.l.length (11 - nest).toNat S x S')
section
variable {fu:Nat}{f:iA->Int->Option ((List jA) × Int × iA)}{g:iA->Int->Option (jA × iA)}
theorem DR (hg:Ym g fu){nest:Int}(h1:1≤nest)(h2:nest≤9){S0:iA}(h0:PS S0)(hf:S0.l.length+110+2 * (10 - nest)+1≤(fu:Int)+1){O:(List jA) × Int × iA→Prop}:∀ (n:Nat)(out:List jA)(S:iA),Nx S0 S→(S.e=0→S0.l.length+1≤n+S.a)→1≤n→(S.e=0→(out.length:Int)≤S.a∧∀ y ∈ out,DL S0.l.length (11 - nest).toNat y)→out.length≤5000→
  kS (qB fu f g nest n out S.l S.a S.c S.e) (qg (fun r=>jy r fun o r=>jy r fun a r=>jy r fun b r=>jy r fun c d=>(Nx S0 ⟨a,b,c,d⟩/\(d=0->(o.length:Int)<=b/\∀ y ∈ o,DL S0.l.length (11 - nest).toNat y))/\o.length<=5000) O)
 | 0,out,S,h,hn,hn1,ho,hq=>by omega
 | n+1,out,S,h,hn,_,ho,hq=>by
  have hS:=h.ps h0;have hlen:=h0.tl.len;have hi:=h.hi;have hlo:=hS.lo;rw [qB];refine .ite (fun c=>?_) (fun c=>.go ⟨⟨h,ho⟩,hq⟩);have hn:=hn c;refine .bd (DF hS) fun b hb=>.ite (fun d=>?_) (fun d=>.go ⟨⟨h,ho⟩,hq⟩);refine .bd (X4 hS) fun b hb=>.ite (fun d=>?_) (fun d=>.ite (fun d2=>?_) fun d2=>?_)
  · exact .bd (DY hS (by decide)) fun S1 k=>DR hg h1 h2 h0 hf n out S1 (h.trans k.1) (fun z=>absurd z k.2.1) (by omega) (fun z=>absurd z k.2.1) hq
  · exact .bd (DY hS (by decide)) fun S1 k=>DR hg h1 h2 h0 hf n out S1 (h.trans k.1) (fun z=>absurd z k.2.1) (by omega) (fun z=>absurd z k.2.1) hq
  · refine .bp (hg _ nest hS h1 (by omega) (by dsimp only;rw [h.l];omega)) fun x S1 hx=>?_;have ho:=ho c;refine .bd (.app (by simp only [uK,xX];omega)) fun r hr=>?_;refine DR hg h1 h2 h0 hf n r S1 (h.trans hx.1) (fun z=>?_) (by omega) (fun z=>?_) ?_
    · have:=(hx.2 z).1;dsimp only at this;omega
    · have k1:=(hx.2 z).1;have k2:=(hx.2 z).2;dsimp only at k1 k2;rw [h.l] at k2;subst hr;refine ⟨by simp only [Ij,uK,xX];omega,fun y hy=>?_⟩;rcases pX.1 hy with hy | hy
      · exact ho.2 y hy
      · simp only [oM,CF,or_false] at hy;subst hy;exact k2
    · subst hr;simp only [Ij,uK,xX];omega
theorem YW (hg:Ym g fu):aaK (AY fu f g) (fu+1):=by
 intro S nest h h1 h2 hf;unfold AY;refine .bd (uh h) fun S1 hS1=>?_;have hP:=hS1.1.ps h;have hlo:=h.lo;have hlo1:=hS1.1.lo;have hi1:=hS1.1.hi;refine .el (DR (O:=fun _=>False) hg h1 h2 h (by omega) fu [] S1 hS1.1 (fun _=>by omega) (by omega) (fun _=>⟨by simp only [xX];omega,fun y hy=>by cases hy⟩) (uN _)) (fun s hs=>?_) fun _ z=>z.elim;refine .pp hs fun o r hs=>.pp hs fun a r hs=>.pp hs fun b r hs=>.pp hs fun c d hs=>?_;obtain ⟨hs,hq⟩:=hs;have hP2:=hs.1.ps h;have hJ:kS (ze fu f g a b d) (qg (fun _=>True) (fun _=>False)):=by unfold ze;exact .ite (fun _=>.bd (.ix hP2.lo hP2.hi) fun _ _=>.go kL) fun _=>.go kL
 refine .el hJ (fun ln _=>?_) fun _ z=>z.elim;refine .bd (uh hP2) fun S3 h3=>.mk ⟨⟨hs.1.trans h3.1,fun z=>?_⟩,hq⟩;have k0:=h3.1.e z;have k1:=h3.2 z;have k2:=hs.1.lo;have k3:=hs.2 k0;have k4:=hs.1.hi;have k5:=h.tl.len;dsimp only at k1 k2 k3 k4;exact ⟨by omega,by omega,k3.2⟩
theorem Q7 (hf:aaK f fu):Ym (uP fu f g) (fu+1):=by
 intro S nest h h1 h2 hfu;have hlo:=h.lo;unfold uP;refine .bd (.ix h.lo h.hi) fun e he=>?_;have hJ:kS (uH fu f g S e) (qg (fun r=>jy r fun w a=>Nx S ⟨S.l,a,S.c,S.e⟩) (fun _=>False)):=by unfold uH;refine .bd (DU h) fun b hb=>.ite (fun d=>.go ?_) fun d=>.go (Nx.rfl' h);obtain ⟨_,_,_,_,hb⟩:=hb;exact Nx.step h (hb d (by decide))
 refine .el hJ (fun s hs=>.pp hs fun w a hs=>?_) fun _ z=>z.elim;have hP:=hs.ps h;have ha:S.a<=a:=hs.lo;have hN:(11 - nest).toNat=(10 - nest).toNat+1:=by omega
 have hn:wr (nest+1)=nest+1:=mo (by omega) (by omega);have hd:(11 - (nest+1)).toNat=(10 - nest).toNat:=by omega
 rw [hN,hn];have blk:∀ S1,Nx S S1->kS (f S1 (nest+1)) (fun r=>jy r fun l r=>jy r fun _ S'=>Nx S1 S'/\(S'.e=0->S1.a < S'.a/\l.length<=5000/\∀ y ∈ l,DL S.l.length (10 - nest).toNat y)):=fun S1 k=>by have:=hf S1 (nest+1) (k.ps h) (by omega) (by omega) (by rw [k.l];omega);rw [k.l,hd] at this;refine this.imp fun v hv=>?_;obtain ⟨l,b,S2⟩:=v;exact hv.1
 have expr:∀ S1,Nx S S1->kS (mI fu S1 1 0) (fun r=>jy r fun x S'=>Nx S1 S'/\(S'.e=0->S1.a < S'.a/\Cr S.l.length x)):=fun S1 k=>by
   refine ((yG fu).1 S1 1 0 (k.ps h) (by decide) (by decide) (by decide) (by decide) (by rw [k.l];omega)).imp fun v hv=>?_;obtain ⟨x,S2⟩:=v;refine ⟨hv.1,fun z=>⟨(hv.2 z).1,?_⟩⟩;have:=EP.ok (k.ps h) hv z
   rwa [k.l] at this
 have e1:(0:Int) < 0->be=be:=fun _=>rfl;have e2:be≠be->∀ {p:Prop},p:=fun z=>absurd rfl z;refine .ite (fun c=>?_) fun c=>.ite (fun c=>?_) fun c=>.ite (fun c=>?_) fun c=>.ite (fun c=>?_) fun c=>.ite (fun c=>?_) fun c=>.ite (fun c=>?_) fun c=>.ite (fun c=>?_) fun c=>?_
 · -- var
   refine .bp (Dg hP) fun n S1 k1=>?_;have q1:=hs.trans k1.1.1;refine .bd (uh (q1.ps h)) fun S2 k2=>?_;have q2:=q1.trans k2.1;refine .bp (Yj (q2.ps h) rfl rfl) fun S3 x k3=>?_;have q3:=q2.trans k3.1;refine .bd (uh (q3.ps h)) fun S4 k4=>.mk ⟨q3.trans k4.1,fun z=>?_⟩;have z3:=k4.1.e z;obtain ⟨a1,T,L,rfl,a2,a8⟩:=k3.2 z3;have a3:=q2.lo;have a4:=k4.1.lo;exact ⟨by omega,nE,nE,nE,nE,⟨fun _=>⟨rfl,rfl,rfl,rfl,rfl⟩,fun z=>(by cases z),fun z=>absurd rfl z,a2,(by dsimp only;decide),fun z=>(by cases z),fun _ z=>absurd rfl z,fun z=>(by cases z),a8,fun y hy=>(by cases hy)⟩⟩
 · -- if
   refine .bp (expr _ hs) fun x S1 k1=>?_;have q1:=hs.trans k1.1;refine .bp (blk _ q1) fun l r k2=>.pp k2 fun ln S2 k2=>?_;have q2:=q1.trans k2.1;have fin:∀ S3 l2,Nx S2 S3->(S3.e=0->l2.length<=5000/\∀ y ∈ l2,DL S.l.length (10 - nest).toNat y)->TP S.l.length ((10 - nest).toNat+1) S ⟨4,e.g,0,be,be,0,0,[],be,0,[x],l,l2⟩ S3:=fun S3 l2 k3 k4=>⟨q2.trans k3,fun z=>by
    have z2:=k3.e z;have z1:=k2.1.e z2;have a1:=k1.2 z1;have a2:=k2.2 z2;have a3:=k3.lo;have a4:=hs.lo;dsimp only at a1 a4;exact ⟨by omega,nE,len1 a1.2 (by decide),a2.2,k4 z,⟨fun z=>(by cases z),fun z=>(by cases z),fun z=>absurd rfl z,e1,(by dsimp only;decide),fun z=>(by cases z),fun _ _ _ _ z=>(by cases z),fun z=>(by cases z),(by dsimp only;decide),fun y hy=>(by cases hy)⟩⟩⟩
   have P2:=q2.ps h;refine .ite (fun d=>?_) fun d=>.mk (fin S2 [] (Nx.rfl' P2) fun _=>nE);refine .bd (DF P2) fun b hb=>.ite (fun d2=>?_) fun d2=>.mk (fin S2 [] (Nx.rfl' P2) fun _=>nE);have ks:=Nx.step P2 (hb d2);exact .bp (blk _ (q2.trans ks)) fun l2 r k3=>.pp k3 fun ln S3 k3=>.mk (fin S3 l2 (ks.trans k3.1) fun z=>(k3.2 z).2)
 · -- while
   refine .bp (expr _ hs) fun x S1 k1=>?_;have q1:=hs.trans k1.1;refine .bp (blk _ q1) fun l r k2=>.pp k2 fun ln S2 k2=>.mk ⟨q1.trans k2.1,fun z=>?_⟩;have z1:=k2.1.e z;have a1:=k1.2 z1;have a2:=k2.2 z;have a4:=hs.lo;dsimp only at a1 a4;exact ⟨by omega,nE,len1 a1.2 (by decide),a2.2,nE,⟨fun z=>(by cases z),fun z=>(by cases z),fun z=>absurd rfl z,e1,(by dsimp only;decide),fun z=>(by cases z),fun _ _ _ _ z=>(by cases z),fun z=>(by cases z),(by dsimp only;decide),fun y hy=>(by cases hy)⟩⟩
 · -- try
   refine .bp (blk _ hs) fun l r k2=>.pp k2 fun ln S2 k2=>?_;have q2:=hs.trans k2.1;refine .bd (uh (q2.ps h)) fun S3 k3=>?_;have q3:=q2.trans k3.1;refine .bp (Dg (q3.ps h)) fun n S4 k4=>?_;have q4:=q3.trans k4.1.1;refine .bp (blk _ q4) fun l2 r k5=>.pp k5 fun ln S5 k5=>.mk ⟨q4.trans k5.1,fun z=>?_⟩;have z2:=k3.1.e (k4.1.1.e (k5.1.e z));have a2:=k2.2 z2;have a3:=k5.2 z;have a4:=hs.lo;have a5:=k3.1.lo;have a6:=k4.1.1.lo;dsimp only at a2 a4;exact ⟨by omega,nE,nE,a2.2,a3.2,⟨fun z=>(by cases z),fun z=>(by cases z),fun z=>absurd rfl z,e1,(by dsimp only;decide),fun z=>(by cases z),fun _ _ z=>absurd rfl z,fun z=>(by cases z),(by dsimp only;decide),fun y hy=>(by cases hy)⟩⟩
 · -- return
   refine .bp (Iu hP (by dsimp only;omega)) fun S1 x k1=>?_;have q1:=hs.trans k1.1;refine .bd (uh (q1.ps h)) fun S2 k2=>.mk ⟨q1.trans k2.1,fun z=>?_⟩;obtain ⟨a1,f',a',rfl,a2,a3,a4,a8⟩:=k1.2 (k2.1.e z);have a5:=k2.1.lo;have a6:=hs.lo;dsimp only at a1 a6;exact ⟨by omega,nE,a2,nE,nE,⟨fun z=>(by cases z),fun z=>(by cases z),fun _=>⟨.inr rfl,rfl,rfl⟩,e1,(by dsimp only;decide),fun _=>rfl,fun z _ _ _=>a8 z,fun z=>(by cases z),(by dsimp only;decide),fun y hy=>(by cases hy)⟩⟩
 · -- throw
   refine .bp (Iu hP (by dsimp only;omega)) fun S1 x k1=>?_;have q1:=hs.trans k1.1;refine .bd (uh (q1.ps h)) fun S2 k2=>.mk ⟨q1.trans k2.1,fun z=>?_⟩;obtain ⟨a1,f',a',rfl,a2,a3,a4,a8⟩:=k1.2 (k2.1.e z);have a5:=k2.1.lo;have a6:=hs.lo;dsimp only at a1 a6;have a7:f'=be:=a3.elim id fun q=>(by cases q);subst a7;exact ⟨by omega,nE,a2,nE,nE,⟨fun z=>(by cases z),fun z=>(by cases z),fun z=>absurd rfl z,e1,(by dsimp only;decide),fun z=>(by cases z),fun z _ _ _=>a8 z,fun z=>(by cases z),(by dsimp only;decide),fun y hy=>(by cases hy)⟩⟩
 · -- print
   refine .bp (Iu hP (by dsimp only;omega)) fun S1 x k1=>?_;have q1:=hs.trans k1.1;refine .bd (uh (q1.ps h)) fun S2 k2=>.mk ⟨q1.trans k2.1,fun z=>?_⟩;obtain ⟨a1,f',a',rfl,a2,a3,a4,a8⟩:=k1.2 (k2.1.e z);have a5:=k2.1.lo;have a6:=hs.lo;dsimp only at a1 a6;have a7:f'=be:=a3.elim id fun q=>(by cases q);subst a7;exact ⟨by omega,nE,a2,nE,nE,⟨fun z=>(by cases z),fun z=>(by cases z),fun z=>absurd rfl z,e1,(by dsimp only;decide),fun z=>(by cases z),fun z _ _ _=>a8 z,fun z=>(by cases z),(by dsimp only;decide),fun y hy=>(by cases hy)⟩⟩
 · -- an assignment or a call
   refine .bp (VB (n:=(10 - nest).toNat) hP (by dsimp only;omega)) fun S1 x k1=>?_;have q1:=hs.trans k1.1;refine .bd (uh (q1.ps h)) fun S2 k2=>.mk ⟨q1.trans k2.1,fun z=>?_⟩;have a1:=k1.2 (k2.1.e z);have a5:=k2.1.lo;have a6:=hs.lo;dsimp only at a1 a6;exact ⟨by omega,a1.2⟩
end
theorem KC:∀ fu:Nat,aaK (xZ fu) fu∧Ym (xH fu) fu
 | 0=>by refine ⟨fun S a h _ _ hb=>?_,fun S b h _ _ hb=>?_⟩;all_goals have:=h.hi;have:=h.lo;omega
 | fu+1=>⟨YW (KC fu).2,Q7 (KC fu).1⟩
theorem Kz {fu:Nat}{c:Int}:kS (sS fu c) (fun _=>True):=by
 unfold sS
 repeat' (first | exact .mk kL | refine .ite (fun _=>?_) fun _=>?_)
theorem Ox {fu:Nat}{c:Int}:kS (vQ fu c) (fun _=>True):=by
 unfold vQ
 repeat' (first | exact .mk kL | refine .ite (fun _=>?_) fun _=>?_)
theorem F3 {fu:Nat}{s:ByteArray}:∀ (l:List ByteArray)(k:Nat),kS (pK fu s l k) (qg (fun _=>True) (fun _=>True))
 | [],_=>.go kL
 | u :: r,k=>by rw [pK];exact .ite (fun _=>.out kL) fun _=>F3 r (k+1)
theorem RF {fu:Nat}{s:ByteArray}:kS (vL fu s) (fun _=>True):=by unfold vL;exact .eo (F3 _ 0) fun _ _=>.mk kL
theorem M6 {fu:Nat}{s:ByteArray}{at_:Int}(h0:0≤at_)(h1:at_+2≤s.size)(h2:s.size≤4000):∀ (l:List ByteArray)(k:Nat),(∀ u ∈ l,u.size=2)→kS (tu fu s at_ l k) (qg (fun _=>True) (fun r=>r.size=2))
 | [],_,_=>.go kL
 | u :: r,k,hl=>by rw [tu];have hw:wr (at_+2)=at_+2:=mo (by omega) (by omega);rw [hw];refine .bd (.VA (by omega)) fun g hg=>.ite (fun _=>.out (hl u (.head _))) fun _=>M6 h0 h1 h2 r (k+1) fun u hu=>hl u (.tail _ hu)
theorem Nq {fu:Nat}{s:ByteArray}{at_:Int}(h0:0≤at_)(h1:at_ < s.size)(h2:s.size≤4000):∀ (l:List Iz)(k:Nat),kS (tH fu s at_ l k) (qg (fun _=>True) (fun r=>r.size=1))
 | [],_=>.go kL
 | u :: r,k=>by rw [tH];have hw:wr (at_+1)=at_+1:=mo (by omega) (by omega);rw [hw];refine .bd (.ixs h0 h1) fun c hc=>.ite (fun _=>?_) fun _=>Nq h0 h1 h2 r (k+1);refine .bd (.VA (by omega)) fun g hg=>.out ?_;subst hg;rw [ByteArray.size_extract];omega
theorem acp {fu:Nat}{s:ByteArray}{at_:Int}(h0:0<=at_)(h1:at_ < s.size)(h2:s.size<=4000):kS (Co fu s at_) (fun r=>r≠(⟨#[]⟩:ByteArray)->1<=r.size/\at_+r.size<=s.size):=by
 unfold Co;have hw:wr (at_+1)=at_+1:=mo (by omega) (by omega);have hJ:kS (zV fu s at_) (qg (fun _=>True) (fun r=>r.size=2/\at_+2<=s.size)):=by unfold zV;rw [hw];refine .ite (fun c=>?_) fun _=>.go kL;refine .el (M6 h0 (by omega) h2 _ 0 ?_) (fun _ _=>.go kL) fun o ho=>.out ⟨ho,by omega⟩;decide
 refine .el hJ (fun _ _=>?_) fun o ho=>.mk fun _=>by omega
 exact .el (Nq h0 h1 h2 _ 0) (fun _ _=>.mk fun z=>absurd rfl z) fun o ho=>.mk fun _=>by omega
theorem Ns {fu:Nat}{s:ByteArray}(h2:s.size≤4000){O:Int × Int→Prop}:∀ (n:Nat)(at_:Int),0≤at_→at_≤s.size→s.size+1≤n+at_→kS (tJ fu s n at_) (qg (fun a=>at_≤a∧a≤s.size) O)
 | 0,a,h0,h1,hn=>by omega
 | n+1,a,h0,h1,hn=>by
  rw [tJ];refine .ite (fun c=>?_) fun c=>.go ⟨vk _,h1⟩;have hw:wr (a+1)=a+1:=mo (by omega) (by omega);rw [hw];refine .bd (.ixs h0 c) fun x hx=>.ite (fun _=>?_) fun _=>.go ⟨vk _,h1⟩;refine (Ns (O:=O) h2 n (a+1) (by omega) (by omega) (by omega)).imp fun v hv=>?_;obtain v | v:=v
  · exact ⟨by have:=hv.1;omega,hv.2⟩
  · exact hv
theorem Nf {fu:Nat}{s:ByteArray}(h2:s.size≤4000)(hf:4001≤fu):∀ (n:Nat)(at_ line:Int),0≤at_→at_≤s.size→s.size+1≤n+at_→kS (qz fu s n at_ line) (qg (fun r=>jy r fun a _=>at_≤a∧a≤s.size) (fun r=>jy r fun a _=>at_≤a∧a≤s.size))
 | 0,a,ln,h0,h1,hn=>by omega
 | n+1,a,ln,h0,h1,hn=>by
  rw [qz];refine .ite (fun c=>?_) fun c=>.go ⟨vk _,h1⟩;have hw:wr (a+1)=a+1:=mo (by omega) (by omega);refine kS.XM (.ixs h0 c) fun x hx0 hx=>?_;have hJ:kS (zQ fu s a x) (qg (fun b=>b=true->x=47) (fun _=>False)):=by unfold zQ;rw [hw];refine .ite (fun c=>?_) fun c=>.go fun z=>(by cases z);exact .ite (fun c2=>.bd (.ixs (by omega) c2) fun y _=>.go fun _=>c) fun _=>.go fun z=>(by cases z)
  have up:∀ (b l2:Int),a < b->b<=s.size->kS (qz fu s n b l2) (qg (fun r=>jy r fun a' _=>a<=a'/\a'<=s.size) (fun r=>jy r fun a' _=>a<=a'/\a'<=s.size)):=fun b l2 k1 k2=>by
    refine (Nf h2 hf n b l2 (by omega) k2 (by omega)).imp fun v hv=>?_;obtain v | v:=v
    all_goals
     obtain ⟨p,q⟩:=v;exact ⟨by have:=hv.1;omega,hv.2⟩
  refine .el hJ (fun b hb=>?_) fun _ z=>z.elim;refine .ite (fun d=>?_) fun d=>?_
  · -- the comment's first byte is no end of a line
    obtain ⟨fu',rfl⟩:∃ k,fu=k+1:=⟨fu - 1,by omega⟩;have hx47:=hb d;rw [tJ,lG c,hx0];show kS (Option.bind (if x≠10 then _ else _) _) _;rw [lG (by omega),hw];exact .FL (Ns h2 fu' (a+1) (by omega) (by omega) (by omega)) fun b hb=>up b ln (by omega) hb.2
  · have hJ3:kS (zM fu a ln x) (qg (fun _=>True) (fun r=>jy r fun a' _=>a<=a'/\a'<=s.size)):=by
     unfold zM
     repeat' (first | exact .go kL | exact .out ⟨vk _,h1⟩ | refine .ite (fun _=>?_) fun _=>?_)
    refine .FL hJ3 fun _ _=>?_;rw [hw];exact .ite (fun _=>up _ _ (by omega) (by omega)) fun _=>up _ _ (by omega) (by omega)
theorem X9 {fu:Nat}{s:ByteArray}{at_ line:Int}(h2:s.size<=4000)(hf:4001<=fu)(h0:0<=at_)(h1:at_<=s.size):kS (zG fu s at_ line) (fun r=>jy r fun a _=>at_<=a/\a<=s.size):=by unfold zG;exact .eo (Nf h2 hf fu at_ line h0 h1 (by omega)) fun r hs=>.pp hs fun a b hs=>.mk hs
theorem Yb {fu:Nat}{s:ByteArray}{a:Int}(h0:0<=a):kS (wu fu s a) (qg (fun b=>b=true->a < s.size) (fun _=>False)):=by unfold wu;refine .ite (fun c=>?_) fun c=>.go fun z=>(by cases z);refine .bd (.ixs h0 c) fun x hx=>.bd Kz fun b _=>.ite (fun _=>.go fun _=>c) fun _=>?_;exact .bd (.ixs h0 c) fun x hx=>.bd Ox fun b _=>.go fun _=>c
theorem QM {fu:Nat}{s:ByteArray}(h2:s.size≤4000){O:kR × Int × Int→Prop}:∀ (n:Nat)(a:Int),0≤a→a≤s.size→s.size+1≤n+a→kS (qX fu s n a) (qg (fun b=>a≤b∧b≤s.size) O)
 | 0,a,h0,h1,hn=>by omega
 | n+1,a,h0,h1,hn=>by
  rw [qX];refine .el (Yb h0) (fun b hb=>?_) fun _ z=>z.elim;refine .ite (fun c=>?_) fun c=>.go ⟨vk _,h1⟩;have:=hb c;have hw:wr (a+1)=a+1:=mo (by omega) (by omega);rw [hw];refine (QM (O:=O) h2 n (a+1) (by omega) (by omega) (by omega)).imp fun v hv=>?_;obtain v | v:=v
  · exact ⟨by have:=hv.1;omega,hv.2⟩
  · exact hv
theorem P6 {fu:Nat}{s:ByteArray}{at_:Int}(h2:s.size≤4000)(h3:0≤at_){O:kR × Int × Int→Prop}:∀ (n:Nat)(a m:Int),at_≤a→a≤s.size→s.size+1≤n+a→kS (pO fu s at_ n a m) (qg (fun r=>jy r fun b _=>a≤b∧b≤s.size) O)
 | 0,a,m,h0,h1,hn=>by omega
 | n+1,a,m,h0,h1,hn=>by
  rw [pO];refine .ite (fun c=>?_) fun c=>.go ⟨vk _,h1⟩;refine .bd (.ixs (by omega) c) fun x hx=>.bd Ox fun b _=>.ite (fun _=>?_) fun c=>.go ⟨vk _,h1⟩;have hw:wr (a+1)=a+1:=mo (by omega) (by omega);rw [hw];have up:∀ m2:Int,kS (pO fu s at_ n (a+1) m2) (qg (fun r=>jy r fun b _=>a<=b/\b<=s.size) O):=fun m2=>by
   refine (P6 (O:=O) h2 h3 n (a+1) m2 (by omega) (by omega) (by omega)).imp fun v hv=>?_;obtain v | v:=v
   · obtain ⟨p,q⟩:=v;exact ⟨by have:=hv.1;omega,hv.2⟩
   · exact hv
  exact .ite (fun _=>.bd (.ixs (by omega) c) fun _ _=>up _) fun _=>up _
theorem acV {fu:Nat}{s:ByteArray}{at_ line:Int}(h2:s.size<=4000)(hf:4001<=fu)(h0:0<=at_)(h1:at_ < s.size):kS (Dt fu s at_ line) (fun r=>jy r fun t r=>jy r fun nx e=>e=0->at_ < nx/\nx<=s.size/\(t.b=1->t.a≠(⟨#[]⟩:ByteArray))):=by
 unfold Dt;have bad:∀ (t:kR)(n e:Int),e≠0->kS (some (t,n,e)) (fun r=>jy r fun t r=>jy r fun nx e=>e=0->at_ < nx/\nx<=s.size/\(t.b=1->t.a≠(⟨#[]⟩:ByteArray))):=fun t n e he=>.mk fun z=>absurd z he;obtain ⟨fu',rfl⟩:∃ k,fu=k+1:=⟨fu - 1,by omega⟩;have hw:wr (at_+1)=at_+1:=mo (by omega) (by omega);refine kS.XM (.ixs h0 h1) fun x hx0 hx=>kS.XM Kz fun b hb _=>.ite (fun c=>?_) fun c=>?_
 · have hL:kS (qX (fu'+1) s (fu'+1) at_) (qg (fun b=>at_ < b/\b<=s.size) (fun _=>False)):=by
    rw [qX];have hJ:wu (fu'+1) s at_=some (.go true):=by unfold wu;rw [lG h1,hx0];show Option.bind (sS (fu'+1) x) _=_;rw [hb,c];rfl
    rw [hJ];show kS (if true=true then qX (fu'+1) s fu' (wr (at_+1)) else some (.go at_)) _;rw [lG rfl,hw];refine (QM (O:=fun _=>False) h2 fu' (at_+1) (by omega) (by omega) (by omega)).imp fun v hv=>?_;obtain v | v:=v
    · exact ⟨by have:=hv.1;omega,hv.2⟩
    · exact hv
   refine .el hL (fun a ha=>?_) fun _ z=>z.elim;refine .ite (fun _=>bad _ _ _ (by decide)) fun _=>?_;refine .bd (.VA (by omega)) fun g hg=>.bd RF fun b _=>?_;refine .ite (fun _=>.mk fun _=>⟨ha.1,ha.2,fun z=>(by cases z)⟩) fun _=>.mk fun _=>⟨ha.1,ha.2,fun _ z=>?_⟩;have z2:=congrArg ByteArray.size z;dsimp only at z2;rw [hg,ByteArray.size_extract] at z2;have z3:(⟨#[]⟩:ByteArray).size=0:=rfl;omega
 refine kS.XM (.ixs h0 h1) fun x2 hx2 _=>kS.XM Ox fun b2 hb2 _=>.ite (fun c2=>?_) fun c2=>?_
 · have hL:kS (pO (fu'+1) s at_ (fu'+1) at_ 0) (qg (fun r=>jy r fun b _=>at_ < b/\b<=s.size) (fun _=>False)):=by
    rw [pO,lG h1,hx2,Option.bind_some,hb2,Option.bind_some,lG c2,hw];have up:∀ m2:Int,kS (pO (fu'+1) s at_ fu' (at_+1) m2) (qg (fun r=>jy r fun b _=>at_ < b/\b<=s.size) (fun _=>False)):=fun m2=>by
      refine (P6 (O:=fun _=>False) h2 h0 fu' (at_+1) m2 (by omega) (by omega) (by omega)).imp fun v hv=>?_;obtain v | v:=v
      · obtain ⟨p,q⟩:=v;exact ⟨by have:=hv.1;omega,hv.2⟩
      · exact hv
    exact .ite (fun _=>up _) fun _=>up _
   refine .el hL (fun r hs=>.pp hs fun a m ha=>?_) fun _ z=>z.elim;refine .ite (fun _=>bad _ _ _ (by decide)) fun _=>?_;have hJ:kS (BI (fu'+1) s a) (qg (fun _=>True) (fun r=>jy r fun t r=>jy r fun nx e=>e≠0)):=by unfold BI;refine .ite (fun c=>?_) fun _=>.go kL;exact .bd (.ixs (by omega) c) fun _ _=>.bd Kz fun _ _=>.ite (fun _=>.out (show (6:Int)≠0 by decide)) fun _=>.go kL
   refine .el hJ (fun _ _=>.mk fun _=>⟨ha.1,ha.2,fun z=>(by cases z)⟩) fun o ho=>.mk ?_;obtain ⟨t,n,e⟩:=o;exact fun z=>absurd z ho
 refine .bd (acp h0 h1 h2) fun g hg=>.ite (fun _=>bad _ _ _ (by decide)) fun c3=>.mk fun _=>?_;have:=hg c3;have hw2:wr (at_+((g.size:Nat):Int))=at_+g.size:=mo (by omega) (by omega);rw [hw2];exact ⟨by omega,by omega,fun z=>(by cases z)⟩
def Nm (l:List kR):Prop:=∀ (k:Nat)(t:kR),l[k]?=some t->t.b=1->t.a≠(⟨#[]⟩:ByteArray)
theorem Nm.app {l:List kR}(h:Nm l){t:kR}(ht:t.b=1->t.a≠(⟨#[]⟩:ByteArray)):Nm (l ++ [t]):=fun k t' hk=>by
 rw [List.getElem?_append] at hk;split at hk
 · exact h k t' hk
 · have:k - l.length=0:=by have:=ko hk;simp only [uK,xX] at this;omega
   rw [this] at hk;obtain rfl:=JD hk;exact ht
theorem NA {fu:Nat}{s:ByteArray}(h2:s.size≤4000)(hf:4001≤fu):∀ (n:Nat)(a line:Int)(l:List kR),0≤a→a≤s.size→s.size+1≤n+a→l.length≤2000→Nm l→kS (uT fu s n a line l) (qg (fun r=>jy r fun _ r=>jy r fun _ l=>l.length≤2000∧Nm l) (fun r=>jy r fun _ r=>jy r fun _ e=>e≠0))
 | 0,a,ln,l,h0,h1,hn,hl,hm=>by omega
 | n+1,a,ln,l,h0,h1,hn,hl,hm=>by
  rw [uT];refine .ite (fun c=>?_) fun c=>.go ⟨hl,hm⟩;refine .bp (acV h2 hf h0 c) fun t r ht=>.pp ht fun nx e ht=>?_;have hJ:kS (Aw fu l e) (qg (fun e'=>e'=0->e=0/\l.length < 2000) (fun _=>False)):=by unfold Aw;refine .ite (fun c=>?_) fun c=>.go fun z=>absurd z c;exact .ite (fun c=>.go fun z=>(by cases z)) fun c2=>.go fun _=>⟨c,by omega⟩
  refine .el hJ (fun e' he=>?_) fun _ z=>z.elim;refine .ite (fun d=>.out d) fun d=>?_;have he:=he (by omega);have ht:=ht he.1;refine .bd (.app (by simp only [uK,xX];omega)) fun r hr=>?_;refine .bp (X9 h2 hf (by omega) ht.2.1) fun a2 ln2 ha=>?_;subst hr;exact NA h2 hf n a2 ln2 _ (by omega) ha.2 (by omega) (by simp only [Ij,uK,xX];omega) (hm.app ht.2.2)
theorem aaG {fu:Nat}{s:ByteArray}(hf:4001<=fu):kS (Ce fu s) (fun r=>jy r fun l r=>jy r fun _ e=>e=0->TL l/\1<=l.length/\l.length<=2001):=by
 unfold Ce;refine .ite (fun c=>.mk fun z=>(by cases z)) fun c=>?_;have h2:s.size<=4000:=by omega
 refine .bp (X9 h2 hf (vk _) (by omega)) fun a ln ha=>?_;refine .el (NA h2 hf fu a ln [] ha.1 ha.2 (by omega) (by decide) fun k t hk=>(by cases hk)) (fun r hs=>.pp hs fun _ r hs=>.pp hs fun b l hs=>?_) fun o ho=>?_
 · refine .bd (.app (by simp only [uK,xX];omega)) fun r hr=>.mk fun _=>?_;subst hr;refine ⟨⟨by simp only [Ij,uK,xX];omega,fun k t hk ht=>?_,hs.2.app fun z=>(by cases z)⟩,by simp only [Ij,uK,xX];omega,by simp only [Ij,uK,xX];omega⟩;simp only [Ij,uK,xX] at hk;obtain rfl:k=l.length:=by omega
   rw [Du (mO _),Nat.sub_self] at ht;obtain rfl:=JD ht;rfl
 · obtain ⟨l,b,e⟩:=o;exact .mk fun z=>absurd z ho
end Go.Proofs.YtdkneekpdecjbaaGreat
