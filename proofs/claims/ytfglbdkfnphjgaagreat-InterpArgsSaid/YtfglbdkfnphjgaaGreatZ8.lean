/- Plain words: a computation that answers, with what its answer is known to be. -/
import Derived.Test.YtfglbdkfnphjgaaGreatLa
import Derived.Test.YtfglbdkfnphjgaaGreatLb
set_option linter.unusedVariables false
namespace Go.Fw
open Go.RowKit
def kP {α:Type} (x:Option α) (P:α->Prop):Prop:=∃ v,x=some v/\P v
def pJ {σ ρ:Type} (G:σ→Prop) (O:ρ→Prop):Ld σ ρ→Prop
 | .go s=>G s
 | .out r=>O r
section
variable {α β γ σ ρ:Type} {P:α->Prop}
theorem kP.mk {v:α} (h:P v):kP (some v) P:=⟨v,rfl,h⟩
theorem kP.bd {x:Option β} {f:β->Option α} {Q:β->Prop} (h:kP x Q) (k:∀ v,Q v->kP (f v) P):kP (x.bind f) P:=by obtain ⟨v,rfl,hv⟩:=h;exact k v hv
theorem kP.bp {x:Option (β × γ)} {f:β->γ->Option α} {Q:β->γ->Prop} (h:kP x (fun r=>iA r Q)) (k:∀ a b,Q a b->kP (f a b) P):kP (x.bind fun r=>iA r f) P:=by obtain ⟨⟨a,b⟩,rfl,hv⟩:=h;exact k a b hv
theorem kP.pp {r:β × γ} {f:β->γ->Option α} {Q:β->γ->Prop} (h:iA r Q) (k:∀ a b,Q a b->kP (f a b) P):kP (iA r f) P:=by obtain ⟨a,b⟩:=r;exact k a b h
theorem kP.ite {c:Prop} [Decidable c] {a b:Option α} (h1:c->kP a P) (h2:¬ c->kP b P):kP (if c then a else b) P:=by
 by_cases h:c
 · rw [if_pos h];exact h1 h
 · rw [if_neg h];exact h2 h
theorem kP.el {x:Option (Ld σ ρ)} {f:σ->Option α} {g:ρ->Option α} {G:σ->Prop} {O:ρ->Prop} (h:kP x (pJ G O)) (h1:∀ s,G s->kP (f s) P) (h2:∀ o,O o->kP (g o) P):kP (x.bind fun r=>r.el f g) P:=by
 obtain ⟨v,rfl,hv⟩:=h;cases v with
 | go s=>exact h1 s hv
 | out o=>exact h2 o hv
theorem kP.eo {x:Option (Ld σ α)} {f:σ->Option α} {G:σ->Prop} (h:kP x (pJ G P)) (h1:∀ s,G s->kP (f s) P):kP (x.bind fun r=>r.el f fun o=>some o) P:=h.el h1 fun o ho=>.mk ho
theorem kP.Dh {τ:Type} {x:Option (Ld σ ρ)} {f:σ->Option (Ld τ ρ)} {G:σ->Prop} {G':τ->Prop} {O:ρ->Prop} (h:kP x (pJ G O)) (h1:∀ s,G s->kP (f s) (pJ G' O)):kP (x.bind fun r=>r.el f fun o=>some (.out o)) (pJ G' O):=h.el h1 fun o ho=>.mk ho
theorem kP.imp {x:Option α} {Q:α->Prop} (h:kP x Q) (k:∀ v,Q v->P v):kP x P:=by obtain ⟨v,h1,h2⟩:=h;exact ⟨v,h1,k v h2⟩
theorem kP.go {s:σ} {G:σ->Prop} {O:ρ->Prop} (h:G s):kP (some (Ld.go s)) (pJ G O):=⟨_,rfl,h⟩
theorem kP.out {r:ρ} {G:σ->Prop} {O:ρ->Prop} (h:O r):kP (some (Ld.out r)) (pJ G O):=⟨_,rfl,h⟩
theorem kP.ix {l:List α} {i:Int} (h0:0<=i) (h1:i < l.length):kP (ix l i) (fun x=>l[i.toNat]?=some x):=by obtain ⟨x,hx⟩:=lT (l:=l) (k:=i.toNat) (by omega);refine ⟨x,?_,hx⟩;unfold Go.Fw.ix;rw [if_neg (by omega),hx]
theorem kP.app {l m:List α} (h:l.length+m.length<=1000000000):kP (app l m) (fun r=>r=l ++ m):=⟨_,if_pos h,rfl⟩
theorem kP.sl {l:List α} {a b:Int} (h:0<=a/\a<=b/\b<=l.length):kP (sl l a b) (fun r=>r=(l.drop a.toNat).take (b - a).toNat):=⟨_,if_pos h,rfl⟩
theorem kP.st {l:List α} {i:Int} {x:α} (h:0<=i/\i < l.length):kP (st l i x) (fun r=>r=l.set i.toNat x):=⟨_,if_pos h,rfl⟩
theorem kP.cat {s t:ByteArray} (h:s.size+t.size<=1000000000):kP (cat s t) (fun r=>r=s ++ t):=⟨_,if_pos h,rfl⟩
theorem kP.ixs {s:ByteArray} {i:Int} (h0:0<=i) (h1:i < s.size):kP (ixs s i) (fun x=>0<=x/\x<=255):=by
 unfold Go.Fw.ixs;rw [if_neg (by omega)];have h:i.toNat < s.size:=by omega
 refine ⟨((s[i.toNat].toNat:Nat):Int),?_,by omega,?_⟩
 · rw [getElem?_pos s i.toNat h];rfl
 · have:=s[i.toNat].toNat_lt;omega
theorem kP.R3 {s:ByteArray} {a b:Int} (h:0<=a/\a<=b/\b<=s.size):kP (R3 s a b) (fun r=>r=s.extract a.toNat b.toNat):=⟨_,if_pos h,rfl⟩
theorem kP.Rm {x:Option β} {f:β->Option α} {Q:β->Prop} (h:kP x Q) (k:∀ v,x=some v->Q v->kP (f v) P):kP (x.bind f) P:=by obtain ⟨v,rfl,hv⟩:=h;exact k v rfl hv
end
theorem lZ {n:Int} (h1:-9000000000000000000<=n) (h2:n<=9000000000000000000):wr n=n:=by unfold wr;exact LX (by omega) (by omega)
theorem Cn (s t:ByteArray):(s ++ t).size=s.size+t.size:=ByteArray.size_append ..
end Go.Fw
set_option linter.unusedSimpArgs false
namespace Go.Proofs.YtfglbdkfnphjgaaGreat
open Go.RowKit Go.Fw Go.Proofs.Tryz
structure TL (l:List kT):Prop where
 len:l.length<=5000
 last:∀ (k:Nat) (t:kT),k+1=l.length->l[k]?=some t->t.c=0
 name:∀ (k:Nat) (t:kT),l[k]?=some t->t.c=1->t.a≠(⟨#[]⟩:ByteArray)
structure PS (S:gP):Prop where
 tl:TL S.l
 lo:0<=S.a
 hi:S.a < S.l.length
structure Nx (S S':gP):Prop where
 l:S'.l=S.l
 lo:S.a<=S'.a
 hi:S'.a < S.l.length
 e:S'.e=0->S.e=0
theorem Nx.ps {S S':gP} (h:PS S) (k:Nx S S'):PS S':=⟨by rw [k.l];exact h.tl,by have:=h.lo;have:=k.lo;omega,by rw [k.l];exact k.hi⟩
theorem Nx.rfl' {S:gP} (h:PS S):Nx S S:=⟨rfl,Int.le_refl _,h.hi,id⟩
theorem Nx.trans {S S' S2:gP} (h:Nx S S') (k:Nx S' S2):Nx S S2:=⟨k.l.trans h.l,Int.le_trans h.lo k.lo,by rw [<-h.l];exact k.hi,fun z=>h.e (k.e z)⟩
theorem Nx.step {S:gP} (h:PS S) (k:S.a+1 < S.l.length):Nx S ⟨S.l,wr (S.a+1),S.c,S.e⟩:=by have:=h.lo;have:=h.tl.len;have hw:wr (S.a+1)=S.a+1:=lZ (by omega) (by omega);exact ⟨rfl,by dsimp only;omega,by dsimp only;omega,id⟩
theorem PS.Oi {S:gP} (h:PS S):wr (S.a+1)=S.a+1:=by have:=h.lo;have:=h.tl.len;have:=h.hi;exact lZ (by omega) (by omega)
theorem PS.more {S:gP} (h:PS S) {t:kT} (ht:S.l[S.a.toNat]?=some t) (hk:t.c≠0):S.a+1 < S.l.length:=by
 have:=h.lo;have:=h.hi;by_cases hc:S.a.toNat+1=S.l.length
 · exact absurd (h.tl.last _ t hc ht) hk
 · omega
theorem BP {S:gP} {fu:Nat} {e:Int} (h:PS S) (he:e≠0):kP (pR fu S e) (fun S'=>Nx S S'/\S'.e≠0/\S'.a=S.a):=by
 unfold pR;refine .ite (fun c=>?_) (fun c=>?_)
 · refine .bd (.ix h.lo h.hi) fun t ht=>.mk ⟨⟨rfl,Int.le_refl _,h.hi,fun z=>absurd z he⟩,he,rfl⟩
 · exact .mk ⟨Nx.rfl' h,c,rfl⟩
theorem BI {S:gP} {fu:Nat} {s:ByteArray} (h:PS S):kP (mK fu S 0 s) (fun b=>b=true->S.a+1 < S.l.length):=by
 unfold mK;have hw:wr (S.a+0)=S.a:=by have:=h.lo;have:=h.hi;have:=h.tl.len;rw [Int.add_zero];exact lZ (by omega) (by omega)
 rw [hw];refine .ite (fun c=>.mk fun z=>by cases z) (fun c=>?_);refine .bd (.ix h.lo h.hi) fun t ht=>?_;refine .ite (fun c=>.mk fun _=>h.more ht (by omega)) (fun c=>?_);exact .ite (fun c=>.mk fun _=>h.more ht (by omega)) (fun c=>.mk fun z=>by cases z)
theorem ZK {S:gP} {fu:Nat} {s:ByteArray} (h:PS S):kP (mK fu S 1 s) (fun b=>True):=by unfold mK;rw [h.Oi];refine .ite (fun c=>.mk trivial) (fun c=>?_);have:=h.lo;refine .bd (.ix (by omega) (by omega)) fun t ht=>?_;refine .ite (fun c=>.mk trivial) (fun c=>?_);exact .ite (fun c=>.mk trivial) (fun c=>.mk trivial)
theorem BN {S:gP} {fu:Nat} {k:Int} (h:PS S):kP (pW fu S 0 k) (fun b=>∃ t,S.l[S.a.toNat]?=some t/\(b=true->t.c=k)/\(t.c=k->b=true)/\(b=true->k≠0->S.a+1 < S.l.length)):=by
 unfold pW;have hw:wr (S.a+0)=S.a:=by have:=h.lo;have:=h.hi;have:=h.tl.len;rw [Int.add_zero];exact lZ (by omega) (by omega)
 rw [hw];refine .ite (fun c=>?_) (fun c=>absurd h.hi c);refine .bd (.ix h.lo h.hi) fun t ht=>.mk ⟨t,ht,fun z=>of_decide_eq_true z,fun z=>decide_eq_true z,fun z hk=>h.more ht (by have:=of_decide_eq_true z;omega)⟩
def Tk (S S':gP):Prop:=Nx S S'/\(S'.e=0->S'.a=S.a+1)
theorem sV {S:gP} {fu:Nat} {s:ByteArray} (h:PS S):kP (lU fu S s) (Tk S):=by
 unfold lU;refine .ite (fun c=>.mk ⟨Nx.rfl' h,fun z=>absurd z c⟩) (fun c=>?_);refine .bd (BI h) fun b hb=>?_;refine .ite (fun d=>?_) (fun d=>?_)
 · refine .bd (BP h (by decide)) fun S' hS=>.mk ⟨hS.1,fun z=>absurd z hS.2.1⟩
 · exact .mk ⟨Nx.step h (hb (by simpa using d)),fun _=>h.Oi⟩
theorem Bh {S:gP} {fu:Nat} (h:PS S):kP (oN fu S) (fun r=>iA r fun n S'=>Tk S S'/\(S'.e=0->n≠(⟨#[]⟩:ByteArray))/\(S.e=0->(∃ t,S.l[S.a.toNat]?=some t/\t.c=1)->S'.e=0)):=by
 unfold oN;refine .ite (fun c=>.mk ⟨⟨Nx.rfl' h,fun z=>absurd z c⟩,fun z=>absurd z c,fun z=>absurd z c⟩) (fun c=>?_);refine .bd (BN h) fun b hb=>?_;obtain ⟨t,ht,hb1,hb3,hb2⟩:=hb;refine .ite (fun d=>?_) (fun d=>?_)
 · refine .bd (BP h (by decide)) fun S' hS=>.mk ⟨⟨hS.1,fun z=>absurd z hS.2.1⟩,fun z=>absurd z hS.2.1,fun _ ⟨t2,ht2,hk⟩=>?_⟩;rw [ht] at ht2;obtain rfl:=Option.some.inj ht2;rw [hb3 hk] at d;cases d
 · have hw:wr (wr (S.a+1) - 1)=S.a:=by rw [h.Oi];have:=h.lo;have:=h.hi;have:=h.tl.len;rw [lZ (by omega) (by omega)];omega
   rw [hw];refine .bd (.ix h.lo h.hi) fun t2 ht2=>.mk ⟨⟨Nx.step h (hb2 (by simpa using d) (by decide)),fun _=>h.Oi⟩,fun _=>?_,fun z _=>z⟩;rw [ht] at ht2;obtain rfl:=Option.some.inj ht2;exact h.tl.name _ _ ht (hb1 (by simpa using d))
theorem H9 {fu:Nat} {O:List ByteArray × gP→Prop}:∀ (n:Nat) (out:List ByteArray) (S:gP),PS S→S.l.length+1≤n+S.a→(S.e=0→(out.length:Int)≤S.a)→
  kP (qX fu n out S.l S.a S.c S.e) (pJ (fun r=>iA r fun o r=>iA r fun a r=>iA r fun b r=>iA r fun c d=>Nx S ⟨a,b,c,d⟩/\(d=0->(o.length:Int)<=b)) O)
 | 0,out,S,h,hn,ho=>by have:=h.hi;omega
 | n+1,out,S,h,hn,ho=>by
  rw [qX];refine .ite (fun c=>?_) (fun c=>.go ⟨Nx.rfl' h,ho⟩);refine .bd (BI h) fun b hb=>?_;refine .ite (fun d=>?_) (fun d=>.go ⟨Nx.rfl' h,ho⟩);refine .bd (sV h) fun S1 h1=>?_;refine .bp (Bh (h1.1.ps h)) fun nm S2 h2=>?_;have hl:=h.tl.len;have:=h.hi;refine .bd (.app (by have:=ho c;simp only [List.length_cons,List.length_nil];omega)) fun r hr=>?_;have k:=h1.1.trans h2.1.1;by_cases z:S2.e=0
  · have z1:S1.a=S.a+1:=h1.2 (h2.1.1.e z);have z2:=h2.1.2 z;refine (H9 (O:=O) n r S2 (k.ps h) (by rw [k.l];dsimp only;omega) fun _=>?_).imp fun v hv=>?_
    · subst hr;have:=ho c;simp only [List.length_append,List.length_cons,List.length_nil];omega
    · obtain v | v:=v
      · obtain ⟨o,a,b,c,d⟩:=v;exact ⟨k.trans hv.1,hv.2⟩
      · exact hv
  · cases n with
    | zero=>have:S.a<=S1.a:=h1.1.lo;have:=h2.1.1.lo;omega
    | succ n=>
      rw [qX,if_neg z];exact .go ⟨k,fun y=>absurd y z⟩
theorem Pj {fu:Nat} {S:gP} (h:PS S) (hf:S.l.length+1<=fu):kP (wU fu S) (fun r=>iA r fun n S'=>Nx S S'/\(S'.e=0->n.length<=5000/\S.a < S'.a)):=by
 unfold wU;refine .bp (Bh h) fun n S1 h1=>?_;have h2:=h1.1.1.ps h;have h3:=h2.lo;have h4:=h.lo;have h5:=h2.tl.len;refine .eo (H9 fu [n] S1 h2 (by rw [h1.1.1.l];omega) fun z=>?_) fun s hs=>?_
 · have:=h1.1.2 z;simp only [List.length_cons,List.length_nil];omega
 · refine .pp hs fun o r hs=>.pp hs fun a r hs=>.pp hs fun b r hs=>.pp hs fun c d hs=>.mk ⟨h1.1.1.trans hs.1,fun z=>?_⟩;have k1:=hs.2 z;have k2:=hs.1.hi;have k3:=hs.1.lo;have k4:=h1.1.2 (hs.1.e z);dsimp only at k2 k3 ⊢;omega
theorem Tp {fu:Nat} {S:gP} (h:PS S):kP (xQ fu S) (fun b=>b=true->S.a+1 < S.l.length):=by unfold xQ;refine .bd (BN h) fun b ⟨t,ht,hb,_,hb2⟩=>.ite (fun c=>.mk fun _=>hb2 c (by decide)) fun c=>?_;refine .bd (BN h) fun b ⟨t,ht,hb,_,hb2⟩=>.ite (fun c=>.mk fun _=>hb2 c (by decide)) fun c=>?_;refine .bd (BI h) fun b hb=>.ite (fun c=>.mk fun _=>hb c) fun c=>?_;refine .bd (BI h) fun b hb=>.ite (fun c=>.mk fun _=>hb c) fun c=>?_;exact .bd (BI h) fun b hb=>.mk hb
theorem Gw {fu:Nat} {S:gP} (h:PS S):∀ (l:List ByteArray) (k:Nat),k+l.length≤12→kP (ru fu S l k) (pJ (fun _=>True) (fun r=>iA r fun n op=>S.a+1 < S.l.length∧6≤op∧op≤17))
 | [],_,_=>.go trivial
 | u :: r,k,hk=>by rw [ru];rw [List.length_cons] at hk;refine .bd (BI h) fun b hb=>.ite (fun c=>?_) fun c=>Gw h r (k+1) (by omega);refine .bd (.ix (by omega) (by simp only [List.length_cons,List.length_nil];omega)) fun e he=>.out ?_;rw [lZ (by omega) (by omega)];exact ⟨hb c,by omega,by omega⟩
theorem U5 {fu:Nat} {S:gP} (h:PS S):kP (zD fu S) (fun r=>iA r fun n op=>n≠0->S.a+1 < S.l.length/\6<=op/\op<=17):=by unfold zD;refine .el (Gw h _ 0 (by decide)) (fun _ _=>.mk fun z=>absurd rfl z) fun o ho=>.mk ?_;obtain ⟨n,op⟩:=o;exact fun _=>ho
theorem Q6 {fu:Nat} {S:gP} (h:PS S):kP (tH fu S) (fun b=>b=true->∃ t,S.l[S.a.toNat]?=some t/\t.c=1):=by
 unfold tH;refine .bd (BN h) fun b ⟨t,ht,hb,_,hb2⟩=>.ite (fun c=>?_) fun c=>.mk fun z=>by cases z
 exact .bd (ZK h) fun b2 _=>.mk fun _=>⟨t,ht,hb c⟩
theorem FH {fu:Nat} {S:gP} (h:PS S):∀ (l:List ByteArray) (k:Nat),kP (qC fu S l k) (pJ (fun _=>True) (fun r=>S.a+1 < S.l.length))
 | [],_=>.go trivial
 | u :: r,k=>by rw [qC];exact .bd (BI h) fun b hb=>.ite (fun c=>.out (hb c)) fun c=>FH h r (k+1)
theorem SH {fu:Nat} {S:gP} (h:PS S):kP (xV fu S) (fun b=>b=true->S.a+1 < S.l.length):=by unfold xV;refine .el (FH h _ 0) (fun _ _=>?_) fun o ho=>.mk fun _=>ho;exact .bd (BN h) fun b ⟨t,ht,hb,_,hb2⟩=>.mk fun c=>hb2 c (by decide)
def Sx (x:jA):Prop:=0<=x.e/\x.e<=17/\x.a.length=if x.e < 3 then 0 else if x.e < 6 then 1 else 2
def yx:Nat→jA→Prop
 | 0,_=>False
 | n+1,x=>(x.a.length<=5000/\Sx x)/\∀ y ∈ x.a,yx n y
theorem yx.mono:∀ {n m:Nat} {x:jA},yx n x→n≤m→yx m x
 | 0,_,_,h,_=>h.elim
 | n+1,0,_,h,k=>by omega
 | n+1,m+1,x,h,k=>⟨h.1,fun y hy=>yx.mono (h.2 y hy) (by omega)⟩
theorem yx.leaf {x:jA} (h:x.a=[]) (o:0<=x.e/\x.e < 3):yx 1 x:=⟨⟨by rw [h];decide,o.1,by omega,by rw [h,if_pos o.2];rfl⟩,fun y hy=>by rw [h] at hy;cases hy⟩
theorem yx.two {n:Nat} {x y z:jA} (hx:yx n x) (hy:yx n y) (h:z.a=[x,y]) (o:6<=z.e/\z.e<=17):yx (n+1) z:=⟨⟨by rw [h];exact (by decide:2<=5000),by omega,o.2,by rw [h,if_neg (by omega),if_neg (by omega)];rfl⟩,fun q hq=>by
 rw [h] at hq;simp only [List.mem_cons,List.not_mem_nil,or_false] at hq;rcases hq with rfl | rfl
 · exact hx
 · exact hy⟩
theorem yx.one {n:Nat} {x z:jA} (hx:yx n x) (h:z.a=[x]) (o:3<=z.e/\z.e < 6):yx (n+1) z:=⟨⟨by rw [h];exact (by decide:1<=5000),by omega,by omega,by rw [h,if_neg (by omega),if_pos o.2];rfl⟩,fun q hq=>by
 rw [h] at hq;simp only [List.mem_cons,List.not_mem_nil,or_false] at hq;subst hq;exact hx⟩
def EP (S:gP) (x:jA) (S':gP):Prop:=Nx S S'/\(S'.e=0->S.a < S'.a/\∃ n:Nat,(n:Int)<=S'.a - S.a/\yx n x)
theorem EP.eta {S S1:gP} {x:jA} (h:EP S x S1):EP S ⟨x.e,x.d,x.g,x.b,x.c,x.a⟩ ⟨S1.l,S1.a,S1.c,S1.e⟩:=by cases x;cases S1;exact h
def Qg (f:gP->Int->Int->Option (jA × gP)) (fu:Nat):Prop:=∀ S least nest,PS S->1<=least->least<=5->0<=nest->nest<=9->S.l.length+10 * (10 - nest)+(6 - least)<=(fu:Int)->kP (f S least nest) (fun r=>iA r (EP S))
def Tun (f:gP->Int->Option (jA × gP)) (fu:Nat):Prop:=∀ S nest,PS S->0<=nest->nest<=9->S.l.length+10 * (10 - nest)<=(fu:Int)->kP (f S nest) (fun r=>iA r (EP S))
def Ttg (f:gP->Int->Option (jA × gP)) (fu:Nat):Prop:=∀ S nest,PS S->0<=nest->nest<=8->S.l.length+10 * (10 - nest)<=(fu:Int)+1->kP (f S nest) (fun r=>iA r fun x S'=>EP S x S'/\1<=x.e/\x.e<=3)
section
variable {fu:Nat} {f:gP->Int->Int->Option (jA × gP)} {g t:gP->Int->Option (jA × gP)}
theorem JY (hf:Qg f fu) {least nest:Int} (h1:1<=least) (h2:least<=5) (h3:0<=nest) (h4:nest<=9) {S0:gP} (h0:PS S0) (hb:S0.l.length+10 * (10 - nest)+(6 - least)<=(fu:Int)+1) :
  ∀ (n:Nat) (x:jA) (S:gP),S0.l.length+1<=n+S.a->EP S0 ⟨x.e,x.d,x.g,x.b,x.c,x.a⟩ ⟨S.l,S.a,S.c,S.e⟩->
  kP (pq fu f g t least nest n x.e x.d x.g x.b x.c x.a S.l S.a S.c S.e)
   (pJ (fun r=>iA r fun a r=>iA r fun b r=>iA r fun c r=>iA r fun d r=>iA r fun e r=>iA r fun f r=>iA r fun g r=>iA r fun h r=>iA r fun i j=>EP S0 ⟨a,b,c,d,e,f⟩ ⟨g,h,i,j⟩) (fun r=>iA r (EP S0)))
 | 0,x,S,hn,hx=>by have:=hx.1.hi;dsimp only at this;omega
 | n+1,x,S,hn,hx=>by
  rw [pq];have hS:=hx.1.ps h0;refine .ite (fun c=>?_) (fun c=>.go hx);refine .ite (fun c2=>?_) (fun c=>.go hx);refine .bp (U5 hS) fun lv op hl=>?_;refine .ite (fun d=>.out hx) (fun d=>?_);obtain ⟨hl,ho⟩:=hl (by omega);have hs:=Nx.step hS hl;have hw:wr (least+1)=least+1:=lZ (by omega) (by omega);rw [hw];refine .bp (hf _ _ _ (hs.ps hS) (by omega) (by omega) h3 h4 (by rw [hs.l,hx.1.l];omega)) fun y S1 hy=>?_;have hx':EP S0 ⟨op,0,0,be,be,[⟨x.e,x.d,x.g,x.b,x.c,x.a⟩,y]⟩ S1:=by refine ⟨(hx.1.trans hs).trans hy.1,fun z=>?_⟩;obtain ⟨a1,n1,a2,a3⟩:=hy.2 z;obtain ⟨b1,n2,b2,b3⟩:=hx.2 c;have hw:wr (S.a+1)=S.a+1:=hS.Oi;dsimp only at a1 a2;rw [hw] at a1 a2;dsimp only at b1 b2;exact ⟨by omega,max n1 n2+1,by omega,yx.two (b3.mono (by omega)) (a3.mono (by omega)) rfl ho⟩
  refine .ite (fun c3=>.out hx') fun c3=>?_;refine JY hf h1 h2 h3 h4 h0 hb n ⟨op,0,0,be,be,_⟩ S1 ?_ hx';have:=hy.1.lo;have hw:wr (S.a+1)=S.a+1:=hS.Oi;dsimp only at this;omega
theorem Yb (hf:Qg f fu) (hg:Tun g fu):Qg (sU fu f g t) (fu+1):=by
 intro S least nest h h1 h2 h3 h4 hb;unfold sU;have hA:kP (sM fu f g t S least nest) (pJ (fun r=>iA r fun a r=>iA r fun b r=>iA r fun c r=>iA r fun d r=>iA r fun e r=>iA r fun f r=>iA r fun g r=>iA r fun h r=>iA r fun i j=>EP S ⟨a,b,c,d,e,f⟩ ⟨g,h,i,j⟩) (fun r=>iA r (EP S))):=by
  unfold sM;refine .ite (fun c=>?_) (fun c=>?_)
  · exact .bp (hg S nest h h3 h4 (by omega)) fun x S1 hx=>.go hx.eta
  · have hw:wr (least+1)=least+1:=lZ (by omega) (by omega);rw [hw];exact .bp (hf S _ nest h (by omega) (by omega) h3 h4 (by omega)) fun x S1 hx=>.go hx.eta
 refine .eo hA fun s hs=>?_;refine .pp hs fun a r hs=>.pp hs fun b r hs=>.pp hs fun c r hs=>.pp hs fun d r hs=>.pp hs fun e r hs=>.pp hs fun f' r hs=>.pp hs fun g' r hs=>.pp hs fun h' r hs=>.pp hs fun i j hs=>?_;have:=h.lo;have:=hs.1.lo;dsimp only at this;refine .eo (JY hf h1 h2 h3 h4 h (by omega) fu ⟨a,b,c,d,e,f'⟩ ⟨g',h',i,j⟩ (by dsimp only;omega) hs) fun s hs=>?_;exact .pp hs fun a r hs=>.pp hs fun b r hs=>.pp hs fun c r hs=>.pp hs fun d r hs=>.pp hs fun e r hs=>.pp hs fun f' r hs=>.pp hs fun g' r hs=>.pp hs fun h' r hs=>.pp hs fun i j hs=>.mk hs
theorem Hu (hg:Tun g fu) {S:gP} {nest:Int} (h:PS S) (h3:0≤nest) (h4:nest≤8) (hb:S.l.length+10 * (9 - nest)≤(fu:Int)):∀ (l:List ByteArray) (k:Nat),k+l.length≤2→
  kP (rz fu f g t S nest l k) (pJ (fun _=>True) (fun r=>iA r (EP S)))
 | [],_,_=>.go trivial
 | u :: r,k,hk=>by rw [List.length_cons] at hk;rw [rz];refine .bd (BI h) fun b hb2=>.ite (fun c=>?_) fun c=>Hu hg h h3 h4 hb r (k+1) (by omega);have hs:=Nx.step h (hb2 c);have hw:wr (nest+1)=nest+1:=lZ (by omega) (by omega);rw [hw];refine .bp (hg _ _ (hs.ps h) (by omega) (by omega) (by dsimp only;omega)) fun x S1 hx=>.out ⟨hs.trans hx.1,fun z=>?_⟩;obtain ⟨a1,n1,a2,a3⟩:=hx.2 z;have hw:wr (S.a+1)=S.a+1:=h.Oi;dsimp only at a1 a2;rw [hw] at a1 a2;exact ⟨by omega,n1+1,by omega,yx.one a3 rfl (by dsimp only;rw [lZ (by omega) (by omega)];omega)⟩
theorem Vg (hf:Qg f fu) (hg:Tun g fu) (ht:Ttg t fu):Tun (zm fu f g t) (fu+1):=by
 intro S nest h h3 h4 hb;unfold zm;refine .ite (fun c=>.mk ⟨Nx.rfl' h,fun z=>absurd z c⟩) fun c=>?_;refine .bd (Tp h) fun b hb2=>.ite (fun d=>?_) fun d=>?_
 · exact .bd (BP h (by decide)) fun S1 h1=>.mk ⟨h1.1,fun z=>absurd z h1.2.1⟩
 have hm:=hb2 (by simpa using d);have hs:=Nx.step h hm;have hw:wr (S.a+1)=S.a+1:=h.Oi;refine .ite (fun d=>?_) fun d=>?_
 · exact .bd (BP h (by decide)) fun S1 h1=>.mk ⟨h1.1,fun z=>absurd z h1.2.1⟩
 refine .eo (Hu hg h h3 (by omega) (by omega) _ 0 (by decide)) fun _ _=>?_;refine .bd (BN h) fun b _=>.ite (fun c2=>?_) fun c2=>?_
 · have hw2:wr (wr (S.a+1) - 1)=S.a:=by rw [hw];have:=h.lo;have:=h.hi;have:=h.tl.len;rw [lZ (by omega) (by omega)];omega
   rw [hw2];refine .bd (.ix h.lo h.hi) fun e he=>.mk ⟨hs,fun _=>?_⟩;dsimp only;rw [hw];exact ⟨by omega,1,by omega,yx.leaf rfl (by dsimp only;omega)⟩
 refine .bd (BI h) fun b _=>.ite (fun c3=>?_) fun c3=>?_
 · have hwn:wr (nest+1)=nest+1:=lZ (by omega) (by omega);rw [hwn];refine .bp (hf _ _ _ (hs.ps h) (by decide) (by decide) (by omega) (by omega) (by dsimp only;omega)) fun x S1 hx=>?_;refine .bd (sV ((hs.trans hx.1).ps h)) fun S2 h2=>.mk ⟨(hs.trans hx.1).trans h2.1,fun z=>?_⟩;obtain ⟨a1,n1,a2,a3⟩:=hx.2 (h2.1.e z);have:=h2.1.lo;dsimp only at a1 a2;rw [hw] at a1 a2;exact ⟨by omega,n1,by omega,a3⟩
 · exact .bp (ht S nest h h3 (by omega) (by omega)) fun x S1 hx=>.mk hx.1
theorem SC (hf:Qg f fu):Ttg (xL fu f g t) (fu+1):=by
 intro S nest h h3 h4 hb;unfold xL;refine .bp (Bh h) fun n S1 h1=>?_;have hS1:=h1.1.1.ps h;have hl:=h1.1.1.l;have hw:S1.e=0->wr (S1.a+1)=S1.a+1:=fun _=>hS1.Oi;have hJ:kP (wD fu f g t n S1) (pJ (fun _=>True) (fun r=>iA r fun x S'=>EP S x S'/\1<=x.e/\x.e<=3)):=by unfold wD;refine .ite (fun c=>?_) fun c=>.go trivial;refine .bd (BI hS1) fun b hb2=>.ite (fun d=>?_) fun d=>.go trivial;have hs:=Nx.step hS1 (hb2 d);refine .bp (Bh (hs.ps hS1)) fun n2 S2 h2=>.out ⟨⟨(h1.1.1.trans hs).trans h2.1.1,fun z=>?_⟩,by dsimp only;omega,by dsimp only;omega⟩;have a1:=h1.1.2 c;have a2:=h2.1.1.lo;dsimp only at a2;rw [hw c] at a2;exact ⟨by omega,1,by omega,yx.leaf rfl (by dsimp only;omega)⟩
 have hend:∀ x:jA,x.a=[]->x.e=1->EP S x S1:=fun x hx ho=>⟨h1.1.1,fun z=>by have a1:=h1.1.2 z;exact ⟨by omega,1,by omega,yx.leaf hx (by omega)⟩⟩;refine .eo hJ fun _ _=>?_;refine .ite (fun c=>?_) fun c=>.mk ⟨hend _ rfl rfl,by dsimp only;omega,by dsimp only;omega⟩;refine .bd (BI hS1) fun b hb2=>.ite (fun d=>?_) fun d=>.mk ⟨hend _ rfl rfl,by dsimp only;omega,by dsimp only;omega⟩;have hs:=Nx.step hS1 (hb2 d);have hwn:wr (nest+1)=nest+1:=lZ (by omega) (by omega);rw [hwn];refine .bp (hf _ _ _ (hs.ps hS1) (by decide) (by decide) (by omega) (by omega) (by dsimp only;rw [hl];omega)) fun x S2 hx=>?_;refine .bd (sV ((hs.trans hx.1).ps hS1)) fun S3 h3=>.mk ⟨⟨(h1.1.1.trans (hs.trans hx.1)).trans h3.1,fun z=>?_⟩,by dsimp only;omega,by dsimp only;omega⟩;obtain ⟨a1,n1,a2,a3⟩:=hx.2 (h3.1.e z);have a4:=h1.1.2 c;have a5:=h3.1.lo;dsimp only at a1 a2;rw [hw c] at a1 a2;exact ⟨by omega,n1+1,by omega,yx.one a3 rfl (by dsimp only;omega)⟩
end
theorem wX:∀ fu:Nat,Qg (mq fu) fu∧Tun (zA fu) fu∧Ttg (tL fu) fu
 | 0=>by refine ⟨fun S a b h _ _ _ _ hb=>?_,fun S b h _ _ hb=>?_,fun S b h _ _ hb=>?_⟩;all_goals have:=h.hi;have:=h.lo;omega
 | fu+1=>⟨Yb (wX fu).1 (wX fu).2.1,Vg (wX fu).1 (wX fu).2.1 (wX fu).2.2,SC (wX fu).1⟩
structure Shape (x:jI):Prop where
 decl:x.c=1->x.d=[]/\x.a=[]/\x.e=[]/\x.h=[]/\x.j=be
 call:x.c=3->x.j≠be/\∀ y ∈ x.d,1<=y.e/\y.e<=3
 func:x.j≠be->(x.c=3\/x.c=6)/\x.e=[]/\x.h=[]
 type:0 < x.m->x.k=be
 kind:1<=x.c/\x.c<=10
 ret:x.c=6->x.d=[]
 args:x.j=be->x.c≠1->x.c≠8->x.c≠10->x.a≠[]
 targ:x.c=2->x.d≠[]
 len:x.m<=8
 tops:∀ y ∈ x.d,1<=y.e/\y.e<=3
def Di (E:Nat):Nat→jI→Prop
 | 0,_=>False
 | n+1,x=>(x.d.length<=1/\∀ y ∈ x.d,yx E y)/\(x.a.length<=5000/\∀ y ∈ x.a,yx E y)/\(x.e.length<=5000/\∀ y ∈ x.e,Di E n y)/\(x.h.length<=5000/\∀ y ∈ x.h,Di E n y)/\Shape x
theorem Di.mono {E:Nat}:∀ {n m:Nat} {x:jI},Di E n x→n≤m→Di E m x
 | 0,_,_,h,_=>h.elim
 | n+1,0,_,h,k=>by omega
 | n+1,m+1,x,h,k=>⟨h.1,h.2.1,⟨h.2.2.1.1,fun y hy=>Di.mono (h.2.2.1.2 y hy) (by omega)⟩,⟨h.2.2.2.1.1,fun y hy=>Di.mono (h.2.2.2.1.2 y hy) (by omega)⟩,h.2.2.2.2⟩
theorem nA {α:Type} {p:α->Prop} {b:Nat}:([]:List α).length<=b/\∀ y ∈ ([]:List α),p y:=⟨Nat.zero_le _,fun y hy=>by cases hy⟩
theorem len1 {α:Type} {p:α->Prop} {b:Nat} {x:α} (h:p x) (hb:1<=b):[x].length<=b/\∀ y ∈ [x],p y:=⟨hb,fun y hy=>by
 simp only [List.mem_cons,List.not_mem_nil,or_false] at hy;subst hy;exact h⟩
theorem EP.ok {S S':gP} {x:jA} (h:PS S) (k:EP S x S') (z:S'.e=0):yx S.l.length x:=by obtain ⟨a,n,b,c⟩:=k.2 z;exact c.mono (by have:=k.1.hi;have:=h.lo;omega)
theorem JV {fu:Nat} {S0:gP} (h0:PS S0) (hf:S0.l.length+105≤fu) {O:List jA × gP→Prop}:∀ (n:Nat) (out:List jA) (S:gP),Nx S0 S→S0.l.length+1≤n+S.a→(S.e=0→(out.length:Int)≤S.a∧∀ y ∈ out,yx S0.l.length y)→
  1<=n->kP (pV fu n S.l S.a S.c S.e out) (pJ (fun r=>iA r fun a r=>iA r fun b r=>iA r fun c r=>iA r fun d o=>Nx S ⟨a,b,c,d⟩/\(d=0->(o.length:Int)<=b/\∀ y ∈ o,yx S0.l.length y)) O)
 | 0,out,S,h,hn,ho,h1=>by omega
 | n+1,out,S,h,hn,ho,_=>by
  have hS:=h.ps h0;rw [pV];refine .ite (fun c=>?_) (fun c=>.go ⟨Nx.rfl' hS,ho⟩);refine .bd (BI hS) fun b hb=>?_;refine .ite (fun d=>?_) (fun d=>.go ⟨Nx.rfl' hS,ho⟩);have hs:=Nx.step hS (hb d);have hw:wr (S.a+1)=S.a+1:=hS.Oi;have hl:S.l=S0.l:=h.l;refine .bp ((wX fu).1 _ 1 0 (hs.ps hS) (by decide) (by decide) (by decide) (by decide) (by dsimp only;rw [hl];omega)) fun x S1 hx=>?_;have hlen:=h0.tl.len;have hi:=h.hi;refine .bd (.app (by have:=(ho c).1;simp only [List.length_cons,List.length_nil];omega)) fun r hr=>?_;have k:=hs.trans hx.1;have hat:=hx.1.lo;dsimp only at hat;rw [hw] at hat;have hlo:=h.lo;have h0lo:=h0.lo;have hhi:=k.hi;rw [hl] at hhi;refine (JV h0 hf (O:=O) n r S1 (h.trans k) (by omega) (fun z=>?_) (by omega)).imp fun v hv=>?_
  · subst hr;have:=(ho c).1;refine ⟨by simp only [List.length_append,List.length_cons,List.length_nil];omega,fun y hy=>?_⟩;rcases List.mem_append.1 hy with hy | hy
    · exact (ho c).2 y hy
    · simp only [List.mem_cons,List.not_mem_nil,or_false] at hy;subst hy;have:=hx.ok (hs.ps hS) z;dsimp only at this
      rwa [hl] at this
  · obtain v | v:=v
    · obtain ⟨a,b,c,d,o⟩:=v;exact ⟨k.trans hv.1,hv.2⟩
    · exact hv
theorem Xw {fu:Nat} {S:gP} (h:PS S) (hf:S.l.length+105<=fu):kP (ug fu S) (fun r=>iA r fun l S'=>Nx S S'/\(S'.e=0->S.a < S'.a/\l.length<=5000/\∀ y ∈ l,yx S.l.length y)):=by
 unfold ug;refine .bd (sV h) fun S1 h1=>?_;have hS1:=h1.1.ps h;have hl:=h1.1.l;have hJ:kP (tJ fu S1) (pJ (fun r=>iA r fun o r=>iA r fun a r=>iA r fun b r=>iA r fun c d=>Nx S1 ⟨a,b,c,d⟩/\(d=0->(o.length:Int)<=b/\∀ y ∈ o,yx S.l.length y)) (fun _=>False)):=by
  unfold tJ;have hnil:Nx S1 ⟨S1.l,S1.a,S1.c,S1.e⟩/\(S1.e=0->(([]:List jA).length:Int)<=S1.a/\∀ y ∈ ([]:List jA),yx S.l.length y):=⟨Nx.rfl' hS1,fun _=>⟨by have:=hS1.lo;simp only [List.length_nil];omega,fun y hy=>by cases hy⟩⟩;refine .ite (fun c=>?_) fun c=>.go hnil;refine .bd (BI hS1) fun b hb=>.ite (fun d=>?_) fun d=>.go hnil;refine .bp ((wX fu).1 _ 1 0 hS1 (by decide) (by decide) (by decide) (by decide) (by rw [hl];omega)) fun x S2 hx=>?_;refine .bd (.app (by simp only [List.length_cons,List.length_nil];omega)) fun r hr=>?_;have h2:=hx.1.ps hS1;have a1:=hx.1.lo;have a2:=hS1.lo;refine .Dh (JV h (by omega) fu r S2 (h1.1.trans hx.1) (by omega) (fun z=>?_) (by omega)) fun s hs=>?_
  · subst hr;obtain ⟨b1,n,b2,b3⟩:=hx.2 z;refine ⟨by simp only [List.nil_append,List.length_cons,List.length_nil];omega,fun y hy=>?_⟩;simp only [List.nil_append,List.mem_cons,List.not_mem_nil,or_false] at hy;subst hy;have:=hx.ok hS1 z
    rwa [hl] at this
  · refine .pp hs fun a r hs=>.pp hs fun b r hs=>.pp hs fun c r hs=>.pp hs fun d o hs=>.go ⟨hx.1.trans hs.1,hs.2⟩
 refine .el hJ (fun s hs=>?_) fun _ z=>z.elim;refine .pp hs fun o r hs=>.pp hs fun a r hs=>.pp hs fun b r hs=>.pp hs fun c d hs=>?_;refine .bd (sV (hs.1.ps hS1)) fun S3 h3=>.mk ⟨(h1.1.trans hs.1).trans h3.1,fun z=>?_⟩;have k1:=h3.1.e z;have k2:=hs.2 k1;have k3:=h1.2 (hs.1.e k1);have k4:=hs.1.lo;have k5:=h3.1.lo;have k6:=hs.1.hi;have k7:=h.tl.len;dsimp only at k4 k5 k6;rw [hl] at k6;exact ⟨by omega,by omega,k2.2⟩
theorem Uy {fu:Nat} {S:gP} {x:jI} (h:PS S) (h1:x.k=be) (h2:x.m=0):kP (zH fu S x) (fun r=>iA r fun S' x'=>Nx S S'/\(S'.e=0->S.a < S'.a/\∃ T L,x'=⟨x.c,x.f,x.n,x.b,T,L,x.g,x.d,x.j,x.i,x.a,x.e,x.h⟩/\(0 < L->T=be)/\L<=8)):=by
 obtain ⟨a1,a2,a3,a4,a5,a6,a7,a8,a9,a10,a11,a12,a13⟩:=x;dsimp only at h1 h2;subst h1 h2;unfold zH;refine .ite (fun c=>.mk ⟨Nx.rfl' h,fun z=>absurd z c⟩) fun c=>?_;refine .bd (BI h) fun b hb=>.ite (fun d=>?_) fun d=>?_
 · refine .bp (Bh h) fun n S1 hn=>.mk ⟨hn.1.1,fun z=>?_⟩;have:=hn.1.2 z;exact ⟨by omega,n,0,rfl,fun z=>by omega,by decide⟩
 have hs:=Nx.step h (hb (by simpa using d));have hP:=hs.ps h;have hw:wr (S.a+1)=S.a+1:=h.Oi;have hlo:=h.lo;refine .bd (BI hP) fun b hb=>.ite (fun d=>?_) fun d=>?_
 · exact .mk ⟨hs,fun z=>⟨by dsimp only;omega,be,0,rfl,fun _=>rfl,by decide⟩⟩
 have hs2:=Nx.step hP (hb (by simpa using d));dsimp only at hs2;have hP2:=hs2.ps hP;have hw2:wr (wr (S.a+1)+1)=S.a+2:=by have:=hP.Oi;dsimp only at this;rw [this];omega
 refine .bd (BN hP2) fun b hb=>.ite (fun d=>?_) fun d=>?_
 · refine .bd (BP hP2 (by decide)) fun S1 hS1=>.mk ⟨(hs.trans hs2).trans hS1.1,fun z=>absurd z hS1.2.1⟩
 obtain ⟨tk,htk,_,_,hb⟩:=hb;have hb:=hb (by simpa using d) (by decide);refine .bd (.ix hP2.lo hP2.hi) fun e he=>?_;have hJ:kP (xI fu e) (pJ (fun s=>s=false->e.d<=8) (fun _=>False)):=by unfold xI;exact .ite (fun _=>.go fun z=>by cases z) fun _=>.go fun z=>by have:=of_decide_eq_false z;omega
 refine .el hJ (fun s hs8=>?_) fun _ z=>z.elim;refine .ite (fun _=>?_) fun c8=>?_
 · refine .bd (BP hP2 (by decide)) fun S1 hS1=>.mk ⟨(hs.trans hs2).trans hS1.1,fun z=>absurd z hS1.2.1⟩
 have hs3:=Nx.step hP2 hb;refine .bd (sV (hs3.ps hP2)) fun S1 hS1=>.mk ⟨((hs.trans hs2).trans hs3).trans hS1.1,fun z=>⟨?_,be,e.d,rfl,fun _=>rfl,hs8 (by simpa using c8)⟩⟩;have k1:=hS1.1.lo;have k2:=hP2.Oi;dsimp only at k1 k2;rw [k2,hw2] at k1;omega
theorem Eu {fu:Nat} {S:gP} {x:jI} {call:Bool} (h:PS S) (hf:S.l.length+105<=fu):kP (rH fu S x call) (fun r=>iA r fun S' x'=>Nx S S'/\(S'.e=0->S.a < S'.a/\∃ f a,x'=⟨x.c,x.f,x.n,x.b,x.k,x.m,x.g,x.d,f,x.i,a,x.e,x.h⟩/\(a.length<=5000/\∀ y ∈ a,yx S.l.length y)/\(f=x.j\/call=true)/\(call=true->tH fu S=some true->f≠be)/\(f=be->a≠[]))):=by
 unfold rH;have hJ:kP (wV fu S x call) (pJ (fun _=>S.e=0->call=true->tH fu S=some true->False) (fun r=>iA r fun S' x'=>Nx S S'/\(S'.e=0->S.a < S'.a/\∃ f a,x'=⟨x.c,x.f,x.n,x.b,x.k,x.m,x.g,x.d,f,x.i,a,x.e,x.h⟩/\(a.length<=5000/\∀ y ∈ a,yx S.l.length y)/\(f=x.j\/call=true)/\(call=true->tH fu S=some true->f≠be)/\(f=be->a≠[])))):=by
  unfold wV;refine .ite (fun c=>?_) fun c=>.go fun z=>absurd z c;refine .ite (fun c2=>?_) fun c2=>.go fun _ z=>absurd z c2;refine kP.Rm (Q6 h) fun b hb _=>.ite (fun d=>?_) fun d=>.go fun _ _ z=>by rw [hb] at z;exact d (Option.some.inj z)
  refine .bp (Bh h) fun n S1 h1=>?_;have hS1:=h1.1.1.ps h;have hl:=h1.1.1.l;refine .bp (Xw hS1 (by rw [hl];omega)) fun a S2 h2=>.out ⟨h1.1.1.trans h2.1,fun z=>?_⟩;obtain ⟨k1,k2,k3⟩:=h2.2 z;rw [hl] at k3;have k4:=h1.1.1.lo;exact ⟨by omega,n,a,rfl,⟨k2,k3⟩,.inr c2,fun _ _=>h1.2.1 (h2.1.e z),fun q=>absurd q (h1.2.1 (h2.1.e z))⟩
 refine .eo hJ fun _ hs=>?_;refine .bp ((wX fu).1 _ 1 0 h (by decide) (by decide) (by decide) (by decide) (by omega)) fun y S1 hy=>.mk ⟨hy.1,fun z=>?_⟩;exact ⟨(hy.2 z).1,x.j,[y],rfl,len1 (hy.ok h z) (by decide),.inl rfl,fun c d=>(hs (hy.1.e z) c d).elim,fun _ q=>(by cases q)⟩
def TP (N n:Nat) (S:gP) (x:jI) (S':gP):Prop:=Nx S S'/\(S'.e=0->S.a < S'.a/\Di N n x)
theorem Rc {fu n:Nat} {S:gP} {ln:Int} (h:PS S) (hf:S.l.length+105<=fu):kP (xA fu S ⟨0,ln,0,be,be,0,0,[],be,0,[],[],[]⟩) (fun r=>iA r fun S' x=>TP S.l.length (n+1) S x S'):=by
 unfold xA;refine kP.Rm (Q6 h) fun b hb _=>.ite (fun d=>?_) fun d=>?_
 · subst d;refine .bp (Eu h hf) fun S1 x h1=>.mk ⟨h1.1,fun z=>?_⟩;obtain ⟨k1,f,a,rfl,k2,k3,k4,k6⟩:=h1.2 z;have k5:=k4 rfl hb;refine ⟨k1,nA,k2,nA,nA,⟨fun z=>(by cases z),fun _=>⟨k5,fun y hy=>(by cases hy)⟩,fun _=>⟨.inl rfl,rfl,rfl⟩,fun z=>absurd z (Int.lt_irrefl 0),(by dsimp only;decide),fun z=>(by cases z),fun z=>absurd z k5,fun z=>(by cases z),(by dsimp only;decide),fun y hy=>(by cases hy)⟩⟩
 refine .bp ((wX fu).2.2 S 0 h (by decide) (by decide) (by omega)) fun y S1 h1=>?_;have hS1:=h1.1.1.ps h;refine .bd (sV hS1) fun S2 h2=>?_;have hl:S2.l=S.l:=h2.1.l.trans h1.1.1.l;refine .bp (Eu (h2.1.ps hS1) (by rw [hl];exact hf)) fun S3 x h3=>?_;have k:=(h1.1.1.trans h2.1).trans h3.1;have hy:S3.e=0->[y].length<=1/\∀ q ∈ [y],yx S.l.length q:=fun z=>len1 (h1.1.ok h (h2.1.e (h3.1.e z))) (Nat.le_refl 1);have ht:∀ q ∈ [y],1<=q.e/\q.e<=3:=fun q hq=>by simp only [List.mem_cons,List.not_mem_nil,or_false] at hq;subst hq;exact ⟨h1.2.1,h1.2.2⟩
 have hat:S3.e=0->S.a < S3.a:=fun z=>by have:=(h1.1.2 (h2.1.e (h3.1.e z))).1;have:=h2.1.lo;have:=h3.1.lo;omega
 refine .ite (fun c=>.mk ⟨k,fun z=>?_⟩) fun c=>.mk ⟨k,fun z=>?_⟩
 · obtain ⟨k1,f,a,rfl,k2,k3,k4,k6⟩:=h3.2 z;rw [hl] at k2;dsimp only at c;refine ⟨hat z,hy z,k2,nA,nA,⟨fun z=>(by cases z),fun z=>(by cases z),fun z=>absurd c z,fun z=>absurd z (Int.lt_irrefl 0),(by dsimp only;decide),fun z=>(by cases z),fun z _ _ _=>k6 z,fun _ z=>(by cases z),(by dsimp only;decide),ht⟩⟩
 · obtain ⟨k1,f,a,rfl,k2,k3,k4,k6⟩:=h3.2 z;rw [hl] at k2;dsimp only at c;refine ⟨hat z,hy z,k2,nA,nA,⟨fun z=>(by cases z),fun _=>⟨c,ht⟩,fun _=>⟨.inl rfl,rfl,rfl⟩,fun z=>absurd z (Int.lt_irrefl 0),(by dsimp only;decide),fun z=>(by cases z),fun z=>absurd z c,fun z=>(by cases z),(by dsimp only;decide),ht⟩⟩
def XH (f:gP->Int->Option ((List jI) × Int × gP)) (fu:Nat):Prop:=∀ S nest,PS S->1<=nest->nest<=9->S.l.length+110+2 * (10 - nest)+1<=(fu:Int)->kP (f S nest) (fun r=>iA r fun l r=>iA r fun _ S'=>(Nx S S'/\(S'.e=0->S.a < S'.a/\l.length<=5000/\∀ y ∈ l,Di S.l.length (11 - nest).toNat y))/\l.length<=5000)
def Vl (f:gP->Int->Option (jI × gP)) (fu:Nat):Prop:=∀ S nest,PS S->1<=nest->nest<=8->S.l.length+110+2 * (10 - nest)<=(fu:Int)->kP (f S nest) (fun r=>iA r fun x S'=>TP S.l.length (11 - nest).toNat S x S')
section
variable {fu:Nat} {f:gP->Int->Option ((List jI) × Int × gP)} {g:gP->Int->Option (jI × gP)}
theorem BJ (hg:Vl g fu) {nest:Int} (h1:1≤nest) (h2:nest≤9) {S0:gP} (h0:PS S0) (hf:S0.l.length+110+2 * (10 - nest)+1≤(fu:Int)+1) {O:(List jI) × Int × gP→Prop}:∀ (n:Nat) (out:List jI) (S:gP),Nx S0 S→(S.e=0→S0.l.length+1≤n+S.a)→1≤n→(S.e=0→(out.length:Int)≤S.a∧∀ y ∈ out,Di S0.l.length (11 - nest).toNat y)→out.length≤5000→
  kP (qm fu f g nest n out S.l S.a S.c S.e) (pJ (fun r=>iA r fun o r=>iA r fun a r=>iA r fun b r=>iA r fun c d=>(Nx S0 ⟨a,b,c,d⟩/\(d=0->(o.length:Int)<=b/\∀ y ∈ o,Di S0.l.length (11 - nest).toNat y))/\o.length<=5000) O)
 | 0,out,S,h,hn,hn1,ho,hq=>by omega
 | n+1,out,S,h,hn,_,ho,hq=>by
  have hS:=h.ps h0;have hlen:=h0.tl.len;have hi:=h.hi;have hlo:=hS.lo;rw [qm];refine .ite (fun c=>?_) (fun c=>.go ⟨⟨h,ho⟩,hq⟩);have hn:=hn c;refine .bd (BI hS) fun b hb=>.ite (fun d=>?_) (fun d=>.go ⟨⟨h,ho⟩,hq⟩);refine .bd (SH hS) fun b hb=>.ite (fun d=>?_) (fun d=>.ite (fun d2=>?_) fun d2=>?_)
  · exact .bd (BP hS (by decide)) fun S1 k=>BJ hg h1 h2 h0 hf n out S1 (h.trans k.1) (fun z=>absurd z k.2.1) (by omega) (fun z=>absurd z k.2.1) hq
  · exact .bd (BP hS (by decide)) fun S1 k=>BJ hg h1 h2 h0 hf n out S1 (h.trans k.1) (fun z=>absurd z k.2.1) (by omega) (fun z=>absurd z k.2.1) hq
  · refine .bp (hg _ nest hS h1 (by omega) (by dsimp only;rw [h.l];omega)) fun x S1 hx=>?_;have ho:=ho c;refine .bd (.app (by simp only [List.length_cons,List.length_nil];omega)) fun r hr=>?_;refine BJ hg h1 h2 h0 hf n r S1 (h.trans hx.1) (fun z=>?_) (by omega) (fun z=>?_) ?_
    · have:=(hx.2 z).1;dsimp only at this;omega
    · have k1:=(hx.2 z).1;have k2:=(hx.2 z).2;dsimp only at k1 k2;rw [h.l] at k2;subst hr;refine ⟨by simp only [List.length_append,List.length_cons,List.length_nil];omega,fun y hy=>?_⟩;rcases List.mem_append.1 hy with hy | hy
      · exact ho.2 y hy
      · simp only [List.mem_cons,List.not_mem_nil,or_false] at hy;subst hy;exact k2
    · subst hr;simp only [List.length_append,List.length_cons,List.length_nil];omega
theorem Vo (hg:Vl g fu):XH (zy fu f g) (fu+1):=by
 intro S nest h h1 h2 hf;unfold zy;refine .bd (sV h) fun S1 hS1=>?_;have hP:=hS1.1.ps h;have hlo:=h.lo;have hlo1:=hS1.1.lo;have hi1:=hS1.1.hi;refine .el (BJ (O:=fun _=>False) hg h1 h2 h (by omega) fu [] S1 hS1.1 (fun _=>by omega) (by omega) (fun _=>⟨by simp only [List.length_nil];omega,fun y hy=>by cases hy⟩) (Nat.zero_le _)) (fun s hs=>?_) fun _ z=>z.elim;refine .pp hs fun o r hs=>.pp hs fun a r hs=>.pp hs fun b r hs=>.pp hs fun c d hs=>?_;obtain ⟨hs,hq⟩:=hs;have hP2:=hs.1.ps h;have hJ:kP (xU fu f g a b d) (pJ (fun _=>True) (fun _=>False)):=by unfold xU;exact .ite (fun _=>.bd (.ix hP2.lo hP2.hi) fun _ _=>.go trivial) fun _=>.go trivial
 refine .el hJ (fun ln _=>?_) fun _ z=>z.elim;refine .bd (sV hP2) fun S3 h3=>.mk ⟨⟨hs.1.trans h3.1,fun z=>?_⟩,hq⟩;have k0:=h3.1.e z;have k1:=h3.2 z;have k2:=hs.1.lo;have k3:=hs.2 k0;have k4:=hs.1.hi;have k5:=h.tl.len;dsimp only at k1 k2 k3 k4;exact ⟨by omega,by omega,k3.2⟩
theorem Nv (hf:XH f fu):Vl (uj fu f g) (fu+1):=by
 intro S nest h h1 h2 hfu;have hlo:=h.lo;unfold uj;refine .bd (.ix h.lo h.hi) fun e he=>?_;have hJ:kP (tT fu f g S e) (pJ (fun r=>iA r fun w a=>Nx S ⟨S.l,a,S.c,S.e⟩) (fun _=>False)):=by unfold tT;refine .bd (BN h) fun b hb=>.ite (fun d=>.go ?_) fun d=>.go (Nx.rfl' h);obtain ⟨_,_,_,_,hb⟩:=hb;exact Nx.step h (hb d (by decide))
 refine .el hJ (fun s hs=>.pp hs fun w a hs=>?_) fun _ z=>z.elim;have hP:=hs.ps h;have ha:S.a<=a:=hs.lo;have hN:(11 - nest).toNat=(10 - nest).toNat+1:=by omega
 have hn:wr (nest+1)=nest+1:=lZ (by omega) (by omega);have hd:(11 - (nest+1)).toNat=(10 - nest).toNat:=by omega
 rw [hN,hn];have blk:∀ S1,Nx S S1->kP (f S1 (nest+1)) (fun r=>iA r fun l r=>iA r fun _ S'=>Nx S1 S'/\(S'.e=0->S1.a < S'.a/\l.length<=5000/\∀ y ∈ l,Di S.l.length (10 - nest).toNat y)):=fun S1 k=>by have:=hf S1 (nest+1) (k.ps h) (by omega) (by omega) (by rw [k.l];omega);rw [k.l,hd] at this;refine this.imp fun v hv=>?_;obtain ⟨l,b,S2⟩:=v;exact hv.1
 have expr:∀ S1,Nx S S1->kP (mq fu S1 1 0) (fun r=>iA r fun x S'=>Nx S1 S'/\(S'.e=0->S1.a < S'.a/\yx S.l.length x)):=fun S1 k=>by
   refine ((wX fu).1 S1 1 0 (k.ps h) (by decide) (by decide) (by decide) (by decide) (by rw [k.l];omega)).imp fun v hv=>?_;obtain ⟨x,S2⟩:=v;refine ⟨hv.1,fun z=>⟨(hv.2 z).1,?_⟩⟩;have:=EP.ok (k.ps h) hv z
   rwa [k.l] at this
 have e1:(0:Int) < 0->be=be:=fun _=>rfl;have e2:be≠be->∀ {p:Prop},p:=fun z=>absurd rfl z;refine .ite (fun c=>?_) fun c=>.ite (fun c=>?_) fun c=>.ite (fun c=>?_) fun c=>.ite (fun c=>?_) fun c=>.ite (fun c=>?_) fun c=>.ite (fun c=>?_) fun c=>.ite (fun c=>?_) fun c=>?_
 · -- var
   refine .bp (Bh hP) fun n S1 k1=>?_;have q1:=hs.trans k1.1.1;refine .bd (sV (q1.ps h)) fun S2 k2=>?_;have q2:=q1.trans k2.1;refine .bp (Uy (q2.ps h) rfl rfl) fun S3 x k3=>?_;have q3:=q2.trans k3.1;refine .bd (sV (q3.ps h)) fun S4 k4=>.mk ⟨q3.trans k4.1,fun z=>?_⟩;have z3:=k4.1.e z;obtain ⟨a1,T,L,rfl,a2,a8⟩:=k3.2 z3;have a3:=q2.lo;have a4:=k4.1.lo;exact ⟨by omega,nA,nA,nA,nA,⟨fun _=>⟨rfl,rfl,rfl,rfl,rfl⟩,fun z=>(by cases z),fun z=>absurd rfl z,a2,(by dsimp only;decide),fun z=>(by cases z),fun _ z=>absurd rfl z,fun z=>(by cases z),a8,fun y hy=>(by cases hy)⟩⟩
 · -- if
   refine .bp (expr _ hs) fun x S1 k1=>?_;have q1:=hs.trans k1.1;refine .bp (blk _ q1) fun l r k2=>.pp k2 fun ln S2 k2=>?_;have q2:=q1.trans k2.1;have fin:∀ S3 l2,Nx S2 S3->(S3.e=0->l2.length<=5000/\∀ y ∈ l2,Di S.l.length (10 - nest).toNat y)->TP S.l.length ((10 - nest).toNat+1) S ⟨4,e.f,0,be,be,0,0,[],be,0,[x],l,l2⟩ S3:=fun S3 l2 k3 k4=>⟨q2.trans k3,fun z=>by
    have z2:=k3.e z;have z1:=k2.1.e z2;have a1:=k1.2 z1;have a2:=k2.2 z2;have a3:=k3.lo;have a4:=hs.lo;dsimp only at a1 a4;exact ⟨by omega,nA,len1 a1.2 (by decide),a2.2,k4 z,⟨fun z=>(by cases z),fun z=>(by cases z),fun z=>absurd rfl z,e1,(by dsimp only;decide),fun z=>(by cases z),fun _ _ _ _ z=>(by cases z),fun z=>(by cases z),(by dsimp only;decide),fun y hy=>(by cases hy)⟩⟩⟩
   have P2:=q2.ps h;refine .ite (fun d=>?_) fun d=>.mk (fin S2 [] (Nx.rfl' P2) fun _=>nA);refine .bd (BI P2) fun b hb=>.ite (fun d2=>?_) fun d2=>.mk (fin S2 [] (Nx.rfl' P2) fun _=>nA);have ks:=Nx.step P2 (hb d2);exact .bp (blk _ (q2.trans ks)) fun l2 r k3=>.pp k3 fun ln S3 k3=>.mk (fin S3 l2 (ks.trans k3.1) fun z=>(k3.2 z).2)
 · -- while
   refine .bp (expr _ hs) fun x S1 k1=>?_;have q1:=hs.trans k1.1;refine .bp (blk _ q1) fun l r k2=>.pp k2 fun ln S2 k2=>.mk ⟨q1.trans k2.1,fun z=>?_⟩;have z1:=k2.1.e z;have a1:=k1.2 z1;have a2:=k2.2 z;have a4:=hs.lo;dsimp only at a1 a4;exact ⟨by omega,nA,len1 a1.2 (by decide),a2.2,nA,⟨fun z=>(by cases z),fun z=>(by cases z),fun z=>absurd rfl z,e1,(by dsimp only;decide),fun z=>(by cases z),fun _ _ _ _ z=>(by cases z),fun z=>(by cases z),(by dsimp only;decide),fun y hy=>(by cases hy)⟩⟩
 · -- try
   refine .bp (blk _ hs) fun l r k2=>.pp k2 fun ln S2 k2=>?_;have q2:=hs.trans k2.1;refine .bd (sV (q2.ps h)) fun S3 k3=>?_;have q3:=q2.trans k3.1;refine .bp (Bh (q3.ps h)) fun n S4 k4=>?_;have q4:=q3.trans k4.1.1;refine .bp (blk _ q4) fun l2 r k5=>.pp k5 fun ln S5 k5=>.mk ⟨q4.trans k5.1,fun z=>?_⟩;have z2:=k3.1.e (k4.1.1.e (k5.1.e z));have a2:=k2.2 z2;have a3:=k5.2 z;have a4:=hs.lo;have a5:=k3.1.lo;have a6:=k4.1.1.lo;dsimp only at a2 a4;exact ⟨by omega,nA,nA,a2.2,a3.2,⟨fun z=>(by cases z),fun z=>(by cases z),fun z=>absurd rfl z,e1,(by dsimp only;decide),fun z=>(by cases z),fun _ _ z=>absurd rfl z,fun z=>(by cases z),(by dsimp only;decide),fun y hy=>(by cases hy)⟩⟩
 · -- return
   refine .bp (Eu hP (by dsimp only;omega)) fun S1 x k1=>?_;have q1:=hs.trans k1.1;refine .bd (sV (q1.ps h)) fun S2 k2=>.mk ⟨q1.trans k2.1,fun z=>?_⟩;obtain ⟨a1,f',a',rfl,a2,a3,a4,a8⟩:=k1.2 (k2.1.e z);have a5:=k2.1.lo;have a6:=hs.lo;dsimp only at a1 a6;exact ⟨by omega,nA,a2,nA,nA,⟨fun z=>(by cases z),fun z=>(by cases z),fun _=>⟨.inr rfl,rfl,rfl⟩,e1,(by dsimp only;decide),fun _=>rfl,fun z _ _ _=>a8 z,fun z=>(by cases z),(by dsimp only;decide),fun y hy=>(by cases hy)⟩⟩
 · -- throw
   refine .bp (Eu hP (by dsimp only;omega)) fun S1 x k1=>?_;have q1:=hs.trans k1.1;refine .bd (sV (q1.ps h)) fun S2 k2=>.mk ⟨q1.trans k2.1,fun z=>?_⟩;obtain ⟨a1,f',a',rfl,a2,a3,a4,a8⟩:=k1.2 (k2.1.e z);have a5:=k2.1.lo;have a6:=hs.lo;dsimp only at a1 a6;have a7:f'=be:=a3.elim id fun q=>(by cases q);subst a7;exact ⟨by omega,nA,a2,nA,nA,⟨fun z=>(by cases z),fun z=>(by cases z),fun z=>absurd rfl z,e1,(by dsimp only;decide),fun z=>(by cases z),fun z _ _ _=>a8 z,fun z=>(by cases z),(by dsimp only;decide),fun y hy=>(by cases hy)⟩⟩
 · -- print
   refine .bp (Eu hP (by dsimp only;omega)) fun S1 x k1=>?_;have q1:=hs.trans k1.1;refine .bd (sV (q1.ps h)) fun S2 k2=>.mk ⟨q1.trans k2.1,fun z=>?_⟩;obtain ⟨a1,f',a',rfl,a2,a3,a4,a8⟩:=k1.2 (k2.1.e z);have a5:=k2.1.lo;have a6:=hs.lo;dsimp only at a1 a6;have a7:f'=be:=a3.elim id fun q=>(by cases q);subst a7;exact ⟨by omega,nA,a2,nA,nA,⟨fun z=>(by cases z),fun z=>(by cases z),fun z=>absurd rfl z,e1,(by dsimp only;decide),fun z=>(by cases z),fun z _ _ _=>a8 z,fun z=>(by cases z),(by dsimp only;decide),fun y hy=>(by cases hy)⟩⟩
 · -- an assignment or a call
   refine .bp (Rc (n:=(10 - nest).toNat) hP (by dsimp only;omega)) fun S1 x k1=>?_;have q1:=hs.trans k1.1;refine .bd (sV (q1.ps h)) fun S2 k2=>.mk ⟨q1.trans k2.1,fun z=>?_⟩;have a1:=k1.2 (k2.1.e z);have a5:=k2.1.lo;have a6:=hs.lo;dsimp only at a1 a6;exact ⟨by omega,a1.2⟩
end
theorem G9:∀ fu:Nat,XH (wR fu) fu∧Vl (wC fu) fu
 | 0=>by refine ⟨fun S a h _ _ hb=>?_,fun S b h _ _ hb=>?_⟩;all_goals have:=h.hi;have:=h.lo;omega
 | fu+1=>⟨Vo (G9 fu).2,Nv (G9 fu).1⟩
end Go.Proofs.YtfglbdkfnphjgaaGreat
