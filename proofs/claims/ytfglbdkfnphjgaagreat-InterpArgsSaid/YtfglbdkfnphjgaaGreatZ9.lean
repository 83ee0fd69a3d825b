/- The scanner answers for any text, and the whole parser. -/
import Derived.Test.YtfglbdkfnphjgaaGreatZ8
set_option linter.unusedVariables false
set_option linter.unusedSimpArgs false
namespace Go.Proofs.YtfglbdkfnphjgaaGreat
open Go.RowKit Go.Fw Go.Proofs.Tryz
theorem GK {fu:Nat} {c:Int}:kP (rT fu c) (fun _=>True):=by
 unfold rT
 repeat' (first | exact .mk trivial | refine .ite (fun _=>?_) fun _=>?_)
theorem KZ {fu:Nat} {c:Int}:kP (uV fu c) (fun _=>True):=by
 unfold uV
 repeat' (first | exact .mk trivial | refine .ite (fun _=>?_) fun _=>?_)
theorem Dm {fu:Nat} {s:ByteArray}:∀ (l:List ByteArray) (k:Nat),kP (oQ fu s l k) (pJ (fun _=>True) (fun _=>True))
 | [],_=>.go trivial
 | u :: r,k=>by rw [oQ];exact .ite (fun _=>.out trivial) fun _=>Dm r (k+1)
theorem Oo {fu:Nat} {s:ByteArray}:kP (uU fu s) (fun _=>True):=by unfold uU;exact .eo (Dm _ 0) fun _ _=>.mk trivial
theorem JG {fu:Nat} {s:ByteArray} {at_:Int} (h0:0≤at_) (h1:at_+2≤s.size) (h2:s.size≤4000):∀ (l:List ByteArray) (k:Nat),(∀ u ∈ l,u.size=2)→kP (rX fu s at_ l k) (pJ (fun _=>True) (fun r=>r.size=2))
 | [],_,_=>.go trivial
 | u :: r,k,hl=>by rw [rX];have hw:wr (at_+2)=at_+2:=lZ (by omega) (by omega);rw [hw];refine .bd (.R3 (by omega)) fun g hg=>.ite (fun _=>.out (hl u (.head _))) fun _=>JG h0 h1 h2 r (k+1) fun u hu=>hl u (.tail _ hu)
theorem JO {fu:Nat} {s:ByteArray} {at_:Int} (h0:0≤at_) (h1:at_ < s.size) (h2:s.size≤4000):∀ (l:List EU) (k:Nat),kP (sG fu s at_ l k) (pJ (fun _=>True) (fun r=>r.size=1))
 | [],_=>.go trivial
 | u :: r,k=>by rw [sG];have hw:wr (at_+1)=at_+1:=lZ (by omega) (by omega);rw [hw];refine .bd (.ixs h0 h1) fun c hc=>.ite (fun _=>?_) fun _=>JO h0 h1 h2 r (k+1);refine .bd (.R3 (by omega)) fun g hg=>.out ?_;subst hg;rw [ByteArray.size_extract];omega
theorem Ya {fu:Nat} {s:ByteArray} {at_:Int} (h0:0<=at_) (h1:at_ < s.size) (h2:s.size<=4000):kP (Aq fu s at_) (fun r=>r≠(⟨#[]⟩:ByteArray)->1<=r.size/\at_+r.size<=s.size):=by
 unfold Aq;have hw:wr (at_+1)=at_+1:=lZ (by omega) (by omega);have hJ:kP (yX fu s at_) (pJ (fun _=>True) (fun r=>r.size=2/\at_+2<=s.size)):=by unfold yX;rw [hw];refine .ite (fun c=>?_) fun _=>.go trivial;refine .el (JG h0 (by omega) h2 _ 0 ?_) (fun _ _=>.go trivial) fun o ho=>.out ⟨ho,by omega⟩;decide
 refine .el hJ (fun _ _=>?_) fun o ho=>.mk fun _=>by omega
 exact .el (JO h0 h1 h2 _ 0) (fun _ _=>.mk fun z=>absurd rfl z) fun o ho=>.mk fun _=>by omega
theorem Jw {fu:Nat} {s:ByteArray} (h2:s.size≤4000) {O:Int × Int→Prop}:∀ (n:Nat) (at_:Int),0≤at_→at_≤s.size→s.size+1≤n+at_→kP (su fu s n at_) (pJ (fun a=>at_≤a∧a≤s.size) O)
 | 0,a,h0,h1,hn=>by omega
 | n+1,a,h0,h1,hn=>by
  rw [su];refine .ite (fun c=>?_) fun c=>.go ⟨Int.le_refl _,h1⟩;have hw:wr (a+1)=a+1:=lZ (by omega) (by omega);rw [hw];refine .bd (.ixs h0 c) fun x hx=>.ite (fun _=>?_) fun _=>.go ⟨Int.le_refl _,h1⟩;refine (Jw (O:=O) h2 n (a+1) (by omega) (by omega) (by omega)).imp fun v hv=>?_;obtain v | v:=v
  · exact ⟨by have:=hv.1;omega,hv.2⟩
  · exact hv
theorem JE {fu:Nat} {s:ByteArray} (h2:s.size≤4000) (hf:4001≤fu):∀ (n:Nat) (at_ line:Int),0≤at_→at_≤s.size→s.size+1≤n+at_→kP (pX fu s n at_ line) (pJ (fun r=>iA r fun a _=>at_≤a∧a≤s.size) (fun r=>iA r fun a _=>at_≤a∧a≤s.size))
 | 0,a,ln,h0,h1,hn=>by omega
 | n+1,a,ln,h0,h1,hn=>by
  rw [pX];refine .ite (fun c=>?_) fun c=>.go ⟨Int.le_refl _,h1⟩;have hw:wr (a+1)=a+1:=lZ (by omega) (by omega);refine kP.Rm (.ixs h0 c) fun x hx0 hx=>?_;have hJ:kP (y8 fu s a x) (pJ (fun b=>b=true->x=47) (fun _=>False)):=by unfold y8;rw [hw];refine .ite (fun c=>?_) fun c=>.go fun z=>(by cases z);exact .ite (fun c2=>.bd (.ixs (by omega) c2) fun y _=>.go fun _=>c) fun _=>.go fun z=>(by cases z)
  have up:∀ (b l2:Int),a < b->b<=s.size->kP (pX fu s n b l2) (pJ (fun r=>iA r fun a' _=>a<=a'/\a'<=s.size) (fun r=>iA r fun a' _=>a<=a'/\a'<=s.size)):=fun b l2 k1 k2=>by
    refine (JE h2 hf n b l2 (by omega) k2 (by omega)).imp fun v hv=>?_;obtain v | v:=v
    all_goals
     obtain ⟨p,q⟩:=v;exact ⟨by have:=hv.1;omega,hv.2⟩
  refine .el hJ (fun b hb=>?_) fun _ z=>z.elim;refine .ite (fun d=>?_) fun d=>?_
  · -- the comment's first byte is no end of a line
    obtain ⟨fu',rfl⟩:∃ k,fu=k+1:=⟨fu - 1,by omega⟩;have hx47:=hb d;rw [su,if_pos c,hx0];show kP (Option.bind (if x≠10 then _ else _) _) _;rw [if_pos (by omega),hw];exact .Dh (Jw h2 fu' (a+1) (by omega) (by omega) (by omega)) fun b hb=>up b ln (by omega) hb.2
  · have hJ3:kP (yV fu a ln x) (pJ (fun _=>True) (fun r=>iA r fun a' _=>a<=a'/\a'<=s.size)):=by
     unfold yV
     repeat' (first | exact .go trivial | exact .out ⟨Int.le_refl _,h1⟩ | refine .ite (fun _=>?_) fun _=>?_)
    refine .Dh hJ3 fun _ _=>?_;rw [hw];exact .ite (fun _=>up _ _ (by omega) (by omega)) fun _=>up _ _ (by omega) (by omega)
theorem Tt {fu:Nat} {s:ByteArray} {at_ line:Int} (h2:s.size<=4000) (hf:4001<=fu) (h0:0<=at_) (h1:at_<=s.size):kP (yJ fu s at_ line) (fun r=>iA r fun a _=>at_<=a/\a<=s.size):=by unfold yJ;exact .eo (JE h2 hf fu at_ line h0 h1 (by omega)) fun r hs=>.pp hs fun a b hs=>.mk hs
theorem Q7 {fu:Nat} {s:ByteArray} {a:Int} (h0:0<=a):kP (vE fu s a) (pJ (fun b=>b=true->a < s.size) (fun _=>False)):=by unfold vE;refine .ite (fun c=>?_) fun c=>.go fun z=>(by cases z);refine .bd (.ixs h0 c) fun x hx=>.bd GK fun b _=>.ite (fun _=>.go fun _=>c) fun _=>?_;exact .bd (.ixs h0 c) fun x hx=>.bd KZ fun b _=>.go fun _=>c
theorem Ms {fu:Nat} {s:ByteArray} (h2:s.size≤4000) {O:kT × Int × Int→Prop}:∀ (n:Nat) (a:Int),0≤a→a≤s.size→s.size+1≤n+a→kP (qG fu s n a) (pJ (fun b=>a≤b∧b≤s.size) O)
 | 0,a,h0,h1,hn=>by omega
 | n+1,a,h0,h1,hn=>by
  rw [qG];refine .el (Q7 h0) (fun b hb=>?_) fun _ z=>z.elim;refine .ite (fun c=>?_) fun c=>.go ⟨Int.le_refl _,h1⟩;have:=hb c;have hw:wr (a+1)=a+1:=lZ (by omega) (by omega);rw [hw];refine (Ms (O:=O) h2 n (a+1) (by omega) (by omega) (by omega)).imp fun v hv=>?_;obtain v | v:=v
  · exact ⟨by have:=hv.1;omega,hv.2⟩
  · exact hv
theorem MC {fu:Nat} {s:ByteArray} {at_:Int} (h2:s.size≤4000) (h3:0≤at_) {O:kT × Int × Int→Prop}:∀ (n:Nat) (a m:Int),at_≤a→a≤s.size→s.size+1≤n+a→kP (oL fu s at_ n a m) (pJ (fun r=>iA r fun b _=>a≤b∧b≤s.size) O)
 | 0,a,m,h0,h1,hn=>by omega
 | n+1,a,m,h0,h1,hn=>by
  rw [oL];refine .ite (fun c=>?_) fun c=>.go ⟨Int.le_refl _,h1⟩;refine .bd (.ixs (by omega) c) fun x hx=>.bd KZ fun b _=>.ite (fun _=>?_) fun c=>.go ⟨Int.le_refl _,h1⟩;have hw:wr (a+1)=a+1:=lZ (by omega) (by omega);rw [hw];have up:∀ m2:Int,kP (oL fu s at_ n (a+1) m2) (pJ (fun r=>iA r fun b _=>a<=b/\b<=s.size) O):=fun m2=>by
   refine (MC (O:=O) h2 h3 n (a+1) m2 (by omega) (by omega) (by omega)).imp fun v hv=>?_;obtain v | v:=v
   · obtain ⟨p,q⟩:=v;exact ⟨by have:=hv.1;omega,hv.2⟩
   · exact hv
  exact .ite (fun _=>.bd (.ixs (by omega) c) fun _ _=>up _) fun _=>up _
theorem aaO {fu:Nat} {s:ByteArray} {at_ line:Int} (h2:s.size<=4000) (hf:4001<=fu) (h0:0<=at_) (h1:at_ < s.size):kP (Bt fu s at_ line) (fun r=>iA r fun t r=>iA r fun nx e=>e=0->at_ < nx/\nx<=s.size/\(t.c=1->t.a≠(⟨#[]⟩:ByteArray))):=by
 unfold Bt;have bad:∀ (t:kT) (n e:Int),e≠0->kP (some (t,n,e)) (fun r=>iA r fun t r=>iA r fun nx e=>e=0->at_ < nx/\nx<=s.size/\(t.c=1->t.a≠(⟨#[]⟩:ByteArray))):=fun t n e he=>.mk fun z=>absurd z he;obtain ⟨fu',rfl⟩:∃ k,fu=k+1:=⟨fu - 1,by omega⟩;have hw:wr (at_+1)=at_+1:=lZ (by omega) (by omega);refine kP.Rm (.ixs h0 h1) fun x hx0 hx=>kP.Rm GK fun b hb _=>.ite (fun c=>?_) fun c=>?_
 · have hL:kP (qG (fu'+1) s (fu'+1) at_) (pJ (fun b=>at_ < b/\b<=s.size) (fun _=>False)):=by
    rw [qG];have hJ:vE (fu'+1) s at_=some (.go true):=by unfold vE;rw [if_pos h1,hx0];show Option.bind (rT (fu'+1) x) _=_;rw [hb,c];rfl
    rw [hJ];show kP (if true=true then qG (fu'+1) s fu' (wr (at_+1)) else some (.go at_)) _;rw [if_pos rfl,hw];refine (Ms (O:=fun _=>False) h2 fu' (at_+1) (by omega) (by omega) (by omega)).imp fun v hv=>?_;obtain v | v:=v
    · exact ⟨by have:=hv.1;omega,hv.2⟩
    · exact hv
   refine .el hL (fun a ha=>?_) fun _ z=>z.elim;refine .ite (fun _=>bad _ _ _ (by decide)) fun _=>?_;refine .bd (.R3 (by omega)) fun g hg=>.bd Oo fun b _=>?_;refine .ite (fun _=>.mk fun _=>⟨ha.1,ha.2,fun z=>(by cases z)⟩) fun _=>.mk fun _=>⟨ha.1,ha.2,fun _ z=>?_⟩;have z2:=congrArg ByteArray.size z;dsimp only at z2;rw [hg,ByteArray.size_extract] at z2;have z3:(⟨#[]⟩:ByteArray).size=0:=rfl;omega
 refine kP.Rm (.ixs h0 h1) fun x2 hx2 _=>kP.Rm KZ fun b2 hb2 _=>.ite (fun c2=>?_) fun c2=>?_
 · have hL:kP (oL (fu'+1) s at_ (fu'+1) at_ 0) (pJ (fun r=>iA r fun b _=>at_ < b/\b<=s.size) (fun _=>False)):=by
    rw [oL,if_pos h1,hx2,Option.bind_some,hb2,Option.bind_some,if_pos c2,hw];have up:∀ m2:Int,kP (oL (fu'+1) s at_ fu' (at_+1) m2) (pJ (fun r=>iA r fun b _=>at_ < b/\b<=s.size) (fun _=>False)):=fun m2=>by
      refine (MC (O:=fun _=>False) h2 h0 fu' (at_+1) m2 (by omega) (by omega) (by omega)).imp fun v hv=>?_;obtain v | v:=v
      · obtain ⟨p,q⟩:=v;exact ⟨by have:=hv.1;omega,hv.2⟩
      · exact hv
    exact .ite (fun _=>up _) fun _=>up _
   refine .el hL (fun r hs=>.pp hs fun a m ha=>?_) fun _ z=>z.elim;refine .ite (fun _=>bad _ _ _ (by decide)) fun _=>?_;have hJ:kP (zS (fu'+1) s a) (pJ (fun _=>True) (fun r=>iA r fun t r=>iA r fun nx e=>e≠0)):=by unfold zS;refine .ite (fun c=>?_) fun _=>.go trivial;exact .bd (.ixs (by omega) c) fun _ _=>.bd GK fun _ _=>.ite (fun _=>.out (show (6:Int)≠0 by decide)) fun _=>.go trivial
   refine .el hJ (fun _ _=>.mk fun _=>⟨ha.1,ha.2,fun z=>(by cases z)⟩) fun o ho=>.mk ?_;obtain ⟨t,n,e⟩:=o;exact fun z=>absurd z ho
 refine .bd (Ya h0 h1 h2) fun g hg=>.ite (fun _=>bad _ _ _ (by decide)) fun c3=>.mk fun _=>?_;have:=hg c3;have hw2:wr (at_+((g.size:Nat):Int))=at_+g.size:=lZ (by omega) (by omega);rw [hw2];exact ⟨by omega,by omega,fun z=>(by cases z)⟩
def Nm (l:List kT):Prop:=∀ (k:Nat) (t:kT),l[k]?=some t->t.c=1->t.a≠(⟨#[]⟩:ByteArray)
theorem Nm.app {l:List kT} (h:Nm l) {t:kT} (ht:t.c=1->t.a≠(⟨#[]⟩:ByteArray)):Nm (l ++ [t]):=fun k t' hk=>by
 rw [List.getElem?_append] at hk;split at hk
 · exact h k t' hk
 · have:k - l.length=0:=by have:=jW hk;simp only [List.length_cons,List.length_nil] at this;omega
   rw [this] at hk;obtain rfl:=Option.some.inj hk;exact ht
theorem Js {fu:Nat} {s:ByteArray} (h2:s.size≤4000) (hf:4001≤fu):∀ (n:Nat) (a line:Int) (l:List kT),0≤a→a≤s.size→s.size+1≤n+a→l.length≤2000→Nm l→kP (uq fu s n a line l) (pJ (fun r=>iA r fun _ r=>iA r fun _ l=>l.length≤2000∧Nm l) (fun r=>iA r fun _ r=>iA r fun _ e=>e≠0))
 | 0,a,ln,l,h0,h1,hn,hl,hm=>by omega
 | n+1,a,ln,l,h0,h1,hn,hl,hm=>by
  rw [uq];refine .ite (fun c=>?_) fun c=>.go ⟨hl,hm⟩;refine .bp (aaO h2 hf h0 c) fun t r ht=>.pp ht fun nx e ht=>?_;have hJ:kP (yZ fu l e) (pJ (fun e'=>e'=0->e=0/\l.length < 2000) (fun _=>False)):=by unfold yZ;refine .ite (fun c=>?_) fun c=>.go fun z=>absurd z c;exact .ite (fun c=>.go fun z=>(by cases z)) fun c2=>.go fun _=>⟨c,by omega⟩
  refine .el hJ (fun e' he=>?_) fun _ z=>z.elim;refine .ite (fun d=>.out d) fun d=>?_;have he:=he (by omega);have ht:=ht he.1;refine .bd (.app (by simp only [List.length_cons,List.length_nil];omega)) fun r hr=>?_;refine .bp (Tt h2 hf (by omega) ht.2.1) fun a2 ln2 ha=>?_;subst hr;exact Js h2 hf n a2 ln2 _ (by omega) ha.2 (by omega) (by simp only [List.length_append,List.length_cons,List.length_nil];omega) (hm.app ht.2.2)
theorem Yf {fu:Nat} {s:ByteArray} (hf:4001<=fu):kP (AJ fu s) (fun r=>iA r fun l r=>iA r fun _ e=>e=0->TL l/\1<=l.length/\l.length<=2001):=by
 unfold AJ;refine .ite (fun c=>.mk fun z=>(by cases z)) fun c=>?_;have h2:s.size<=4000:=by omega
 refine .bp (Tt h2 hf (Int.le_refl _) (by omega)) fun a ln ha=>?_;refine .el (Js h2 hf fu a ln [] ha.1 ha.2 (by omega) (by decide) fun k t hk=>(by cases hk)) (fun r hs=>.pp hs fun _ r hs=>.pp hs fun b l hs=>?_) fun o ho=>?_
 · refine .bd (.app (by simp only [List.length_cons,List.length_nil];omega)) fun r hr=>.mk fun _=>?_;subst hr;refine ⟨⟨by simp only [List.length_append,List.length_cons,List.length_nil];omega,fun k t hk ht=>?_,hs.2.app fun z=>(by cases z)⟩,by simp only [List.length_append,List.length_cons,List.length_nil];omega,by simp only [List.length_append,List.length_cons,List.length_nil];omega⟩;simp only [List.length_append,List.length_cons,List.length_nil] at hk;obtain rfl:k=l.length:=by omega
   rw [List.getElem?_append_right (Nat.le_refl _),Nat.sub_self] at ht;obtain rfl:=Option.some.inj ht;rfl
 · obtain ⟨l,b,e⟩:=o;exact .mk fun z=>absurd z ho
structure WB (N:Nat) (f:kY):Prop where
 d:f.a.length<=5000
 body:f.e.length<=5001
 el:∀ y ∈ f.e,Di N 10 y
 en:∃ l e,f.e=l ++ [e]/\e.c=10
structure Tv (N:Nat) (p:jU):Prop where
 recs:p.a.length<=5000
 fields:∀ r ∈ p.a,r.a.length<=5000
 e:p.b.length<=5000
 el:∀ f ∈ p.b,WB N f
theorem Di.Tn {E F:Nat} (h:E≤F):∀ {n:Nat} {x:jI},Di E n x→Di F n x
 | 0,_,k=>k.elim
 | n+1,x,k=>⟨⟨k.1.1,fun y hy=>(k.1.2 y hy).mono h⟩,⟨k.2.1.1,fun y hy=>(k.2.1.2 y hy).mono h⟩,⟨k.2.2.1.1,fun y hy=>Di.Tn h (k.2.2.1.2 y hy)⟩,⟨k.2.2.2.1.1,fun y hy=>Di.Tn h (k.2.2.2.1.2 y hy)⟩,k.2.2.2.2⟩
theorem Tv.mono {E F:Nat} {p:jU} (k:Tv E p) (h:E<=F):Tv F p:=⟨k.recs,k.fields,k.e,fun f hf=>⟨(k.el f hf).d,(k.el f hf).body,fun y hy=>((k.el f hf).el y hy).Tn h,(k.el f hf).en⟩⟩
theorem og {α:Type} {p:α->Prop} {l:List α} {x:α} (h:∀ y ∈ l,p y) (hx:p x):∀ y ∈ l ++ [x],p y:=fun y hy=>by
 rcases List.mem_append.1 hy with hy | hy
 · exact h y hy
 · simp only [List.mem_cons,List.not_mem_nil,or_false] at hy;subst hy;exact hx
theorem kL {α:Type} {l:List α} {x:α}:(l ++ [x]).length=l.length+1:=by simp only [List.length_append,List.length_cons,List.length_nil]
theorem Ev {fu:Nat} {S0:gP} (h0:PS S0) (hf:S0.l.length+200≤fu) {O:jU × gP→Prop}:∀ (n:Nat) (out:List kE) (S:gP),Nx S0 S→(S.e=0→S0.l.length+1≤n+S.a)→1≤n→(S.e=0→(out.length:Int)≤S.a∧∀ r ∈ out,r.a.length≤5000)→
  kP (qV fu n out S.l S.a S.c S.e) (pJ (fun r=>iA r fun o r=>iA r fun a r=>iA r fun b r=>iA r fun c d=>Nx S0 ⟨a,b,c,d⟩/\(d=0->(o.length:Int)<=b/\∀ r ∈ o,r.a.length<=5000)) O)
 | 0,out,S,h,hn,hn1,ho=>by omega
 | n+1,out,S,h,hn,_,ho=>by have hS:=h.ps h0;have hlen:=h0.tl.len;have hi:=h.hi;have hlo:=hS.lo;rw [qV];refine .ite (fun c=>?_) (fun c=>.go ⟨h,ho⟩);have hn:=hn c;have ho:=ho c;refine .bd (BI hS) fun b hb=>.ite (fun d=>?_) (fun d=>.go ⟨h,fun _=>ho⟩);have q0:=h.trans (Nx.step hS (hb d));have hw:wr (S.a+1)=S.a+1:=hS.Oi;refine .bp (Bh (q0.ps h0)) fun nm S1 k1=>?_;have q1:=q0.trans k1.1.1;refine .bd (sV (q1.ps h0)) fun S2 k2=>?_;have q2:=q1.trans k2.1;refine .bp (Pj (q2.ps h0) (by rw [q2.l];omega)) fun fs S3 k3=>?_;have q3:=q2.trans k3.1;refine .bd (sV (q3.ps h0)) fun S4 k4=>?_;have q4:=q3.trans k4.1;refine .bd (.app (by simp only [List.length_cons,List.length_nil];omega)) fun r hr=>?_;have a0:=k1.1.1.lo;have a1:=k2.1.lo;have a2:=k3.1.lo;have a3:=k4.1.lo;have a4:=q4.hi;dsimp only at a0;rw [hw] at a0;subst hr;refine Ev h0 hf n _ S4 q4 (fun z=>by omega) (by omega) fun z=>?_;have a5:=k3.2 (k4.1.e z);exact ⟨by rw [kL];omega,og ho.2 a5.1⟩
theorem Ei {fu:Nat} {S0:gP} (h0:PS S0) (hf:S0.l.length+200≤fu) {O:jU × gP→Prop}:∀ (n:Nat) (out:List kY) (S:gP),Nx S0 S→(S.e=0→S0.l.length+1≤n+S.a)→1≤n→(S.e=0→(out.length:Int)≤S.a∧∀ f ∈ out,WB S0.l.length f)→
  kP (qR fu n out S.l S.a S.c S.e) (pJ (fun r=>iA r fun o r=>iA r fun a r=>iA r fun b r=>iA r fun c d=>(Nx S0 ⟨a,b,c,d⟩/\(d=0->(o.length:Int)<=b/\∀ f ∈ o,WB S0.l.length f))/\(d=0->S.e=0)) O)
 | 0,out,S,h,hn,hn1,ho=>by omega
 | n+1,out,S,h,hn,_,ho=>by
  have hS:=h.ps h0;have hlen:=h0.tl.len;have hi:=h.hi;have hlo:=hS.lo;rw [qR];refine .ite (fun c=>?_) (fun c=>.go ⟨⟨h,ho⟩,id⟩);have hn:=hn c;have ho:=ho c;refine .bd (BI hS) fun b hb=>.ite (fun d=>?_) (fun d=>.go ⟨⟨h,fun _=>ho⟩,id⟩);refine .bd (.ix hS.lo hS.hi) fun e he=>?_;have q0:=h.trans (Nx.step hS (hb d));have hw:wr (S.a+1)=S.a+1:=hS.Oi;refine .bp (Bh (q0.ps h0)) fun nm S1 k1=>?_;have q1:=q0.trans k1.1.1;refine .bd (sV (q1.ps h0)) fun S2 k2=>?_;have q2:=q1.trans k2.1;have P2:=q2.ps h0;have hJ:kP (vG fu S2) (pJ (fun r=>iA r fun o r=>iA r fun a r=>iA r fun b r=>iA r fun c d=>Nx S2 ⟨a,b,c,d⟩/\(d=0->o.length<=5000)) (fun _=>False)):=by unfold vG;refine .ite (fun c=>?_) fun c=>.go ⟨Nx.rfl' P2,fun _=>Nat.zero_le _⟩;refine .bd (BI P2) fun b hb=>.ite (fun d=>?_) fun d=>.go ⟨Nx.rfl' P2,fun _=>Nat.zero_le _⟩;exact .bp (Pj P2 (by rw [q2.l];omega)) fun l S3 k3=>.go ⟨k3.1,fun z=>(k3.2 z).1⟩
  refine .el hJ (fun s hs=>?_) fun _ z=>z.elim;refine .pp hs fun ps r hs=>.pp hs fun x1 r hs=>.pp hs fun x2 r hs=>.pp hs fun x3 x4 hs=>?_;have q3:=q2.trans hs.1;refine .bd (sV (q3.ps h0)) fun S4 k4=>?_;have q4:=q3.trans k4.1;refine .bp ((G9 fu).1 S4 1 (q4.ps h0) (by decide) (by decide) (by rw [q4.l];omega)) fun l r k5=>.pp k5 fun ln S5 k5=>?_;obtain ⟨k5,hq⟩:=k5;have q5:=q4.trans k5.1;have a0:=k1.1.1.lo;have a1:=k2.1.lo;have a2:=hs.1.lo;have a3:=k4.1.lo;have a4:=k5.1.lo;have a5:=q5.hi;dsimp only at a0 a2 a3;rw [hw] at a0;refine .bd (.app (by simp only [List.length_cons,List.length_nil];omega)) fun bd hbd=>?_;refine .bd (.app (by simp only [List.length_cons,List.length_nil];omega)) fun r hr=>?_;subst hr hbd;refine (Ei (O:=O) h0 hf n _ S5 q5 (fun z=>by omega) (by omega) fun z=>?_).imp fun v hv=>?_;rotate_left
  · obtain v | v:=v
    · obtain ⟨o,a,b,c',d⟩:=v;exact ⟨hv.1,fun _=>c⟩
    · exact hv
  have z4:=k5.1.e z;have a6:=k5.2 z;rw [q4.l] at a6;refine ⟨by rw [kL];omega,og ho.2 ⟨hs.2 (k4.1.e z4),by rw [kL];omega,og a6.2.2 ?_,⟨_,_,rfl,rfl⟩⟩⟩;exact ⟨nA,nA,nA,nA,⟨fun z=>(by cases z),fun z=>(by cases z),fun z=>absurd rfl z,fun _=>rfl,(by dsimp only;decide),fun z=>(by cases z),fun _ _ _ z=>absurd rfl z,fun z=>(by cases z),(by dsimp only;decide),fun y hy=>(by cases hy)⟩⟩
theorem Qh {fu:Nat} {S:gP} (h:PS S) (hf:S.l.length+200<=fu):kP (vZ fu S) (fun r=>iA r fun p S'=>(S'.e=0->Tv S.l.length p)):=by unfold vZ;have hlo:=h.lo;refine .el (Ev (O:=fun _=>False) h hf fu [] S (Nx.rfl' h) (fun _=>by omega) (by omega) fun _=>⟨hlo,fun r hr=>(by cases hr)⟩) (fun s hs=>?_) fun _ z=>z.elim;refine .pp hs fun rs r hs=>.pp hs fun a r hs=>.pp hs fun b r hs=>.pp hs fun c d hs=>?_;have P1:=hs.1.ps h;have b0:=P1.lo;have b1:=hs.1.hi;dsimp only at b0 b1;refine .el (Ei (O:=fun _=>False) h hf fu [] ⟨a,b,c,d⟩ hs.1 (fun _=>by dsimp only;omega) (by omega) fun _=>⟨b0,fun r hr=>(by cases hr)⟩) (fun s hs2=>?_) fun _ z=>z.elim;refine .pp hs2 fun fs r hs2=>.pp hs2 fun a2 r hs2=>.pp hs2 fun b2 r hs2=>.pp hs2 fun c2 d2 hs2=>?_;obtain ⟨hs2,hd⟩:=hs2;have P2:=hs2.1.ps h;have hlen:=h.tl.len;have b3:=hs2.1.hi;dsimp only at b3;refine .ite (fun z=>?_) fun z=>.mk fun y=>absurd y z;have r1:=hs.2 (hd z);have r2:=hs2.2 z;have ok:Tv S.l.length ⟨rs,fs⟩:=⟨by dsimp only;omega,r1.2,by dsimp only;omega,r2.2⟩;refine .bd (BN P2) fun b hb=>.ite (fun _=>?_) fun _=>.mk fun _=>ok;exact .bd (BP P2 (by decide)) fun S3 h3=>.mk fun y=>absurd y h3.2.1
theorem Vk {fu:Nat} {s:ByteArray} (hf:5300<=fu):kP (wQ fu s) (fun r=>iA r fun p r=>iA r fun _ e=>e=0->Tv 5000 p):=by unfold wQ;refine .bp (Yf (by omega)) fun l r hl=>.pp hl fun ln e hl=>?_;refine .ite (fun c=>.mk fun z=>absurd z c) fun c=>?_;obtain ⟨h1,h2,h3⟩:=hl (by omega);refine .bp (Qh (S:=⟨l,0,0,0⟩) ⟨h1,Int.le_refl _,by dsimp only;omega⟩ (by dsimp only;omega)) fun p S hp=>?_;refine .ite (fun c=>.mk fun z=>absurd z c) fun c=>.mk fun _=>?_;have:=hp (by omega);dsimp only at this;exact this.mono (by omega)
end Go.Proofs.YtfglbdkfnphjgaaGreat
