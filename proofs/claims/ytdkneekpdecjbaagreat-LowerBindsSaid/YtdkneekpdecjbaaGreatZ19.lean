/- What is bound at a Mark, in the mirror of the lowering: statements, functions. -/
import Derived.Test.YtdkneekpdecjbaaGreatZ18
import Derived.Test.YtdkneekpdecjbaaGreatZ5
import Derived.Test.YtdkneekpdecjbaaGreatLa
set_option linter.unusedVariables false
set_option maxRecDepth 4000
namespace Go.Proofs.YtdkneekpdecjbaaGreat
open Go.RowKit Go.Fw Go.Proofs.Tryz
inductive Sb (V:List gP):List Int→List jA→Prop
 | nil {O:List Int}:Sb V O []
 | cons {O:List Int} {x:jA} {l:List jA} (vi:um x.n V 0=O) (a:∀ y ∈ x.a,XO y) (t:∀ y ∈ x.e,XO y) (ca:x.b=8->∀ v,ix? V x.f=some v->v.a=1) (bo:Sb V O x.d) (el:Sb V (if x.b=8 then O ++ [x.f] else O) x.h) (nx:Sb V (if x.b=1 then O ++ [x.f] else O) l):Sb V O (x :: l)
section
variable {vis:Int->Int->Option (List Int)}{vars:List (List gP)}{V:List gP}{f:Int}{F:List (Nat × List Int)}{a:Int}{O:List Int}{fu:Nat}
abbrev Af (V:List gP)(f:Int)(F:List (Nat × List Int))(O:List Int)(s:Lw):Prop:=WG V f F s/\(s.opn=true->Cv V O s)
theorem ad4 {α:Type}{P:Lw->Prop}{c:LM α}(h:Ho P c fun _ s=>WG V f F s/\s.opn=false):Ho P c fun _ s=>Af V f F O s:=h.mono (fun _=>id) fun _ s q=>⟨q.1,fun c=>by rw [q.2] at c;cases c⟩
theorem TG {α:Type}{P:Lw->Prop}{c:LM α}(hv:um a V 0=O)(h:Ho P c fun _=>Wa V f a F):Ho P c fun _ s=>Af V f F O s:=h.mono (fun _=>id) fun _ s q=>⟨q.w,fun _=>by rw [<-hv];exact q.cv⟩
def KsB (V:List gP)(f:Int)(st:jA->LM Unit):Prop:=∀ F x O l,Sb V O (x :: l)->Ho (fun s=>WG V f F s/\Cv V O s) (st x) fun _ s=>Af V f F (if x.b=1 then O ++ [x.f] else O) s
theorem EI {st:jA→LM Unit}(hs:KsB V f st):∀ {l:List jA}{O:List Int},Sb V O l→Ho (Af V f F O) (uy st l) fun _=>WG V f F
 | [],_,_=>Ih fun s h=>h.1
 | x :: l,O,h=>fun s u s' e hp=>by
  rw [uy] at e;dsimp only at e;split at e
  · rename_i ho;have k:=hs F x O l h;cases h with
    | cons vi a t ca bo el nx=>
    exact hb (P:=fun s=>WG V f F s/\Cv V O s) (R:=fun _=>WG V f F) k (fun _=>EI hs nx) _ _ _ e ⟨hp.1,hp.2 ho⟩
  · cases e;exact hp.1
theorem Kr {i:Nat}:Ho (fun s=>WG V f ((i,O) :: F) s/\s.opn=false) (xP i) fun _ s=>Af V f F O s:=fun s u s' e h=>by
 obtain ⟨t,_,e⟩:=bs e;split at e
 · have q:=Ed _ _ _ e h.1;exact ⟨q.1,fun _=>q.2⟩
 · cases e;exact ⟨h.1.tl,fun c=>by rw [h.2] at c;cases c⟩
theorem afh {o:qm}{s s':Lw}{v:Int}(ho:o.b≠21)(hm:o.b≠19)(h:WG V f F s)(e:JI o s=some (.ok v s')):WG V f F s'/\s'.vals=s.vals:=by refine hb (P:=fun t=>t={ s with next:=wr (s.next+1) }) (Q:=fun _ t=>WG V f F t/\t.vals=s.vals) (R:=fun v t=>WG V f F t/\t.vals=s.vals) (c:=lop [{ o with e:=s.next }]) (f:=fun _=>oD s.next) (fun t u t' et ht=>?_) (fun _=>Ih fun t ht=>ht) _ _ _ e rfl;subst ht;have q:=gop (o:={ o with e:=s.next }) ho h (fun c=>absurd c hm) et;exact ⟨q.1,q.2.1⟩
theorem Qw {α β:Type}{c:LM α}{k:α->LM β}{s s':Lw}{b:β}(e:c.bind k s=some (.ok b s')):∃ x s1,c s=some (.ok x s1)/\k x s1=some (.ok b s'):=by
 unfold LM.bind at e;obtain ⟨q,hq,e⟩:=bs e;cases q with
 | lim=>cases e
 | rt=>cases e
 | ok x s1=>exact ⟨x,s1,hq,e⟩
theorem Ua {v:Int}:∀ {n:Nat}{i:Int}{s s':Lw}{u:Unit}{l:List (Pc × Int)},WG V f F s→s.vals=some l→EA v n i s=some (.ok u s')→WG V f F s'∧∃ l',s'.vals=some l'∧(∀ p,has l p→has l' p)∧∀ j:Nat,j < n→has l' (v,i+j)
 | 0,i,s,s',u,l,h,hv,e=>by cases e;exact ⟨h,l,hv,fun _=>id,fun j hj=>by omega⟩
 | n+1,i,s,s',u,l,h,hv,e=>by
  rw [EA] at e;obtain ⟨c,s1,hq,e⟩:=Qw e;obtain ⟨w1,w2⟩:=afh (by simp) (by simp) h hq;obtain ⟨c2,s2,hq,e⟩:=Qw e;obtain ⟨z1,_,_,l2,z2,z3⟩:=Uc w1 hq;rw [w2,hv] at z2;cases z2;obtain ⟨y1,l',y2,y3,y4⟩:=Ua z1 z3 e;refine ⟨y1,l',y2,fun p hp=>y3 p (JN hp),fun j hj=>?_⟩;cases j with
  | zero=>rw [show i+((0:Nat):Int)=i by omega];exact y3 _ KI
  | succ j=>
   have:=y4 j (by omega);rw [show i+1+(j:Int)=i+((j+1:Nat):Int) by omega] at this;exact this
theorem UQ (hS:Sv vis vars V f){x:jA}(hv:um a V 0=O):Ho (Wa V f a F) (AZ vars x) fun _ s=>Af V f F (O ++ [x.f]) s:=fun s u s' e h=>by
 unfold AZ NJ at e;split at e
 · cases e
 rename_i i hi;rw [h.w.ow.ff,hS.va] at hi;have hi:ix? V x.f=some i:=hi;dsimp only at e;split at e
 · rename_i hk;have q:=WK (fun n=>a_op (a:=a) (V:=V) (f:=f) (o:=⟨17,0,0,0,n,0,0,0,wD⟩) (by simp) (by simp) F) _ _ _ e h;refine ⟨q.w,fun _=>?_⟩;obtain ⟨l,c1,c2⟩:=q.cv;refine ⟨l,c1,fun v hvm y hy hy3=>?_⟩;rcases pX.1 hvm with hvm | hvm
   · exact c2 v (by rw [hv];exact hvm) y hy hy3
   · rw [List.mem_singleton.1 hvm,hi] at hy;cases hy;exact absurd hk hy3
 · split at e
   · cases e
   obtain ⟨l,c1,c2⟩:=h.cv;obtain ⟨y1,l',y2,y3,y4⟩:=Ua h.w c1 e;refine ⟨y1,fun _=>⟨l',y2,fun v hvm y hy hy3 j hj=>?_⟩⟩;rcases pX.1 hvm with hvm | hvm
   · exact y3 _ (c2 v (by rw [hv];exact hvm) y hy hy3 j hj)
   · rw [List.mem_singleton.1 hvm] at hy ⊢;rw [hi] at hy;cases hy;have:=y4 j hj;rw [Int.zero_add] at this;exact this
variable {st:jA->LM Unit}
theorem XC (hS:Sv vis vars V f)(hs:KsB V f st){x:jA}(hx:x.n=a)(hv:um a V 0=O)(ha:∀ y ∈ x.a,XO y)(bo:Sb V O x.d)(el:Sb V O x.h):Ho (Wa V f a F) (CQ vis vars st fu x) fun _ s=>Af V f F O s:=by
 unfold CQ;refine hb (E5 fun y hy=>Fu hS (ha y hy) F) fun _=>hb (zW hS hx) fun body=>hb (zW hS hx) fun behind=>?_;rw [hv];by_cases c:x.h.length=0
 · simp only [lG c];refine hb (Q:=fun o s=>Wa V f a ((behind,O) :: (body,O) :: F) s/\o=behind) (Ih fun s q=>⟨q,rfl⟩) fun other=>?_;intro s u s' e hp;obtain ⟨hp,rfl⟩:=hp;refine (hb (zK _) fun _=>hb (zK _) fun _=>hb (Fj _) fun _=>hb (Q:=fun _ s=>Af V f ((other,O) :: F) O s) ((Ed (O:=O)).mono (fun s q=>q.w.perm (.swap ..)) fun _ s q=>⟨q.1,fun _=>q.2⟩) fun _=>hb (EI hs bo) fun _=>hb (I7 _) fun _=>hb (xD (Q:=fun _ s=>WG V f ((other,O) :: F) s/\s.opn=false) (fun _=>Ih fun s q=>q) fun d=>absurd rfl d) fun _=>Kr) s u s' e hp
 · simp only [lD c];refine hb (zW hS hx) fun other=>?_;rw [hv];exact hb (zK _) fun _=>hb (zK _) fun _=>hb (Fj _) fun _=>hb (Q:=fun _ s=>Af V f ((other,O) :: (behind,O) :: F) O s) ((Ed (O:=O)).mono (fun s q=>q.w.perm ((List.Perm.cons _ (.swap ..)).trans (.swap ..))) fun _ s q=>⟨q.1,fun _=>q.2⟩) fun _=>hb (EI hs bo) fun _=>hb (I7 _) fun _=>
    hb (Q:=fun _ s=>WG V f ((behind,O) :: F) s/\s.opn=false) (xD (fun _=>Ih fun s q=>⟨q.1.tl,q.2⟩) fun _=>hb (Q:=fun _ s=>Af V f ((behind,O) :: F) O s) ((Ed (O:=O)).mono (fun s q=>q.1) fun _ s q=>⟨q.1,fun _=>q.2⟩) fun _=>hb (EI hs el) fun _=>I7 _) fun _=>Kr
theorem ab6 (hS:Sv vis vars V f)(hs:KsB V f st){x:jA}(hx:x.n=a)(hv:um a V 0=O)(ha:∀ y ∈ x.a,XO y)(bo:Sb V O x.d):Ho (Wa V f a F) (Js vis vars st fu x) fun _ s=>Af V f F O s:=by unfold Js;refine hb (zW hS hx) fun head=>hb (zW hS hx) fun body=>hb (zW hS hx) fun behind=>?_;refine Ho.pre (P:=Wa V f a ((head,um a V 0) :: (body,um a V 0) :: (behind,um a V 0) :: F)) ?_ fun s q=>⟨q.w.perm ((List.Perm.swap _ _ _).trans ((List.Perm.cons _ (.swap ..)).trans (.swap ..))),q.st,q.cv⟩;refine hb (aa5 _) fun _=>hb JL fun _=>hb (SA _) fun _=>hb (E5 fun y hy=>Fu hS (ha y hy) _) fun _=>hb (zK _) fun _=>hb (zK _) fun _=>hb (Fj _) fun _=>?_;rw [hv];exact hb (Q:=fun _ s=>Af V f ((behind,O) :: F) O s) ((Ed (O:=O)).mono (fun s q=>q.w) fun _ s q=>⟨q.1,fun _=>q.2⟩) fun _=>hb (EI hs bo) fun _=>hb (I7 _) fun _=>(Ed (O:=O)).mono (fun s q=>q.1) fun _ s q=>⟨q.1,fun _=>q.2⟩
theorem ac0 (hS:Sv vis vars V f)(hs:KsB V f st){x:jA}(hx:x.n=a)(hv:um a V 0=O)(ca:∀ v,ix? V x.f=some v->v.a=1)(bo:Sb V O x.d)(el:Sb V (O ++ [x.f]) x.h):Ho (Wa V f a F) (Qc vis vars st x) fun _ s=>Af V f F O s:=by
 unfold Qc;refine hb (zW hS hx) fun h=>hb (zW hS hx) fun behind=>?_;rw [hv];refine hb (Q:=fun _ s=>Af V f ((h,O) :: (behind,O) :: F) O s) (fun s u s' e hp=>?_) fun _=>hb (EI hs bo) fun _=>hb (Q:=fun _=>WG V f ((h,O) :: (behind,O) :: F)) (fun s u s' e hp=>?_) fun _=>hb (I7 _) fun _ s u s' e hp=>?_
 · unfold Kv at e;split at e <;> cases e;exact ⟨(hp.w.perm (.swap ..)).same rfl rfl rfl rfl rfl rfl,fun _=>by rw [<-hv];exact hp.cv.same rfl⟩
 · unfold KL at e;split at e <;> cases e;exact hp.same rfl rfl rfl rfl rfl rfl
 · obtain ⟨t,_,e⟩:=bs e;refine hb (P:=fun s=>WG V f ((h,O) :: (behind,O) :: F) s/\s.opn=false) (Q:=fun _ s=>WG V f ((behind,O) :: F) s/\s.opn=false) (R:=fun _ s=>Af V f F O s) (xD (fun _=>hb ((Ed (O:=O)).mono (fun s q=>q.1) fun _ s q=>q) fun _=>hb (Q:=fun _ s=>Af V f ((behind,O) :: F) (O ++ [x.f]) s) (fun s u s' e hp=>?_) fun _=>hb (EI hs el) fun _=>I7 _) fun _=>Ih fun s q=>⟨q.1.tl,q.2⟩) (fun _=>Kr) _ _ _ e hp;obtain ⟨q1,q2,q3,l,q4,q5⟩:=Uc hp.1 e;obtain ⟨l2,c1,c2⟩:=hp.2;rw [q4] at c1;cases c1;refine ⟨q1,fun _=>⟨_,q5,fun v hvm y hy hy3 j hj=>?_⟩⟩;rcases pX.1 hvm with hvm | hvm
   · exact JN (c2 v hvm y hy hy3 j hj)
   · rw [List.mem_singleton.1 hvm] at hy ⊢;rw [ca y hy] at hj;obtain rfl:j=0:=by have:(1:Int).toNat=1:=rfl;omega
     exact KI
theorem Wl (hS:Sv vis vars V f):∀ fu,KsB V f (xY vis vars fu)
 | 0=>fun _ _ _ _ _ s u s' h=>by cases h
 | fu+1=>fun F x O l h s u s' e hp=>by
  have ih:=Wl hS fu;cases h with
  | cons vi ha ht ca bo el nx=>
  have key:Ho (Wa V f x.n F) (if x.b=5 then Js vis vars (xY vis vars fu) fu x
  else HV |>.bind fun _=>
   if x.b=1 then AZ vars x
   else if x.b=2 then yt x.e fun t=>yt x.a fun e=>Ea vis vars fu t e
   else if x.b=3 then EF vis vars fu x |>.bind fun _=>match x.e with
     | []=>oD ()
     | t :: _=>Bc (BG t) 0
   else if x.b=4 then CQ vis vars (xY vis vars fu) fu x
   else if x.b=6 then (if x.k≠be then EF vis vars fu x |>.bind fun _=>Ei 0 else yt x.a (lvalue vis vars fu) |>.bind Ei)
   else if x.b=7 then yt x.a (lvalue vis vars fu) |>.bind xR
   else if x.b=8 then Qc vis vars (xY vis vars fu) x
   else if x.b=9 then yt x.a (lvalue vis vars fu) |>.bind fun v=>lop [⟨18,0,v,0,0,0,0,0,wD⟩]
   else if x.b=10 then wY 0 |>.bind Ei
   else oD ()) fun _ s=>Af V f F (if x.b=1 then O ++ [x.f] else O) s:=by
   by_cases k1:x.b=1
   · rw [lD (by omega),lG k1,lG k1];exact hb (SA F) fun _=>UQ hS vi
   rw [lD k1,lD k1];have to:∀ {α:Type}{k:α->LM Unit}{c:LM α},Ho (Wa V f x.n F) c (fun _=>Wa V f x.n F)->(∀ v,Ke' V f (k v))->Ho (Wa V f x.n F) (c.bind k) fun _ s=>Af V f F O s:=fun h1 h2=>hb h1 fun v=>ad4 ((h2 v F).pre fun s q=>q.w);refine xD (fun _=>ab6 hS ih rfl vi ha bo) fun _=>hb (SA F) fun _=>xD (fun _=>TG vi (E5 fun t h1=>E5 fun e he=>VT hS (ht t h1) (ha e he) F)) fun _=>xD (fun _=>TG vi (hb (XA hS rfl ha F) fun _=>?_)) fun _=>
     xD (fun k4=>XC hS ih rfl vi ha bo (by rw [lD (by omega)] at el;exact el)) fun _=>xD (fun _=>xD (fun _=>to (XA hS rfl ha F) fun _=>R5) fun _=>to (E5 fun y hy=>Fu hS (ha y hy) F) fun _=>R5) fun _=>xD (fun _=>to (E5 fun y hy=>Fu hS (ha y hy) F) fun _=>Yr) fun _=>
     xD (fun k8=>ac0 hS ih rfl vi (ca k8) bo (by rw [lG k8] at el;exact el)) fun _=>xD (fun _=>TG vi (hb (E5 fun y hy=>Fu hS (ha y hy) F) fun _=>a_op (by simp) (by simp) F)) fun _=>xD (fun _=>to (D9 F) fun _=>R5) fun _=>TG vi (QA F)
   split
   · exact QA F
   · exact Wp F
  exact key _ _ _ e ⟨hp.1.same rfl rfl rfl rfl rfl rfl,rfl,by rw [vi];exact hp.2.same rfl⟩
end
set_option maxHeartbeats 12800000
set_option linter.unusedSimpArgs false
noncomputable section
def Ma (m:qm->qm->Option Bool):Prop:=∀ {c e}{a b:qm}{d},Pre c e [] []->m a b=some d-> Calls prog 32 #[.agg #[V a.b,V a.e,V a.A,V a.B,V a.N,V a.d,V a.f,V a.c,V a.a.b,V a.a.a,V a.a.c],.agg #[V b.b,V b.e,V b.A,V b.B,V b.N,V b.d,V b.f,V b.c,V b.a.b,V b.a.a,V b.a.c]] c (tV fun v w=>v=.bool d/\Bx c w e (mW []) [] [])
def wO (fu:Nat)(a b:qm):Option Bool:=if a.d≠b.d then some (decide (a.d < b.d)) else if a.f≠b.f then some (decide (a.f < b.f)) else some (decide (a.c < b.c))
theorem F5 (fu:Nat):Ma (wO fu):=by
 intro j v b c l h d;unfold wO at d;have a:=h.bx;clear h;generalize m:mW _=G at a ⊢;refine cf func32 r (lK [(0,.agg #[V b.b,V b.e,V b.A,V b.B,V b.N,V b.d,V b.f,V b.c,V b.a.b,V b.a.a,V b.a.c]),(1,.agg #[V c.b,V c.e,V c.A,V c.B,V c.N,V c.d,V c.f,V c.c,V c.a.b,V c.a.a,V c.a.c])] ⟨r,r,y⟩ fun w=>q (g (sW a (uZ r) fun o p a=>sW a (uZ r) fun t u a=>s (kH r) (n (q (q (g (s (TM r) (s (l3 r (a.bk 1 r) r) (s (TM r) (s (l3 r (a.bk 0 r) r) (s (sj r r) (n ?_)))))))))))));rcases iv d with ⟨e,d⟩|⟨e,d⟩
 ·refine jM (bt e) (q (g (s (TM r) (s (l3 r (a.bk 1 r) r) (s (TM r) (s (l3 r (a.bk 0 r) r) (s (qV r r) (s (kH r) (n (lX ?_))))))))));obtain rfl:=sm d;exact jN r (nH r) ⟨r,a.arr [] r⟩
 refine jD (bf e) (wk (q (q (g (s (Qj r) (s (l3 r (a.bk 1 r) r) (s (Qj r) (s (l3 r (a.bk 0 r) r) (s (sj r r) (n ?_))))))))));rcases iv d with ⟨f,d⟩|⟨f,d⟩
 ·refine jM (bt f) (q (g (s (Qj r) (s (l3 r (a.bk 1 r) r) (s (Qj r) (s (l3 r (a.bk 0 r) r) (s (qV r r) (s (kH r) (n (lX ?_))))))))));obtain rfl:=sm d;exact jN r (nH r) ⟨r,a.arr [] r⟩
 refine jD (bf f) (wk (q (g (s (Ws r) (s (l3 r (a.bk 1 r) r) (s (Ws r) (s (l3 r (a.bk 0 r) r) (s (qV r r) (s (kH r) (n (lX ?_)))))))))));obtain rfl:=sm d;exact jN r (nH r) ⟨r,a.arr [] r⟩
def KQ (m:(List qm)->Option (List qm)):Prop:=∀ {e i f a b h},Pre e i [] [.l a b f]->m f=some h-> Calls prog 17 #[Z a f b] e (tV fun v w=>∃ (c:OA)(d:Nat),v=Z c h d/\Bx e w i (mW []) [] [.l c d h])
def rG (fu:Nat)(b:List qm)(d:qm):Nat→Int→Option (Ld (Int) ((List qm)))
 | 0,_=>none
 | e+1,a=>
 if a < (b.length:Int) then
  (ix b a).bind fun f=>
  (wO fu f d).bind fun c=>
  if c=true then
   rG fu b d e (wr (a+1))
  else
   some (.go a)
 else
  some (.go a)
def zB (fu:Nat)(a:List qm)(c:Int)(b:Bool)(d:List qm):Option (Ld (List qm) (List qm)):=if (!b)=true then (sl a (wr (c+1)) (a.length:Int)).bind fun e=>some (.go e) else some (.go d)
def lV (fu:Nat):List qm→Nat→(List qm)→Option (Ld (List qm) ((List qm)))
 | [],_,a=>some (.go a)
 | e :: f,h,a=>
 if e.b≠21 then
  lV fu f (h+1) a
 else
  (rG fu a e fu 0).bind fun z=>z.el (fun b=>
  if b < (a.length:Int) then
   (ix a b).bind fun i=>
   (wO fu e i).bind fun c=>
   (sl a b (a.length:Int)).bind fun j=>
   (zB fu a b c j).bind fun z=>z.el (fun d=>
   (sl a 0 b).bind fun k=>
   (app ([]:List qm) k).bind fun l=>
   (app l ([e]:List qm)).bind fun m=>
   (app m d).bind fun p=>
   lV fu f (h+1) p
   ) (fun o=>some (.out o))
  else
   (sl a b (a.length:Int)).bind fun t=>
   (sl a 0 b).bind fun u=>
   (app ([]:List qm) u).bind fun v=>
   (app v ([e]:List qm)).bind fun w=>
   (app w t).bind fun x=>
   lV fu f (h+1) x
  ) (fun o=>some (.out o))
def xC (fu:Nat)(b:(List qm)):Option (List qm):=(lV fu b 0 ([]:List qm)).bind fun c=>c.el (fun a=>some a) (fun o=>some o)
theorem KD (fu:Nat):KQ (xC fu):=by
 intro w0 cQ x o p r0 hP hM;unfold xC at hM;have a:=hP.bx;clear hP;generalize hG:mW _=G at a ⊢;refine cf func17 r (lK [(0,Z o x p)] ⟨r,y⟩ fun cR=>q (g (s (nA r) (n (q (g ?_))))));replace a:=a.jX (d:=.l none 0 ([]:List qm)) o7;refine s (nA r) (n (q (q (g (s (oF r) (s (mV vE r) (s (mi r) (n ?_))))))));have c7:=(a.dl 1 r).bd;obtain ⟨Y2,k,hM⟩:=bs hM;refine qK (fun f w=>∃ m c e,Has f [(3,Z c m e)]/\Bx w0 w cQ G [] [.l c e m,.l o p x]/\Ld.go m=Y2) (fun J2 bE=>?_) ?_
 ·refine pW (kG (fun cS f w=>∃ K m c e,cS=x.length - K/\K<=x.length/\Has f [(11,V (K:Int)),(3,Z c m e),(9,Z o x p),(10,V (x.length:Int))]/\Bx w0 w cQ G [] [.l c e m,.l o p x]/\lV fu (x.drop K) K m=some Y2) x.length ⟨0,([]:List qm),none,0,r,uN _,⟨r,r,r,r,y⟩,a,k⟩ ?_);clear a k;rintro cS f w ⟨K,m,c,e,rfl,c8,hf,a,k⟩ K2 ay;obtain ⟨cR,rfl⟩:=lu _ _ hf;clear hf;rcases wz K x.length with aR | aR
  ·obtain ⟨b,az⟩:=mF (l:=x) aR;rw [l6 az,lV] at k;refine q (g (s (sD r r (by omega)) (n (q (jM r (wk (q (pW (q (g (s (kZ vE rZ r r r (a.dl 1 r) az) (s (OQ [V b.b,V b.e,V b.A,V b.B,V b.N,V b.d,V b.f,V b.c,V b.a.b,V b.a.a,V b.a.c] NS rZ r (a.dl 1 r) az) (sW a (jQ rZ) fun w3 b3 a=>lg (mQ a 0 [V b.b,V b.e,V b.A,V b.B,V b.N,V b.d,V b.f,V b.c,V b.a.b,V b.a.a,V b.a.c] r rZ r r) fun w4 a=>n (q (q (g (s (ZV r) (s (l3 r (a.bk 0 r) r) (s (sj r r) (n ?_))))))))))))))))))));rcases iv k with ⟨h5,k⟩|⟨h5,k⟩
   ·exact jM (bt h5) (uE (g (s (l7 r r (by omega) (by omega)) (s (mi r) (n (ay (x.length - (K+1)) _ _ (by omega) ⟨K+1,m,c,e,r,by omega,⟨r,r,r,r,y⟩,a.arr [] r,k⟩))))))
   refine jD (bf h5) (wk (q (g (s (xi r) (n (q ?_))))));obtain ⟨Y6,u,k⟩:=bs k;refine qK (fun f w=>∃ v,Has f [(3,Z c m e),(5,Pt b3),(6,V v),(9,Z o x p),(10,V (x.length:Int)),(11,V (K:Int))]/\Bx w0 w cQ G [.box b3 73 #[V b.b,V b.e,V b.A,V b.B,V b.N,V b.d,V b.f,V b.c,V b.a.b,V b.a.a,V b.a.c]] [.l c e m,.l o p x]/\Ld.go v=Y6) (fun J6 aS=>?_) ?_
   ·refine pW (kG (fun cS f w=>∃ v,Has f [(3,Z c m e),(5,Pt b3),(6,V v),(9,Z o x p),(10,V (x.length:Int)),(11,V (K:Int))]/\Bx w0 w cQ G [.box b3 73 #[V b.b,V b.e,V b.A,V b.B,V b.N,V b.d,V b.f,V b.c,V b.a.b,V b.a.a,V b.a.c]] [.l c e m,.l o p x]/\rG fu m b cS v=some Y6) fu ⟨0,⟨r,r,r,r,r,r,y⟩,a,u⟩ ?_);clear a u;rintro n6 f w ⟨v,hf,a,u⟩ K6 bH;obtain ⟨cR,rfl⟩:=lu _ _ hf;clear hf;cases n6 with
    | zero=>exact nn u
    | succ n6=>
     rw [rG] at u;refine q (q (qJ a [0] [0] [] (by kernel_rfl) ?_));replace a:=a.drew;have j:=a.dp [0];refine pF 0 r (mi r) j (pF 1 r (oF r) j (pF 2 r (mV vE r) j (pF 3 r (qV r r) j (pF 4 r (lJ r) j ?_))));rcases iv u with ⟨h7,u⟩|⟨h7,u⟩
     ·rw [IX h7];have j:=a.dp [0];refine pF 5 r (oF r) j (pF 6 r (mi r) j ?_);obtain ⟨E,ab,u⟩:=bs u;obtain ⟨k8,bJ,ab⟩:=kW ab;refine pF 7 r (kZ vE rZ r r bJ (a.dl 0 r) ab) j (uF 8 r (fun hS=>OQ [V E.b,V E.e,V E.A,V E.B,V E.N,V E.d,V E.f,V E.c,V E.a.b,V E.a.a,V E.a.c] NS rZ r (hS.dl 0 r) ab) j (uF 9 r (fun hS=>lI [V b.b,V b.e,V b.A,V b.B,V b.N,V b.d,V b.f,V b.c,V b.a.b,V b.a.a,V b.a.c] NS rZ r (hS.bk 0 r)) j ?_));obtain ⟨c1,h9,u⟩:=bs u;refine hO 10 (oc r r (ec ZP r) (F5 fu (a.pr [] [0] [] r) h9) ?_);rintro _ w9 ⟨rfl,hK⟩;replace a:=a.cn [] [0] hK;have j:=a.dp [0];refine ⟨sF j,pF 11 r (kT r r) j (hD ?_)⟩;rcases iv u with ⟨a0,u⟩|⟨a0,u⟩
      ·exact jM (cb a0) (wk (pW (g (s (mi r) (s (kP r r) (s (xi r) (n (bH n6 _ _ (Es _) ⟨wr (v+1),⟨r,r,r,r,r,r,y⟩,a,u⟩))))))))
      replace a0:=nt a0;exact jD (cb a0) (uE (aS _ _ ⟨v,⟨r,r,r,r,r,r,y⟩,a,sm u⟩))
     rw [Ja h7];have j:=a.dp [0];exact qc 5 r (by kernel_rfl) r (sF j) (qc 6 r (by kernel_rfl) r (sF j) (qc 7 r (by kernel_rfl) r (sF j) (qc 8 r (by kernel_rfl) r (sF j) (qc 9 r (by kernel_rfl) r (sF j) (qc 10 r (by kernel_rfl) r (sF j) (pF 11 r (kK r r) j (hD (jD r (uE (aS _ _ ⟨v,⟨r,r,r,r,r,r,y⟩,a,sm u⟩))))))))))
   clear a;rintro f w ⟨v,hf,a,bM⟩;obtain ⟨cR,rfl⟩:=lu _ _ hf;clear hf;subst bM;replace k:=gi k;refine q (qJ a [0] [0] [] (by kernel_rfl) ?_);replace a:=a.drew;have j:=a.dp [0];refine pF 0 r (mi r) j (pF 1 r (oF r) j (pF 2 r (mV vE r) j (pF 3 r (qV r r) j (pF 4 r (lJ r) j ?_))));rcases iv k with ⟨aA,k⟩|⟨aA,k⟩
   ·rw [IX aA];have j:=a.dp [0];refine uF 5 r (fun hS=>lI [V b.b,V b.e,V b.A,V b.B,V b.N,V b.d,V b.f,V b.c,V b.a.b,V b.a.a,V b.a.c] NS rZ r (hS.bk 0 r)) j (pF 6 r (oF r) j (pF 7 r (mi r) j ?_));obtain ⟨t,Y,k⟩:=bs k;obtain ⟨cc,aT,Y⟩:=kW Y;refine pF 8 r (kZ vE rZ r r aT (a.dl 0 r) Y) j (uF 9 r (fun hS=>OQ [V t.b,V t.e,V t.A,V t.B,V t.N,V t.d,V t.f,V t.c,V t.a.b,V t.a.a,V t.a.c] NS rZ r (hS.dl 0 r) Y) j ?_);obtain ⟨bN,bO,k⟩:=bs k;refine hO 10 (oc r r (ec ZP r) (F5 fu (a.pr [] [0] [] r) bO) ?_);rintro _ cd ⟨rfl,hK⟩;replace a:=a.cn [] [0] hK;have j:=a.dp [0];refine ⟨sF j,pF 11 r (Er r) j (pF 12 r (kT r r) j (pF 13 r (kH r) j (hD (q (g (s (oF r) (s (mi r) ?_)))))))⟩;obtain ⟨a1,aU,k⟩:=bs k;obtain ⟨L,bP,aV,c2,aB,aW,ai⟩:=wX aU;have aC:a1.length=bP - L:=by rw [<-ai,wI,Cy];omega
    obtain ⟨ac,aj⟩:∃ A,(if e=L then c else c.map (·.add (L * sz qm)))=A:=⟨_,rfl⟩;obtain ⟨ae,ak⟩:∃ C,(e - L)=C:=⟨_,rfl⟩;replace a:=a.jX (d:=.l ac ae a1) (by have cT:=(a.dl 0 r).part aB aW;rw [ai,aj,ak] at cT;exact cT);have aX:Value.slice (if e=L then c else c.map (·.add (L * sz qm))) (m.length - L) (e - L)=Value.slice ac a1.length ae:=by rw [aC,<-aj,<-ak];simp;try omega
    refine s (show Yl _ _ _ _ _ _ _ _ _ (.slice ac a1.length ae) from aX ▸ Ur L vE rZ r r aV (by omega)) (s (nA r) (n (q ?_)));obtain ⟨bQ,D,k⟩:=bs k;refine qK (fun f w=>∃ M Q R,Has f [(3,Z c m e),(5,Pt b3),(6,V v),(8,Z Q M R),(9,Z o x p),(10,V (x.length:Int)),(11,V (K:Int))]/\Bx w0 w cQ G [.box b3 73 #[V b.b,V b.e,V b.A,V b.B,V b.N,V b.d,V b.f,V b.c,V b.a.b,V b.a.a,V b.a.c]] [.l Q R M,.l c e m,.l o p x]/\Ld.go M=bQ) (fun ce al=>?_) ?_
    ·unfold zB at D;refine q (g (s (lJ r) (n ?_)));rcases iv D with ⟨a2,D⟩|⟨a2,D⟩
     ·refine jM (cb a2) (g (s (oF r) (s (mi r) (s (kP r r) ?_))));obtain ⟨a3,aY,D⟩:=bs D;obtain ⟨S,bR,aZ,c3,aD,b0,am⟩:=wX aY;have aE:a3.length=bR - S:=by rw [<-am,wI,Cy];omega
      obtain ⟨af,an⟩:∃ A,(if e=S then c else c.map (·.add (S * sz qm)))=A:=⟨_,rfl⟩;obtain ⟨ag,ao⟩:∃ C,(e - S)=C:=⟨_,rfl⟩;replace a:=a.jX (d:=.l af ag a3) (by have cT:=(a.dl 1 r).part aD b0;rw [am,an,ao] at cT;exact cT);have b1:Value.slice (if e=S then c else c.map (·.add (S * sz qm))) (m.length - S) (e - S)=Value.slice af a3.length ag:=by rw [aE,<-an,<-ao];simp;try omega
      exact s (show Yl _ _ _ _ _ _ _ _ _ (.slice af a3.length ag) from b1 ▸ Ur S vE rZ r r aZ (by omega)) (s (nA r) (n (al _ _ ⟨a3,af,ag,⟨r,r,r,r,r,r,r,y⟩,a.dp [0,2,3],sm D⟩)))
     replace a2:=nt a2;exact jD (cb a2) (wk (al _ _ ⟨a1,ac,ae,⟨r,r,r,r,r,r,r,y⟩,a,sm D⟩))
    clear a;rintro f w ⟨M,Q,R,hf,a,b2⟩;obtain ⟨cR,rfl⟩:=lu _ _ hf;clear hf;subst b2;replace k:=gi k;obtain ⟨aF,b4,k⟩:=bs k;obtain ⟨bS,b5,c4,b6,bT,ap,aq⟩:=wX b4;obtain rfl:bS=0:=by omega
    have aG:aF.length=b5:=by rw [<-aq,wI,Cy];omega
    obtain ⟨cg,a4,k⟩:=bs k;obtain ⟨ch,a5,k⟩:=bs k;obtain ⟨aH,a6,k⟩:=bs k;refine qK (fun f w=>∃ F H U,Has f [(3,Z F aH H),(9,Z o x p),(10,V (x.length:Int)),(11,V (K:Int))]/\Bx w0 w cQ G [O w0.heap.size F H 73 qm U] [.l o p x,.els U aH]) (fun Jd hJd=>?_) ?_
    ·refine qJ a [0] [] [] (by kernel_rfl) ?_;replace a:=a.drew;have j:=a.dp [];refine pF 1 r (oF r) j (pF 2 r (mi r) j ?_);replace a:=a.jX (d:=.l c e aF) (by have cT:=(a.dl 1 r).head ap;rw [aq] at cT;exact cT);refine tP 3 r (fun _=>show Yl _ _ _ _ _ _ _ _ _ (.slice c aF.length e) from (congrArg (fun z=>Value.slice c z e) aG).symm ▸ xU b5 vE rZ r r b6 (rE ap (a.dl 2 r).cap)) (sF j) (uF 5 r (fun hS=>lI [.int .i64 b.b,.int .i64 b.e,.int .i64 b.A,.int .i64 b.B,.int .i64 b.N,.int .i64 b.d,.int .i64 b.f,.int .i64 b.c,.int .i64 b.a.b,.int .i64 b.a.a,.int .i64 b.a.c] NS rZ r (hS.bk 0 r)) j (pF 8 r (oF r) j (mZ 0 [6] (by kernel_rfl) (jJ ?_ (jJ ?_ l5)))))
     ·refine oo r r (jL a [] ([]:List qm) Hz r r (by decide) y) ?_;rintro _ ci ⟨cj,rfl,a⟩;have j:=a.ad [1] [];refine ⟨sF j,mZ 4 [6] (by kernel_rfl) (jJ ?_ (jJ ?_ l5))⟩
      ·refine oo r r (ku a 0 0 r r vE rZ r (by decide) (by decide) (mO _) r r (a.Rv 1 r) a4) ?_;rintro _ b7 ⟨b8,b9,ba,rfl,a⟩;have j:=a.ad [1] [];refine ⟨sF j,hO 6 (oo r r (jL a [[V b.b,V b.e,V b.A,V b.B,V b.N,V b.d,V b.f,V b.c,V b.a.b,V b.a.a,V b.a.c]] ([b]:List qm) (Dr r) r r (by decide) ⟨r,y⟩) ?_)⟩;rintro _ ck ⟨cm,rfl,a⟩;have j:=a.ad [2] [];refine ⟨sF j,hO 7 (oo r r (ku a 1 1 r r vE rZ r (by decide) (by decide) (mO _) r r (a.Bo 0 0 r r) a5) ?_)⟩;rintro _ bb ⟨bc,bg,bh,rfl,a⟩;have j:=a.ad [2] [];refine ⟨sF j,hO 9 (oo r r (ku a 1 1 r r vE rZ r (by decide) (by decide) (mO _) r r (a.Rv 3 r) a6) ?_)⟩;rintro _ bi ⟨F,H,U,rfl,a⟩;have j:=a.ad [2] [];exact ⟨sF j,pF 10 r (nA r) j (hD (hJd _ _ ⟨F,H,U,⟨r,r,r,r,y⟩,a.ad [1] [5,1]⟩))⟩
      refine oo r r (jL a [[V b.b,V b.e,V b.A,V b.B,V b.N,V b.d,V b.f,V b.c,V b.a.b,V b.a.a,V b.a.c]] ([b]:List qm) (Dr r) r r (by decide) ⟨r,y⟩) ?_;rintro _ cn ⟨co,rfl,a⟩;have j:=a.ad [2] [];refine ⟨sF j,hO 4 (oo r r (ku a 1 1 r r vE rZ r (by decide) (by decide) (mO _) r r (a.Rv 2 r) a4) ?_)⟩;rintro _ b7 ⟨b8,b9,ba,rfl,a⟩;have j:=a.ad [2] [];refine ⟨sF j,hO 7 (oo r r (ku a 1 1 r r vE rZ r (by decide) (by decide) (mO _) r r (a.Bo 0 0 r r) a5) ?_)⟩;rintro _ bb ⟨bc,bg,bh,rfl,a⟩;have j:=a.ad [2] [];refine ⟨sF j,hO 9 (oo r r (ku a 1 1 r r vE rZ r (by decide) (by decide) (mO _) r r (a.Rv 3 r) a6) ?_)⟩;rintro _ bi ⟨F,H,U,rfl,a⟩;have j:=a.ad [2] [];exact ⟨sF j,pF 10 r (nA r) j (hD (hJd _ _ ⟨F,H,U,⟨r,r,r,r,y⟩,a.ad [1] [5,1]⟩))⟩
     refine oo r r (jL a [[V b.b,V b.e,V b.A,V b.B,V b.N,V b.d,V b.f,V b.c,V b.a.b,V b.a.a,V b.a.c]] ([b]:List qm) (Dr r) r r (by decide) ⟨r,y⟩) ?_;rintro _ cp ⟨cq,rfl,a⟩;have j:=a.ad [1] [];refine ⟨sF j,hO 0 (oo r r (jL a [] ([]:List qm) Hz r r (by decide) y) ?_)⟩;rintro _ cr ⟨ct,rfl,a⟩;have j:=a.ad [2] [];refine ⟨sF j,hO 4 (oo r r (ku a 0 0 r r vE rZ r (by decide) (by decide) (mO _) r r (a.Rv 2 r) a4) ?_)⟩;rintro _ b7 ⟨b8,b9,ba,rfl,a⟩;have j:=a.ad [2] [];refine ⟨sF j,hO 7 (oo r r (ku a 0 0 r r vE rZ r (by decide) (by decide) (mO _) r r (a.Bo 1 1 r r) a5) ?_)⟩;rintro _ bb ⟨bc,bg,bh,rfl,a⟩;have j:=a.ad [2] [];refine ⟨sF j,hO 9 (oo r r (ku a 0 0 r r vE rZ r (by decide) (by decide) (mO _) r r (a.Rv 3 r) a6) ?_)⟩;rintro _ bi ⟨F,H,U,rfl,a⟩;have j:=a.ad [2] [];exact ⟨sF j,pF 10 r (nA r) j (hD (hJd _ _ ⟨F,H,U,⟨r,r,r,r,y⟩,a.ad [0] [5,0]⟩))⟩
    clear a;rintro f w ⟨F,H,U,hf,a⟩;obtain ⟨cR,rfl⟩:=lu _ _ hf;clear hf;refine g (s (l7 r r (by omega) (by omega)) (s (mi r) (n ?_)));replace a:=a.fz 0 1 r r;exact ay (x.length - (K+1)) _ _ (by omega) ⟨K+1,aH,F,H,r,by omega,⟨r,r,r,r,y⟩,a,k⟩
   rw [Ja aA];have j:=a.dp [0];refine qc 5 r (by kernel_rfl) r (sF j) (qc 6 r (by kernel_rfl) r (sF j) (qc 7 r (by kernel_rfl) r (sF j) (qc 8 r (by kernel_rfl) r (sF j) (qc 9 r (by kernel_rfl) r (sF j) (qc 10 r (by kernel_rfl) r (sF j) (qc 11 r (by kernel_rfl) r (sF j) (pF 12 r (kK r r) j (pF 13 r (kH r) j (hD (q (g (s (oF r) (s (mi r) ?_)))))))))))));obtain ⟨ah,bj,k⟩:=bs k;obtain ⟨W,bU,bl,c5,aI,bm,ar⟩:=wX bj;have aJ:ah.length=bU - W:=by rw [<-ar,wI,Cy];omega
   obtain ⟨aK,au⟩:∃ A,(if e=W then c else c.map (·.add (W * sz qm)))=A:=⟨_,rfl⟩;obtain ⟨aL,av⟩:∃ C,(e - W)=C:=⟨_,rfl⟩;replace a:=a.jX (d:=.l aK aL ah) (by have cT:=(a.dl 0 r).part aI bm;rw [ar,au,av] at cT;exact cT);have bn:Value.slice (if e=W then c else c.map (·.add (W * sz qm))) (m.length - W) (e - W)=Value.slice aK ah.length aL:=by rw [aJ,<-au,<-av];simp;try omega
   refine s (show Yl _ _ _ _ _ _ _ _ _ (.slice aK ah.length aL) from bn ▸ Ur W vE rZ r r bl (by omega)) (s (nA r) (n (q (q (g (s (lJ r) (n (jD r (wk ?_)))))))));obtain ⟨aM,bo,k⟩:=bs k;obtain ⟨bV,bp,c6,bq,bW,aw,ax⟩:=wX bo;obtain rfl:bV=0:=by omega
   have aN:aM.length=bp:=by rw [<-ax,wI,Cy];omega
   obtain ⟨cu,a7,k⟩:=bs k;obtain ⟨cv,a8,k⟩:=bs k;obtain ⟨aO,a9,k⟩:=bs k;refine qK (fun f w=>∃ I J X,Has f [(3,Z I aO J),(9,Z o x p),(10,V (x.length:Int)),(11,V (K:Int))]/\Bx w0 w cQ G [O w0.heap.size I J 73 qm X] [.l o p x,.els X aO]) (fun Jd hJd=>?_) ?_
   ·refine qJ a [0] [] [] (by kernel_rfl) ?_;replace a:=a.drew;have j:=a.dp [];refine pF 1 r (oF r) j (pF 2 r (mi r) j ?_);replace a:=a.jX (d:=.l c e aM) (by have cT:=(a.dl 1 r).head aw;rw [ax] at cT;exact cT);refine tP 3 r (fun _=>show Yl _ _ _ _ _ _ _ _ _ (.slice c aM.length e) from (congrArg (fun z=>Value.slice c z e) aN).symm ▸ xU bp vE rZ r r bq (rE aw (a.dl 2 r).cap)) (sF j) (uF 5 r (fun hS=>lI [.int .i64 b.b,.int .i64 b.e,.int .i64 b.A,.int .i64 b.B,.int .i64 b.N,.int .i64 b.d,.int .i64 b.f,.int .i64 b.c,.int .i64 b.a.b,.int .i64 b.a.a,.int .i64 b.a.c] NS rZ r (hS.bk 0 r)) j (pF 8 r (oF r) j (mZ 0 [6] (by kernel_rfl) (jJ ?_ (jJ ?_ l5)))))
    ·refine oo r r (jL a [] ([]:List qm) Hz r r (by decide) y) ?_;rintro _ cw ⟨cx,rfl,a⟩;have j:=a.ad [1] [];refine ⟨sF j,mZ 4 [6] (by kernel_rfl) (jJ ?_ (jJ ?_ l5))⟩
     ·refine oo r r (ku a 0 0 r r vE rZ r (by decide) (by decide) (mO _) r r (a.Rv 1 r) a7) ?_;rintro _ br ⟨bu,bv,bw,rfl,a⟩;have j:=a.ad [1] [];refine ⟨sF j,hO 6 (oo r r (jL a [[V b.b,V b.e,V b.A,V b.B,V b.N,V b.d,V b.f,V b.c,V b.a.b,V b.a.a,V b.a.c]] ([b]:List qm) (Dr r) r r (by decide) ⟨r,y⟩) ?_)⟩;rintro _ cy ⟨cz,rfl,a⟩;have j:=a.ad [2] [];refine ⟨sF j,hO 7 (oo r r (ku a 1 1 r r vE rZ r (by decide) (by decide) (mO _) r r (a.Bo 0 0 r r) a8) ?_)⟩;rintro _ bz ⟨bA,bB,bC,rfl,a⟩;have j:=a.ad [2] [];refine ⟨sF j,hO 9 (oo r r (ku a 1 1 r r vE rZ r (by decide) (by decide) (mO _) r r (a.Rv 3 r) a9) ?_)⟩;rintro _ bD ⟨I,J,X,rfl,a⟩;have j:=a.ad [2] [];exact ⟨sF j,pF 10 r (nA r) j (hD (hJd _ _ ⟨I,J,X,⟨r,r,r,r,y⟩,a.ad [1] [5,1]⟩))⟩
     refine oo r r (jL a [[V b.b,V b.e,V b.A,V b.B,V b.N,V b.d,V b.f,V b.c,V b.a.b,V b.a.a,V b.a.c]] ([b]:List qm) (Dr r) r r (by decide) ⟨r,y⟩) ?_;rintro _ cA ⟨cB,rfl,a⟩;have j:=a.ad [2] [];refine ⟨sF j,hO 4 (oo r r (ku a 1 1 r r vE rZ r (by decide) (by decide) (mO _) r r (a.Rv 2 r) a7) ?_)⟩;rintro _ br ⟨bu,bv,bw,rfl,a⟩;have j:=a.ad [2] [];refine ⟨sF j,hO 7 (oo r r (ku a 1 1 r r vE rZ r (by decide) (by decide) (mO _) r r (a.Bo 0 0 r r) a8) ?_)⟩;rintro _ bz ⟨bA,bB,bC,rfl,a⟩;have j:=a.ad [2] [];refine ⟨sF j,hO 9 (oo r r (ku a 1 1 r r vE rZ r (by decide) (by decide) (mO _) r r (a.Rv 3 r) a9) ?_)⟩;rintro _ bD ⟨I,J,X,rfl,a⟩;have j:=a.ad [2] [];exact ⟨sF j,pF 10 r (nA r) j (hD (hJd _ _ ⟨I,J,X,⟨r,r,r,r,y⟩,a.ad [1] [5,1]⟩))⟩
    refine oo r r (jL a [[V b.b,V b.e,V b.A,V b.B,V b.N,V b.d,V b.f,V b.c,V b.a.b,V b.a.a,V b.a.c]] ([b]:List qm) (Dr r) r r (by decide) ⟨r,y⟩) ?_;rintro _ cC ⟨cD,rfl,a⟩;have j:=a.ad [1] [];refine ⟨sF j,hO 0 (oo r r (jL a [] ([]:List qm) Hz r r (by decide) y) ?_)⟩;rintro _ cE ⟨cF,rfl,a⟩;have j:=a.ad [2] [];refine ⟨sF j,hO 4 (oo r r (ku a 0 0 r r vE rZ r (by decide) (by decide) (mO _) r r (a.Rv 2 r) a7) ?_)⟩;rintro _ br ⟨bu,bv,bw,rfl,a⟩;have j:=a.ad [2] [];refine ⟨sF j,hO 7 (oo r r (ku a 0 0 r r vE rZ r (by decide) (by decide) (mO _) r r (a.Bo 1 1 r r) a8) ?_)⟩;rintro _ bz ⟨bA,bB,bC,rfl,a⟩;have j:=a.ad [2] [];refine ⟨sF j,hO 9 (oo r r (ku a 0 0 r r vE rZ r (by decide) (by decide) (mO _) r r (a.Rv 3 r) a9) ?_)⟩;rintro _ bD ⟨I,J,X,rfl,a⟩;have j:=a.ad [2] [];exact ⟨sF j,pF 10 r (nA r) j (hD (hJd _ _ ⟨I,J,X,⟨r,r,r,r,y⟩,a.ad [0] [5,0]⟩))⟩
   clear a;rintro f w ⟨I,J,X,hf,a⟩;obtain ⟨cR,rfl⟩:=lu _ _ hf;clear hf;refine g (s (l7 r r (by omega) (by omega)) (s (mi r) (n ?_)));replace a:=a.fz 0 1 r r;exact ay (x.length - (K+1)) _ _ (by omega) ⟨K+1,aO,I,J,r,by omega,⟨r,r,r,r,y⟩,a,k⟩
  obtain rfl:K=x.length:=by omega
  rw [lT,lV] at k;exact q (g (s (su r r (by omega)) (n (q (jD r (uE (bE _ _ ⟨m,c,e,⟨r,y⟩,a,sm k⟩)))))))
 clear a;rintro f w ⟨m,c,e,hf,a,bX⟩;obtain ⟨cR,rfl⟩:=lu _ _ hf;clear hf;subst bX;replace hM:=gi hM;refine q (g (s (oF r) (s (nA r) (n (lX ?_)))));obtain rfl:=sm hM;exact jN r (nH r) ⟨c,e,r,a.dp [0]⟩
end
def kO (o:qm):Pc:=(o.f,o.c)
def kl (a b:qm):Prop:=a.f < b.f\/a.f=b.f/\a.c < b.c
theorem Nz {fu:Nat}{a b:qm}(ha:a.d=0)(hb:b.d=0):∃ t:Bool,wO fu a b=some t/\(t=true ↔ kl a b):=by
 unfold wO kl;rw [lD (by rw [ha,hb];simp)];by_cases c:a.f≠b.f
 · rw [lG c];exact ⟨_,rfl,by rw [decide_eq_true_iff];omega⟩
 · rw [lD c];exact ⟨_,rfl,by rw [decide_eq_true_iff];omega⟩
theorem NT {a b:qm}(h:kl a b):kO a≠kO b:=fun c=>by have h1:a.f=b.f:=congrArg Prod.fst c;have h2:a.c=b.c:=congrArg Prod.snd c;unfold kl at h;omega
theorem abB {a b:qm}(h:¬ kl a b)(k:¬ kl b a):kO a=kO b:=by unfold kl at h k;exact Prod.ext (by show a.f=b.f;omega) (by show a.c=b.c;omega)
theorem aar {a b c:qm}(h:kl a b)(k:kl b c):kl a c:=by
 unfold kl at *
 omega
theorem adw {a b c:qm}(h:kO a=kO b):kl a c ↔ kl b c:=by have h1:a.f=b.f:=congrArg Prod.fst h;have h2:a.c=b.c:=congrArg Prod.snd h;unfold kl;rw [h1,h2]
structure ZF (pre out:List qm):Prop where
 so:out.Pairwise kl
 el:∀ o ∈ out,o.d=0/\rY (Ev pre) (kO o)=some o.a.a
 al:∀ p v,rY (Ev pre) p=some v->∃ o ∈ out,kO o=p
 ln:out.length<=pre.length
theorem Wx {fu:Nat}{out:List qm}{o:qm}(ho:o.d=0)(hc:∀ x ∈ out,x.d=0)(hl:out.length≤1000000):∀ (n k:Nat),k≤out.length→out.length < n+k→(∀ x ∈ out.take k,kl x o)→
  ∃ j:Nat,rG fu out o n k=some (.go (j:Int))/\j<=out.length/\(∀ x ∈ out.take j,kl x o)/\∀ x,out[j]?=some x->¬ kl x o
 | 0,k,h1,h2,_=>by omega
 | n+1,k,h1,h2,h3=>by
  rw [rG];by_cases c:(k:Int) < ((out.length:Nat):Int)
  · rw [lG c];obtain ⟨x,hx⟩:=mF (l:=out) (k:=k) (by omega);have hix:ix out (k:Int)=some x:=by unfold ix;rw [lD (by omega),FJ];exact hx
    obtain ⟨t,ht,htk⟩:=Nz (fu:=fu) (hc x (vM hx)) ho;rw [hix,Option.bind_some,ht,Option.bind_some];by_cases d:t=true
    · rw [lG d,TV (by omega) (by omega)];refine Wx ho hc hl n (k+1) (by omega) (by omega) fun y hy=>?_;rw [List.take_add_one,hx] at hy;rcases pX.1 hy with hy | hy
      · exact h3 y hy
      · obtain rfl:=List.mem_singleton.1 hy;exact htk.1 d
    · rw [lD d];exact ⟨k,rfl,h1,h3,fun y hy=>by rw [hx] at hy;cases hy;exact fun q=>d (htk.2 q)⟩
  · rw [lD c];exact ⟨k,rfl,h1,h3,fun y hy=>by have:=(List.getElem?_eq_some_iff.1 hy).1;omega⟩
theorem Ry {α:Type}{l:List α}{k:Nat}(h:k<=l.length):sl l (k:Int) ((l.length:Nat):Int)=some (l.drop k):=by unfold sl;rw [lG ⟨by omega,by omega,by omega⟩,List.take_of_length_le (by rw [Cy];omega),FJ]
theorem TJ {α:Type}{l:List α}{k:Nat}(h:k<=l.length):sl l (0:Int) (k:Int)=some (l.take k):=by unfold sl;rw [lG ⟨by omega,by omega,by omega⟩];simp
theorem KS {α:Type}{a b:List α}(h:a.length+b.length<=1000000000):app a b=some (a ++ b):=by unfold app;rw [lG h]
theorem ZF.step {pre out:List qm}{o:qm}{j d:Nat}(h:ZF pre out)(hk:o.b=21)(ho:o.d=0)(hj:j<=out.length)(h1:∀ x ∈ out.take j,kl x o)(h2:∀ x ∈ out.drop d,kl o x)(hd:d=j\/d=j+1/\∃ x,out[j]?=some x/\kO x=kO o):ZF (pre ++ [o]) (out.take j ++ [o] ++ out.drop d):=by
 have hlat:Ev (pre ++ [o])=yD (Ev pre) (kO o) o.a.a:=by rw [FH,Vw,lG hk];rfl
 have hm:∀ x ∈ out.take j ++ [o] ++ out.drop d,x=o\/x ∈ out/\kO x≠kO o:=fun x hx=>by
   rcases pX.1 hx with hx | hx
   · rcases pX.1 hx with hx | hx
     · exact .inr ⟨List.mem_of_mem_take hx,NT (h1 x hx)⟩
     · exact .inl (List.mem_singleton.1 hx)
   · exact .inr ⟨List.mem_of_mem_drop hx,(NT (h2 x hx)).symm⟩
 refine ⟨?_,fun x hx=>?_,fun p v hp=>?_,?_⟩
 · refine List.pairwise_append.2 ⟨List.pairwise_append.2 ⟨h.so.sublist (List.take_sublist ..),List.pairwise_singleton ..,fun a ha b hb=>?_⟩,h.so.sublist (List.drop_sublist ..),fun a ha b hb=>?_⟩
   · rw [List.mem_singleton.1 hb];exact h1 a ha
   · rcases pX.1 ha with ha | ha
     · exact aar (h1 a ha) (h2 b hb)
     · rw [List.mem_singleton.1 ha];exact h2 b hb
 · rcases hm x hx with rfl | ⟨hx,hne⟩
   · exact ⟨ho,by rw [hlat,Fg,lG rfl]⟩
   · exact ⟨(h.el x hx).1,by rw [hlat,Fg,lD hne];exact (h.el x hx).2⟩
 · rw [hlat,Fg] at hp;by_cases c:p=kO o
   · exact ⟨o,by simp,c.symm⟩
   · rw [lD c] at hp;obtain ⟨x,hx,hxp⟩:=h.al p v hp;refine ⟨x,?_,hxp⟩;rw [<-List.take_append_drop j out] at hx;rcases pX.1 hx with hx | hx
     · simp [hx]
     · rcases hd with rfl | ⟨rfl,y,hy,hyo⟩
       · simp [hx]
       · rw [l6 hy] at hx;rcases oM.1 hx with rfl | hx
         · exact absurd (hxp.symm.trans hyo) c
         · simp [hx]
 · have:=h.ln;simp;rcases hd with rfl | ⟨rfl,_⟩ <;> omega
theorem aei {fu k:Nat}{pre out l:List qm}{o:qm}(h:ZF pre out)(hk:o.b=21)(ho:o.d=0)(hl:pre.length<=10000)(hf:10000 < fu):∃ r,ZF (pre ++ [o]) r/\lV fu (o :: l) k out=lV fu l (k+1) r:=by
 have hln:=h.ln;have hcx:∀ x ∈ out,x.d=0:=fun x hx=>(h.el x hx).1;obtain ⟨j,e1,hj,h1,h2⟩:=Wx (fu:=fu) ho hcx (by omega) fu 0 (uN _) (by omega) (by simp);rw [lV,lD (by simp [hk]),show (0:Int)=((0:Nat):Int) from rfl,e1,Option.bind_some,Ld.el];have fin:∀ d,out.length<=10000->((sl out ((0:Nat):Int) (j:Int)).bind fun k1=>(app ([]:List qm) k1).bind fun l1=>(app l1 ([o]:List qm)).bind fun m1=>(app m1 (out.drop d)).bind fun p=>lV fu l (k+1) p)=lV fu l (k+1) (out.take j ++ [o] ++ out.drop d):=fun d hd=>by rw [show ((0:Nat):Int)=0 from rfl,TJ hj,Option.bind_some,KS (by simp;omega),Option.bind_some,DI,KS (by simp;omega),Option.bind_some,KS (by simp;omega),Option.bind_some]
 by_cases c2:(j:Int) < ((out.length:Nat):Int)
 · rw [lG c2];obtain ⟨y,hy⟩:=mF (l:=out) (k:=j) (by omega);have hix:ix out (j:Int)=some y:=by unfold ix;rw [lD (by omega),FJ];exact hy
   have hcy:=hcx y (vM hy);obtain ⟨t,ht,htk⟩:=Nz (fu:=fu) ho hcy;have hso:(y :: out.drop (j+1)).Pairwise kl:=by rw [<-l6 hy];exact h.so.sublist (List.drop_sublist ..)
   have hyr:=(Bu.1 hso).1;rw [hix,Option.bind_some,ht,Option.bind_some,Ry hj,Option.bind_some];unfold zB;cases t with
   | true=>
    have hoy:=htk.1 rfl;refine ⟨_,h.step (d:=j) hk ho hj h1 (fun x hx=>?_) (.inl rfl),fin j (by omega)⟩;rw [l6 hy] at hx;rcases oM.1 hx with rfl | hx
    · exact hoy
    · exact aar hoy (hyr x hx)
   | false=>
    have hoy:¬ kl o y:=fun q=>by cases htk.2 q
    have he:=abB (h2 y hy) hoy;refine ⟨_,h.step (d:=j+1) hk ho hj h1 (fun x hx=>(adw he).1 (hyr x hx)) (.inr ⟨rfl,y,hy,he⟩),?_⟩;rw [lG (show (!false)=true from rfl),TV (by omega) (by omega),show (j:Int)+1=((j+1:Nat):Int) from rfl,Ry (by omega)];exact fin (j+1) (by omega)
 · rw [lD c2,Ry hj,Option.bind_some];have hje:j=out.length:=by omega
   refine ⟨_,h.step (d:=j) hk ho hj h1 (fun x hx=>?_) (.inl rfl),fin j (by omega)⟩;rw [hje,List.drop_length] at hx;cases hx
theorem Sd {fu:Nat}:∀ (l pre out:List qm)(k:Nat),ZF pre out→(∀ o ∈ l,o.b=21→o.d=0)→pre.length+l.length≤10000→10000 < fu→∃ r,lV fu l k out=some (.go r)∧ZF (pre ++ l) r
 | [],pre,out,k,h,_,_,_=>⟨out,rfl,by rw [ER];exact h⟩
 | o :: l,pre,out,k,h,hc,hl,hf=>by
  simp only [uK] at hl;rw [show pre ++ o :: l=(pre ++ [o]) ++ l by simp];have hc':∀ x ∈ l,x.b=21->x.d=0:=fun x hx=>hc x (yw _ hx);by_cases c:o.b≠21
  · rw [lV,lG c];refine Sd l _ out _ ?_ hc' (by simp;omega) hf;have hlat:Ev (pre ++ [o])=Ev pre:=by rw [FH,Vw,lD c]
    exact ⟨h.so,by rw [hlat];exact h.el,by rw [hlat];exact h.al,by have:=h.ln;simp;omega⟩
  have hk:o.b=21:=by omega
  obtain ⟨r,hr,e⟩:=aei (fu:=fu) (k:=k) (l:=l) h hk (hc o (Bl ..) hk) (by omega) hf;rw [e];exact Sd l _ r _ hr hc' (by simp;omega) hf
theorem aaD {fu:Nat}{ops:List qm}(hB:∀ o ∈ ops,o.b=21->o.d=0)(hl:ops.length<=10000)(hf:10000 < fu):∃ r,xC fu ops=some r/\ZF ops r:=by obtain ⟨r,hr,h⟩:=Sd (fu:=fu) ops [] [] 0 ⟨.nil,by simp,(fun p v hp=>by cases hp),mO _⟩ hB (by simp;omega) hf;unfold xC;rw [hr];exact ⟨r,rfl,h⟩
def NZ (f:BitVec 64->BitVec 64->BitVec 64)(a b:Int):Int:=wr (f (BitVec.ofInt 64 a) (BitVec.ofInt 64 b)).toNat
section
variable {P:Program}{w:World}{ρ:Operand->Value}{d:Option Nat}{ty:TypeId}{pos:String}{af:Array Edge}{g:Option (Nat × Bool)}{t t':TypeId}{x y:Operand}{a b:Int}
theorem ZR (hx:ρ x=V a)(hy:ρ y=V b):Yl P ρ (.binOp .and t x y t') d ty pos af g w (V (NZ (· &&& ·) a b)):=by have h:Op.intBits .and .i64 a b=pure (V (NZ (· &&& ·) a b)):=rfl;simp [Yl,execOp,hx,hy,binOp,eqGuard,h]
theorem afD (hx:ρ x=V a)(hy:ρ y=V b):Yl P ρ (.binOp .or t x y t') d ty pos af g w (V (NZ (· ||| ·) a b)):=by have h:Op.intBits .or .i64 a b=pure (V (NZ (· ||| ·) a b)):=rfl;simp [Yl,execOp,hx,hy,binOp,eqGuard,h]
theorem ac6 (hx:ρ x=V a)(hy:ρ y=V b):Yl P ρ (.binOp .xor t x y t') d ty pos af g w (V (NZ (· ^^^ ·) a b)):=by have h:Op.intBits .xor .i64 a b=pure (V (NZ (· ^^^ ·) a b)):=rfl;simp [Yl,execOp,hx,hy,binOp,eqGuard,h]
theorem ad2 (hx:ρ x=V a):Yl P ρ (.unOp .neg t x) d ty pos af g w (V (wr (0 - a))):=by simp [Yl,execOp,hx,Op.unary,Op.intArith,wr]
theorem ae9 {v:Value}(h:∃ D,P.underlying t=some D/\(match D with | .interface _=>false | _=>true)=true)(hx:ρ x=v):Yl P ρ (.makeInterface t x) d ty pos af g w (.iface t v):=by obtain ⟨D,h1,h2⟩:=h;cases D <;> simp_all [Yl,execOp,Instr.makeInterface,run_underlying h1]
end
section
variable {P:Program}{N:Fz}{ops:Array Oper}{K:KK}{rest:List Oper}{f:Fr}{w:World}{d:Option Nat}{ty:TypeId}{pos:String}{af:Array Edge}
theorem abT {op:Op}{g:Nat × Bool}(h:uL ops f (some g)=true)(k:o8 P N ops K (⟨d,op,ty,pos,af,none⟩ :: rest) f w):o8 P N ops K (⟨d,op,ty,pos,af,some g⟩ :: rest) f w:=kI h k
theorem ab0 {op:Op}{g:Nat × Bool}(h:uL ops f (some g)=false)(k:o8 P N ops K rest (lH f d undef) w):o8 P N ops K (⟨d,op,ty,pos,af,some g⟩ :: rest) f w:=jZ h k
theorem abJ {x:Operand}{p:Option Addr}(h:ev f x=.pointer p)(k:o8 P N ops K rest (lH f d (.pointer p)) w):o8 P N ops K (⟨d,.move x,ty,pos,af,none⟩ :: rest) f w:=kU (YK h) k
theorem aat {x:Operand}{n:Int}(h:ev f x=V n)(k:o8 P N ops K rest (lH f d (V n)) w):o8 P N ops K (⟨d,.move x,ty,pos,af,none⟩ :: rest) f w:=kU (Zz h) k
theorem abC {x:Operand}{p:Option Addr}{n m:Nat}(h:ev f x=.slice p n m)(k:o8 P N ops K rest (lH f d (.slice p n m)) w):o8 P N ops K (⟨d,.move x,ty,pos,af,none⟩ :: rest) f w:=kU (oF h) k
theorem ab8 {x:Operand}{b:Bool}(h:ev f x=.bool b)(k:o8 P N ops K rest (lH f d (.bool b)) w):o8 P N ops K (⟨d,.move x,ty,pos,af,none⟩ :: rest) f w:=kU (lJ h) k
theorem acj {x:Operand}{b:ByteArray}(h:ev f x=T b)(k:o8 P N ops K rest (lH f d (T b)) w):o8 P N ops K (⟨d,.move x,ty,pos,af,none⟩ :: rest) f w:=kU (lN h) k
theorem aNl {x:Operand}{a:Addr}(h:ev f x=.pointer (some a))(k:o8 P N ops K rest (lH f d (.pointer (some a))) w):o8 P N ops K (⟨d,.nilCheck x,ty,pos,af,none⟩ :: rest) f w:=kU (Zh h) k
theorem Zf {x:Operand}{n:Int}(h:ev f x=V n)(k:o8 P N ops K rest (lH f d (V n)) w):o8 P N ops K (⟨d,.assign x,ty,pos,af,none⟩ :: rest) f w:=kU (Xx h) k
theorem aaE {x:Operand}{b:Bool}(h:ev f x=.bool b)(k:o8 P N ops K rest (lH f d (.bool b)) w):o8 P N ops K (⟨d,.assign x,ty,pos,af,none⟩ :: rest) f w:=kU (kH h) k
theorem abj {x:Operand}{p:Option Addr}{n m:Nat}(h:ev f x=.slice p n m)(k:o8 P N ops K rest (lH f d (.slice p n m)) w):o8 P N ops K (⟨d,.assign x,ty,pos,af,none⟩ :: rest) f w:=kU (nA h) k
theorem aa8 {x:Operand}{p:Option Addr}(h:ev f x=.pointer p)(k:o8 P N ops K rest (lH f d (.pointer p)) w):o8 P N ops K (⟨d,.assign x,ty,pos,af,none⟩ :: rest) f w:=kU (U4 h) k
theorem abF {x:Operand}{b:ByteArray}(h:ev f x=T b)(k:o8 P N ops K rest (lH f d (T b)) w):o8 P N ops K (⟨d,.assign x,ty,pos,af,none⟩ :: rest) f w:=kU (ny h) k
theorem ab4 {t t':TypeId}{x y:Operand}{n m:Int}(h:ev f x=V n)(h2:ev f y=V m)(k:o8 P N ops K rest (lH f d (.bool (decide (n=m)))) w):o8 P N ops K (⟨d,.binOp .eql t x y t',ty,pos,af,none⟩ :: rest) f w:=kU (kM h h2) k
theorem acH {t t':TypeId}{x y:Operand}{n m:Int}(h:ev f x=V n)(h2:ev f y=V m)(k:o8 P N ops K rest (lH f d (.bool (decide (n≠m)))) w):o8 P N ops K (⟨d,.binOp .neq t x y t',ty,pos,af,none⟩ :: rest) f w:=kU (sj h h2) k
theorem abe {t t':TypeId}{x y:Operand}{n m:Int}(h:ev f x=V n)(h2:ev f y=V m)(k:o8 P N ops K rest (lH f d (.bool (decide (n < m)))) w):o8 P N ops K (⟨d,.binOp .lss t x y t',ty,pos,af,none⟩ :: rest) f w:=kU (qV h h2) k
theorem acg {t t':TypeId}{x y:Operand}{n m:Int}(h:ev f x=V n)(h2:ev f y=V m)(k:o8 P N ops K rest (lH f d (.bool (decide (n<=m)))) w):o8 P N ops K (⟨d,.binOp .leq t x y t',ty,pos,af,none⟩ :: rest) f w:=kU (O7 h h2) k
theorem acK {t t':TypeId}{x y:Operand}{n m:Int}(h:ev f x=V n)(h2:ev f y=V m)(k:o8 P N ops K rest (lH f d (.bool (decide (m < n)))) w):o8 P N ops K (⟨d,.binOp .gtr t x y t',ty,pos,af,none⟩ :: rest) f w:=kU (wV h h2) k
theorem acy {t t':TypeId}{x y:Operand}{n m:Int}(h:ev f x=V n)(h2:ev f y=V m)(k:o8 P N ops K rest (lH f d (.bool (decide (m<=n)))) w):o8 P N ops K (⟨d,.binOp .geq t x y t',ty,pos,af,none⟩ :: rest) f w:=kU (GI h h2) k
theorem abg {x:Operand}{i:Nat}{vs:Array Value}{v:Value}(h:ev f x=.tuple vs)(h2:vs[i]?=some v)(k:o8 P N ops K rest (lH f d v) w):o8 P N ops K (⟨d,.extract x i,ty,pos,af,none⟩ :: rest) f w:=kU (kE h h2) k
theorem aaR {t t':TypeId}{x y:Operand}{n m:Int}(h:ev f x=V n)(h2:ev f y=V m)(k:o8 P N ops K rest (lH f d (V (wr (n+m)))) w):o8 P N ops K (⟨d,.binOp .add t x y t',ty,pos,af,none⟩ :: rest) f w:=kU (kP h h2) k
theorem aaw {t t':TypeId}{x y:Operand}{n m:Int}(h:ev f x=V n)(h2:ev f y=V m)(k:o8 P N ops K rest (lH f d (V (wr (n - m)))) w):o8 P N ops K (⟨d,.binOp .sub t x y t',ty,pos,af,none⟩ :: rest) f w:=kU (zy h h2) k
theorem abX {t t':TypeId}{x y:Operand}{n m:Int}(h:ev f x=V n)(h2:ev f y=V m)(k:o8 P N ops K rest (lH f d (V (wr (n * m)))) w):o8 P N ops K (⟨d,.binOp .mul t x y t',ty,pos,af,none⟩ :: rest) f w:=kU (Z5 h h2) k
theorem abq {t t':TypeId}{x y:Operand}{n m:Int}(h:ev f x=V n)(h2:ev f y=V m)(k:o8 P N ops K rest (lH f d (V (NZ (· &&& ·) n m))) w):o8 P N ops K (⟨d,.binOp .and t x y t',ty,pos,af,none⟩ :: rest) f w:=kU (ZR h h2) k
theorem aOr {t t':TypeId}{x y:Operand}{n m:Int}(h:ev f x=V n)(h2:ev f y=V m)(k:o8 P N ops K rest (lH f d (V (NZ (· ||| ·) n m))) w):o8 P N ops K (⟨d,.binOp .or t x y t',ty,pos,af,none⟩ :: rest) f w:=kU (afD h h2) k
theorem abD {t t':TypeId}{x y:Operand}{n m:Int}(h:ev f x=V n)(h2:ev f y=V m)(k:o8 P N ops K rest (lH f d (V (NZ (· ^^^ ·) n m))) w):o8 P N ops K (⟨d,.binOp .xor t x y t',ty,pos,af,none⟩ :: rest) f w:=kU (ac6 h h2) k
theorem aaH {t:TypeId}{x:Operand}{n:Int}(h:ev f x=V n)(k:o8 P N ops K rest (lH f d (V (wr (0 - n)))) w):o8 P N ops K (⟨d,.unOp .neg t x,ty,pos,af,none⟩ :: rest) f w:=kU (ad2 h) k
theorem acB {c x y:Operand}{b:Bool}(h:ev f c=.bool true)(h2:ev f x=.bool b)(k:o8 P N ops K rest (lH f d (.bool b)) w):o8 P N ops K (⟨d,.pick c x y,ty,pos,af,none⟩ :: rest) f w:=kU (kT h h2) k
theorem aaA {c x y:Operand}{b:Bool}(h:ev f c=.bool false)(h2:ev f y=.bool b)(k:o8 P N ops K rest (lH f d (.bool b)) w):o8 P N ops K (⟨d,.pick c x y,ty,pos,af,none⟩ :: rest) f w:=kU (kK h h2) k
theorem acu {t:TypeId}{x:Operand}{b:Bool}(h:ev f x=.bool b)(k:o8 P N ops K rest (lH f d (.bool (!b))) w):o8 P N ops K (⟨d,.unOp .not t x,ty,pos,af,none⟩ :: rest) f w:=kU (Er h) k
end
section
variable {P:Program}{N:Fz}{Q:Post}{f:Fr}{w:World}
theorem sP {c:Operand}{x y:Code}{p:Prop}[Decidable p](hc:ev f c=.bool (decide p))(ht:p->WP P N x Q f w)(hf:¬ p->WP P N y Q f w):WP P N (.cond c x y) Q f w:=
 if h:p then jM (hc.trans (bt h)) (ht h) else jD (hc.trans (bf h)) (hf h)
end
theorem go {G R:Prop}(k:R) (h:R->G:=by
 intro k
 repeat (first
  | refine GV ?_
  | refine yj ?_
  | refine Og ?_
  | refine Rl ?_
  | refine pW ?_
  | refine abJ rfl ?_
  | refine aat rfl ?_
  | refine abC rfl ?_
  | refine ab8 rfl ?_
  | refine acj rfl ?_
  | refine aNl rfl ?_
  | refine Zf rfl ?_
  | refine aaE rfl ?_
  | refine abj rfl ?_
  | refine aa8 rfl ?_
  | refine abF rfl ?_
  | refine ab4 rfl rfl ?_
  | refine acH rfl rfl ?_
  | refine abe rfl rfl ?_
  | refine acg rfl rfl ?_
  | refine acK rfl rfl ?_
  | refine acy rfl rfl ?_
  | refine abg rfl rfl ?_
  | refine aaR rfl rfl ?_
  | refine aaw rfl rfl ?_
  | refine abX rfl rfl ?_
  | refine abq rfl rfl ?_
  | refine aOr rfl rfl ?_
  | refine abD rfl rfl ?_
  | refine aaH rfl ?_
  | refine acB rfl rfl ?_
  | refine aaA rfl rfl ?_
  | refine acu rfl ?_
  | refine abT rfl ?_
  | refine ab0 rfl ?_
  | refine jM rfl ?_
  | refine jD rfl ?_)
 exact k):G:=h k
end Go.Proofs.YtdkneekpdecjbaaGreat
