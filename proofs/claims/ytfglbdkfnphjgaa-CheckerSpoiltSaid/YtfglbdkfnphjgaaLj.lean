/- Contracts, printed by gen3.py. -/
import Derived.Test.YtfglbdkfnphjgaaZt
import Derived.Test.YtfglbdkfnphjgaaLa
set_option linter.unusedVariables false
set_option maxHeartbeats 12800000
set_option linter.unusedSimpArgs false
set_option maxRecDepth 4000
namespace Go.Proofs.Ytfglbdkfnphjgaa
open Go.RowKit Go.Fw
noncomputable section
def Di (m:jW→Int→Int→Option ((List Int))):Prop:=∀ {t:World} {A:Nat→Prop} {p:jW} {x:Int} {z:Int} {a:Option Addr} {b:Nat} {c:Option Addr} {d:Nat} {e:Option Addr} {f:Nat} {h:Option Addr} {i:Nat} {u:(List Int)},Pre t A [] [.l a b p.a.a,.l c d p.a.b,.l e f p.c,.l h i p.b]→m p x z=some u→
 Calls Try.prog 31 #[.agg #[Z a p.a.a b,Z c p.a.b d,Z e p.c f,Z h p.b i],V x,V z] t (rf fun v w=>∃ (j:OA)(k:Nat)(o:LV),v=Z j u k∧Bx t w A (lT []) [O t.heap.size j k 3 Int o] [.els o u])
def oz (fu:Nat)(b:Int):List Gv→Nat→(List Int)→Option (Ld (List Int) ((List Int)))
 | [],_,a=>some (.go a)
 | f :: d,c,a=>
 if f.d≤b then
  if b≤f.g then
   (app a ([(c:Int)]:List Int)).bind fun e=>
   oz fu b d (c+1) e
  else
   oz fu b d (c+1) a
 else
  oz fu b d (c+1) a
def xS (fu:Nat)(c:jW) (b:Int)(d:Int):Option ((List Int)):=
 if b < 0 then
  some ([]:List Int)
 else
  if (c.c.length:Int)≤b then
   some ([]:List Int)
  else
   (ix c.c b).bind fun e=>
   (oz fu d e 0 ([]:List Int)).bind fun f=>f.el (fun a=>
   some a
   ) (fun o=>some o)
theorem Dy (fu:Nat):Di (xS fu):=by
 intro S au U x1 W A B C D E F H I r0 hP p
 unfold xS at p
 have e:=hP.bx
 clear hP
 generalize hG:lT _=G at e ⊢
 refine cf Try.func31 r (ma [(0,.agg #[Z A U.a.a B,Z C U.a.b D,Z E U.c F,Z H U.b I]),(1,V x1),(2,V W)] ⟨r,r,r,y⟩ fun av=>q (g (tL e (yI r) fun w1 b1 e=>s (nJ r) (n (q (q (g (s (mi r) (s (qB r r) (s (jZ r) ?_))))))))))
 rcases iv p with ⟨X,p⟩|⟨X,p⟩
 ·rw [decide_eq_true X]
  refine jB r (jB r (jB r (jB r (jB r (s (jN r r) (n (jH r (q (g (s (nJ r) (n (kP ?_))))))))))))
  replace e:=e.BQ Int 3
  obtain rfl:=sm p
  exact jC r (kT r) ⟨none,0,[],r,(e.ad [0] [0])⟩
 rw [decide_eq_false X]
 refine jQ r (s (mi r) (jQ r (s (vV r) (jQ r (s (Ih r (e.bk 0 r) r) (jQ r (s (lg Bd r) (jQ r (s (Bi r r) (s (jX r r) (n ?_)))))))))))
 rcases iv p with ⟨Y,p⟩|⟨Y,p⟩
 ·refine jH (bt Y) (q (g (s (nJ r) (n (kP ?_)))))
  replace e:=e.BQ Int 3
  obtain rfl:=sm p
  exact jC r (kT r) ⟨none,0,[],r,(e.ad [0] [0])⟩
 refine jI (bf Y) (wk (q (g (s (nJ r) (n (q (q (g (s (vV r) (s (Ih r (e.bk 0 r) r) (s (mi r) ?_)))))))))))
 obtain ⟨u,z,p⟩:=bs p
 obtain ⟨k6,a0,z⟩:=kG z
 obtain ⟨ab,a1,e⟩:=e.nm 2 rfl z
 obtain ⟨v,x,rfl,N⟩:=a1
 replace e:=e.ku (d:=.l v x u) N
 refine s (kZ Bd Br r r a0 (e.dl 4 r) z) (s (kz uZ r r ((e.dc 1 r) 0 _ r)) (s (lg uZ r) (s (mi r) (n ?_))))
 replace e:=e.BQ Int 3
 have ac:=(e.dl 1 r).bd
 obtain ⟨Y8,m,p⟩:=bs p
 refine oC (fun f w=>∃ (j:List Int) (a:OA)(b:Nat)(c:LV),Has f [(7,Z a j b)]∧Bx S w au G [O S.heap.size a b 3 Int c] [.els c j,.l v x u]∧Ld.go j=Y8) (fun J8 a2=>?_) ?_
 ·refine nZ (kH (fun aw f w=>∃ (t:Nat)(j:List Int) (a:OA)(b:Nat)(c:LV),aw=u.length - t∧t≤u.length∧Has f [(25,V (t:Int)),(2,V W),(7,Z a j b),(23,Z v u x),(24,V (u.length:Int))]∧Bx S w au G [O S.heap.size a b 3 Int c] [.els c j,.l v x u]∧oz fu W (u.drop t) t j=some Y8) (u.length) ⟨0,([]:List Int),none,0,[],r,Nat.zero_le _,⟨r,r,r,r,r,y⟩,(e.ad [0] [0,1]),m⟩ ?_)
  clear e m
  rintro aw f w ⟨t,j,a,b,c,rfl,ae,hf,e,m⟩ K8 J
  obtain ⟨av,rfl⟩:=gP _ _ hf
  clear hf
  rcases Nat.lt_or_ge t u.length with Q | Q
  ·obtain ⟨o,K⟩:=lL (l:=u) Q
   rw [mQ K,oz] at m
   refine q (g (s (qK r r (by omega)) (n (q (jH r (wk (q (nZ (q (g (s (mi r) (s (kZ uZ wz r r r (e.dl 1 r) K) (s (Mj [T o.a,V o.e,V o.b,V o.f,.bool o.c,V o.d,V o.g] HY wz r (e.dl 1 r) K) (tL e (ko wz) fun af ag e=>s (xi r) (lu (nD e 0 [T o.a,V o.e,V o.b,V o.f,.bool o.c,V o.d,V o.g] r wz r r) fun ah e=>n (q (g (s (NZ r) (s (l3 r (e.bk 0 r) r) (s (mi r) (s (JD r r) (s (jZ r) ?_))))))))))))))))))))))
   rcases iv m with ⟨L,m⟩|⟨L,m⟩
   ·rw [decide_eq_true L]
    refine jQ r (s (mi r) (jQ r (s (IY r) (jQ r (s (l3 r (e.bk 0 r) r) (jQ r (s (JD r r) (s (jN r r) (n ?_)))))))))
    rcases iv m with ⟨M,m⟩|⟨M,m⟩
    ·refine jH (bt M) (g (s (mD r) (s (mi r) (qF (jV e [[V (t:Int)]] ([(t:Int)]:List Int) (Cq r) r r (by decide) ⟨r,y⟩) ?_))))
     rintro _ ai ⟨aj,rfl,e⟩
     obtain ⟨a3,R,m⟩:=bs m
     refine qF (kS e 2 1 r r vE pJ r (by decide) (by decide) (Nat.le_refl _) r r (e.AJ 0 0 r r) R) ?_
     rintro _ ak ⟨a4,a5,a6,rfl,e⟩
     exact s (nJ r) (n (g (s (mg r r (by omega) (by omega)) (s (mi r) (n (J (u.length - (t+1)) _ _ (by omega) ⟨t+1,a3,a4,a5,a6,r,by omega,⟨r,r,r,r,r,y⟩,(e.ad [2] [1,2]),m⟩))))))
    exact jI (bf M) (wk (g (s (mg r r (by omega) (by omega)) (s (mi r) (n (J (u.length - (t+1)) _ _ (by omega) ⟨t+1,j,a,b,c,r,by omega,⟨r,r,r,r,r,y⟩,(e.arr [1] r),m⟩))))))
   rw [decide_eq_false L]
   exact jB r (jB r (jB r (jB r (s (jX r r) (n (jI r (wk (g (s (mg r r (by omega) (by omega)) (s (mi r) (n (J (u.length - (t+1)) _ _ (by omega) ⟨t+1,j,a,b,c,r,by omega,⟨r,r,r,r,r,y⟩,(e.arr [1] r),m⟩))))))))))))
  obtain rfl:t=u.length:=by omega
  rw [lH,oz] at m
  exact q (g (s (qL r r (by omega)) (n (q (jI r (uW (a2 _ _ ⟨j,a,b,c,⟨r,y⟩,e,sm m⟩)))))))
 clear e
 rintro f w ⟨j,a,b,c,hf,e,a7⟩
 obtain ⟨av,rfl⟩:=gP _ _ hf
 clear hf
 subst a7
 replace p:=gi p
 refine q (g (s (mD r) (s (nJ r) (n (kP ?_)))))
 obtain rfl:=sm p
 exact jC r (kT r) ⟨a,b,c,r,(e.dp [0])⟩
def FE (m:jW→BA→Option (Int × Bool)):Prop:=∀ {k:World} {u:Nat→Prop} {j:jW} {o:BA} {a:Option Addr} {b:Nat} {c:Option Addr} {d:Nat} {e:Option Addr} {f:Nat} {h:Option Addr} {i:Nat} {R:Int × Bool},Pre k u [] [.l a b j.a.a,.l c d j.a.b,.l e f j.c,.l h i j.b]→m j o=some R→
 Calls Try.prog 29 #[.agg #[Z a j.a.a b,Z c j.a.b d,Z e j.c f,Z h j.b i],T o] k (rf fun v w=>iA R fun p t=>v=.tuple #[V p,.bool t]∧Bx k w u (lT []) [] [])
def uj (fu:Nat)(a:BA):List Gn→Nat→Option (Ld (Unit) (Int × Bool))
 | [],_=>some (.go ())
 | c :: d,b=>
 if c.a=a then
  some (.out ((b:Int),true))
 else
  uj fu a d (b+1)
def Ay (fu:Nat)(a:jW) (b:BA):Option (Int × Bool):=
 (uj fu b a.a.b 0).bind fun c=>c.el (fun _=>
 some (0,false)
 ) (fun o=>some o)
theorem Fq (fu:Nat):FE (Ay fu):=by
 intro S a9 h J x z c e A B C D R U v
 unfold Ay at v
 have a:=U.bx
 clear U
 generalize hG:lT _=G at a ⊢
 refine cf Try.func29 r (ma [(0,.agg #[Z x h.a.a z,Z c h.a.b e,Z A h.c B,Z C h.b D]),(1,T J)] ⟨r,r,y⟩ fun aa=>q (g (tL a (yI r) fun w1 b1 a=>s (xi r) (s (jU r) (n (q (q (g (s (zU r) (s (vS r) (s (Iq r (a.bk 0 r) r) (s (lg yR r) (s (mi r) (n ?_))))))))))))))
 have X:=(a.dl 1 r).bd
 obtain ⟨W,b,v⟩:=bs v
 refine oC (fun f w=>Has f []∧Bx S w a9 G [] [.l c e h.a.b]∧Ld.go ()=W) (fun J2 K=>?_) ?_
 ·refine nZ (kH (fun ab f w=>∃ (u:Nat),ab=h.a.b.length - u∧u≤h.a.b.length∧Has f [(12,V (u:Int)),(1,T J),(10,Z c h.a.b e),(11,V (h.a.b.length:Int))]∧Bx S w a9 G [] [.l c e h.a.b]∧uj fu J (h.a.b.drop u) u=some W) (h.a.b.length) ⟨0,r,Nat.zero_le _,⟨r,r,r,r,y⟩,(a.ad [] [1]),b⟩ ?_)
  clear a b
  rintro ab f w ⟨u,rfl,Y,hf,a,b⟩ K2 L
  obtain ⟨aa,rfl⟩:=gP _ _ hf
  clear hf
  rcases Nat.lt_or_ge u h.a.b.length with F | F
  ·obtain ⟨j,E⟩:=lL (l:=h.a.b) F
   rw [mQ E,uj] at b
   obtain ⟨a0,M,a⟩:=a.nm 0 rfl E
   obtain ⟨m,o,p,t,rfl,H,I⟩:=kC.out M
   replace a:=a.ku (d:=.l m o j.b) H
   replace a:=a.ku (d:=.l p t j.f) I
   refine q (g (s (qK r r (by omega)) (n (q (jH r (wk (q (nZ (q (g (s (mi r) (s (kZ yR mX r r r (a.dl 3 r) E) (s (oL [T j.a,V j.c,Z m j.b o,Z p j.f t] Bv r mX r r (a.dc 2 r)) (tL a (ko mX) fun w4 b4 a=>s (xi r) (lu (nD a 0 [T j.a,V j.c,Z m j.b o,Z p j.f t] r mX r r) fun w5 a=>n (q (g (s (CP r) (s (l9 r (a.bk 0 r) r) (s (lc r) (s (rT r r) (n ?_))))))))))))))))))))))
   rcases iv b with ⟨N,b⟩|⟨N,b⟩
   ·refine jH (bt N) (q (g (s (mi r) (s (xi r) (s (jU r) (n (kP ?_)))))))
    obtain rfl:=sm b
    replace v:=oi v
    obtain rfl:=sm v
    exact rO r (kT r) (kT r) (lw (⟨r,(a.ad [] [])⟩))
   exact jI (bf N) (wk (g (s (mg r r (by omega) (by omega)) (s (mi r) (n (L (h.a.b.length - (u+1)) _ _ (by omega) ⟨u+1,r,by omega,⟨r,r,r,r,y⟩,(a.ad [] [3]),b⟩))))))
  obtain rfl:u=h.a.b.length:=by omega
  rw [lH,uj] at b
  exact q (g (s (qL r r (by omega)) (n (q (jI r (uW (K _ _ ⟨y,a,sm b⟩)))))))
 clear a
 rintro f w ⟨hf,a,Q⟩
 obtain ⟨aa,rfl⟩:=gP _ _ hf
 clear hf
 subst Q
 replace v:=gi v
 refine q (g (s (xi r) (s (jU r) (n (kP ?_)))))
 obtain rfl:=sm v
 exact rO r (kT r) (kT r) (lw (⟨r,(a.dp [])⟩))
def Cz (m:(List BA)→Option (Bool)):Prop:=∀ {c:World} {f:Nat→Prop} {d:(List BA)} {a:Option Addr} {b:Nat} {e:Bool},Pre c f [] [.l a b d]→m d=some e→
 Calls Try.prog 69 #[Z a d b] c (rf fun v w=>v=.bool e∧Bx c w f (lT []) [] [])
def lN (fu:Nat):List BA→Nat→(List (BA × Bool))→Option (Ld (List (BA × Bool)) (Bool))
 | [],_,a=>some (.go a)
 | b :: c,d,a=>
 if ((qa a b).getD false)=true then
  some (.out true)
 else
  lN fu c (d+1) (Cb a b true)
def oh (fu:Nat)(b:(List BA)):Option (Bool):=
 (lN fu b 0 ([]:List (BA × Bool))).bind fun c=>c.el (fun a=>
 some false
 ) (fun o=>some o)
theorem zQ (fu:Nat):Cz (oh fu):=by
 intro D R i c d J E m
 unfold oh at m
 have e:=E.bx
 clear E
 generalize K:lT _=G at e ⊢
 refine cf Try.func69 r (ma [(0,Z c i d)] ⟨r,y⟩ fun S=>q (g (s (jU r) (n (q (g (qF (O4 e (κ:=BA) (ν:=Bool) nV TT Pb) ?_)))))))
 rintro _ L ⟨x,rfl,e⟩
 refine s (Ve r) (n (q (q (g (s (mD r) (s (lg kL r) (s (mi r) (n ?_))))))))
 have H:=(e.dl 0 r).bd
 obtain ⟨F,b,m⟩:=bs m
 refine oC (fun f w=>∃ (a:List (BA × Bool)),Has f []∧Bx D w R G [.map nV TT x a] [.l c d i]∧Ld.go a=F) (fun M A=>?_) ?_
 ·refine nZ (kH (fun U f w=>∃ (j:Nat)(a:List (BA × Bool)),U=i.length - j∧j≤i.length∧Has f [(9,V (j:Int)),(3,.map (some x)),(7,Z c i d),(8,V (i.length:Int))]∧Bx D w R G [.map nV TT x a] [.l c d i]∧lN fu (i.drop j) j a=some F) (i.length) ⟨0,([]:List (BA × Bool)),r,Nat.zero_le _,⟨r,r,r,r,y⟩,e,b⟩ ?_)
  clear e b
  rintro U f w ⟨j,a,rfl,I,hf,e,b⟩ N B
  obtain ⟨S,rfl⟩:=gP _ _ hf
  clear hf
  rcases Nat.lt_or_ge j i.length with p | p
  ·obtain ⟨v,o⟩:=lL (l:=i) p
   rw [mQ o,lN] at b
   refine q (g (s (qK r r (by omega)) (n (q (jH r (wk (q (nZ (q (g (s (kZ kL pV r r r (e.dl 0 r) o) (s (kz rH r r ((vo (ds:=[T v]) (e.dl 0 r) o (fun _ h=>h)) 0 _ r)) (s (mZ r) (n (q (q (g (s (TV r) (s (lc r) (s (RN (ek:=nV) (ev:=TT) (l:=a) (k:=v) (z:=false) Pb (Cc rH) (KX VQ) (e.mp 0 r) r r) (n ?_)))))))))))))))))))))
   rcases iv b with ⟨t,b⟩|⟨t,b⟩
   ·refine jH (cb t) (q (g (s (jU r) (n (kP ?_)))))
    obtain rfl:=sm b
    replace m:=oi m
    obtain rfl:=sm m
    exact jC r (kT r) ⟨r,(e.ad [] [])⟩
   replace t:=nt t
   refine jI (cb t) (wk (g (s (TV r) (s (lc r) (lu (Pj e 0 (ek:=nV) (ev:=TT) (l:=a) (k:=v) (u:=true) r Pb (Cc rH) r r r) ?_)))))
   intro Q e
   try dsimp only [List.set] at e
   exact n (g (s (mg r r (by omega) (by omega)) (s (mi r) (n (B (i.length - (j+1)) _ _ (by omega) ⟨j+1,(Cb a v true),r,by omega,⟨r,r,r,r,y⟩,e,b⟩)))))
  obtain rfl:j=i.length:=by omega
  rw [lH,lN] at b
  exact q (g (s (qL r r (by omega)) (n (q (jI r (uW (A _ _ ⟨a,y,e,sm b⟩)))))))
 clear e
 rintro f w ⟨a,hf,e,C⟩
 obtain ⟨S,rfl⟩:=gP _ _ hf
 clear hf
 subst C
 replace m:=gi m
 refine q (g (s (jU r) (n (kP ?_))))
 obtain rfl:=sm m
 exact jC r (kT r) ⟨r,(e.ad [] [])⟩
def FD (m:(List BA)→BA→Option (Int)):Prop:=∀ {c:World} {h:Nat→Prop} {d:(List BA)} {e:BA} {a:Option Addr} {b:Nat} {f:Int},Pre c h [] [.l a b d]→m d e=some f→
 Calls Try.prog 142 #[Z a d b,T e] c (rf fun v w=>v=V f∧Bx c w h (lT []) [] [])
def mP (fu:Nat)(a:BA):List BA→Nat→Option (Ld (Unit) (Int))
 | [],_=>some (.go ())
 | c :: d,b=>
 if a=c then
  some (.out (b:Int))
 else
  mP fu a d (b+1)
def uH (fu:Nat)(a:(List BA)) (b:BA):Option (Int):=
 (mP fu b a 0).bind fun c=>c.el (fun _=>
 some (-1)
 ) (fun o=>some o)
theorem Fz (fu:Nat):FD (uH fu):=by
 intro x J d o b c E z j
 unfold uH at j
 have e:=z.bx
 clear z
 generalize F:lT _=G at e ⊢
 refine cf Try.func142 r (ma [(0,Z b d c),(1,T o)] ⟨r,r,y⟩ fun K=>q (g (s (xi r) (n (q (q (g (s (mD r) (s (lg kL r) (s (mi r) (n ?_)))))))))))
 have B:=(e.dl 0 r).bd
 obtain ⟨A,a,j⟩:=bs j
 refine oC (fun f w=>Has f []∧Bx x w J G [] [.l b c d]∧Ld.go ()=A) (fun H p=>?_) ?_
 ·refine nZ (kH (fun L f w=>∃ (i:Nat),L=d.length - i∧i≤d.length∧Has f [(8,V (i:Int)),(0,Z b d c),(1,T o),(7,V (d.length:Int))]∧Bx x w J G [] [.l b c d]∧mP fu o (d.drop i) i=some A) (d.length) ⟨0,r,Nat.zero_le _,⟨r,r,r,r,y⟩,e,a⟩ ?_)
  clear e a
  rintro L f w ⟨i,rfl,C,hf,e,a⟩ I t
  obtain ⟨K,rfl⟩:=gP _ _ hf
  clear hf
  rcases Nat.lt_or_ge i d.length with m | m
  ·obtain ⟨D,k⟩:=lL (l:=d) m
   rw [mQ k,mP] at a
   refine q (g (s (qK r r (by omega)) (n (q (jH r (wk (q (nZ (q (g (s (mi r) (s (xi r) (n (q (g (s (lc r) (s (mD r) (s (mi r) (s (kZ kL pV r r r (e.dl 0 r) k) (s (kz rH r r ((vo (ds:=[T D]) (e.dl 0 r) k (fun _ h=>h)) 0 _ r)) (s (rT r r) (n ?_))))))))))))))))))))))
   rcases iv a with ⟨u,a⟩|⟨u,a⟩
   ·refine jH (bt u) (q (g (s (mi r) (s (xi r) (n (kP ?_))))))
    obtain rfl:=sm a
    replace j:=oi j
    obtain rfl:=sm j
    exact jC r (kT r) ⟨r,(e.dp [])⟩
   exact jI (bf u) (wk (g (s (mg r r (by omega) (by omega)) (s (mi r) (n (t (d.length - (i+1)) _ _ (by omega) ⟨i+1,r,by omega,⟨r,r,r,r,y⟩,e,a⟩))))))
  obtain rfl:i=d.length:=by omega
  rw [lH,mP] at a
  exact q (g (s (qL r r (by omega)) (n (q (jI r (uW (p _ _ ⟨y,e,sm a⟩)))))))
 clear e
 rintro f w ⟨hf,e,v⟩
 obtain ⟨K,rfl⟩:=gP _ _ hf
 clear hf
 subst v
 replace j:=gi j
 refine q (g (s (xi r) (n (kP ?_))))
 obtain rfl:=sm j
 exact jC r (kT r) ⟨r,(e.dp [])⟩
def FH (m:(List BA)→Option ((List BA))):Prop:=∀ {f:World} {j:Nat→Prop} {h:(List BA)} {a:Option Addr} {b:Nat} {i:(List BA)},Pre f j [] [.l a b h]→m h=some i→
 Calls Try.prog 70 #[Z a h b] f (rf fun v w=>∃ (c:OA)(d:Nat)(e:LV),v=Z c i d∧Bx f w j (lT []) [O f.heap.size c d 9 BA e] [.els e i])
def qM (fu:Nat)(a:(List BA)):Option ((List BA)):=
 (app ([]:List BA) a).bind fun b=>
 some b
theorem BO (fu:Nat):FH (qM fu):=by
 intro o x j a c p h d
 unfold qM at d
 have b:=h.bx
 clear h
 generalize t:lT _=G at b ⊢
 refine cf Try.func70 r (ma [(0,Z a j c)] ⟨r,y⟩ fun z=>q (g (s (nJ r) (n (q (q (g (s (mD r) (s (Sg kL r r) (n ?_))))))))))
 rcases Classical.em (a=none) with f | f
 ·refine jH (bt f) (q (g (s (nJ r) (n (kP ?_)))))
  replace b:=b.BQ BA 9
  have hz:=(b.dl 1 r).RL f
  subst hz
  obtain ⟨i,e,d⟩:=bs d
  obtain rfl:=sm d
  obtain rfl:i=[]:=(pK e).2.symm
  exact jC r (kT r) ⟨none,0,[],r,(b.dp [0])⟩
 refine jI (bf f) (wk (q (g (qF (jV b [] ([]:List BA) (mO) r r (by decide) y) ?_))))
 rintro _ u ⟨v,rfl,b⟩
 refine s (mD r) ?_
 obtain ⟨i,e,d⟩:=bs d
 refine qF (kS b 0 0 r r kL pV r (by decide) (by decide) (Nat.le_refl _) r r (b.VH 1 r) e) ?_
 rintro _ w ⟨k,l,m,rfl,b⟩
 refine s (nJ r) (n (kP ?_))
 obtain rfl:=sm d
 exact jC r (kT r) ⟨k,l,m,r,(b.dp [0])⟩
def Fv (m:Gc→BA→Option (Int × Bool)):Prop:=∀ {P:World} {X:Nat→Prop} {a:Gc} {S:BA} {Q:Nat} {b:Nat} {c:Nat} {d:Option Addr} {e:Nat} {A:List (List Value)} {H:Nat} {f:Option Addr} {h:Nat} {B:List (List Value)} {I:Nat} {i:Option Addr} {j:Nat} {C:List (List Value)} {J:Nat} {k:Option Addr} {l:Nat} {D:List (List Value)} {K:Nat} {o:Option Addr} {p:Nat} {E:List (List Value)} {L:Nat} {t:Option Addr} {u:Nat} {F:List (List Value)} {M:Nat} {x:Option Addr} {z:Nat} {G:List (List Value)} {N:Nat} {R:Int × Bool},Pre P X [.box Q 107 #[.map (some b),.map (some c),Z d a.a.a.a e,Z f a.a.a.b h,Z i a.a.c j,Z k a.a.b l,Z o a.b p,Z t a.g u,Z x a.d z,V a.f,V a.c],.map nV oG b a.h,.map nV oG c a.e,O H d e 127 Gr A,O I f h 82 Gn B,O J i j 60 (List Gv) C,O K k l 65 Gi D,O L o p 3 Int E,O M t u 59 Gv F,O N x z 3 Int G] [.els A a.a.a.a,.els B a.a.a.b,.els C a.a.c,.els D a.a.b,.els E a.b,.els F a.g,.els G a.d]→H≤P.heap.size→I≤P.heap.size→J≤P.heap.size→K≤P.heap.size→L≤P.heap.size→M≤P.heap.size→N≤P.heap.size→m a S=some R→
 Calls Try.prog 140 #[Pt Q,T S] P (rf fun v w=>iA R fun U W=>v=.tuple #[V U,.bool W]∧Bx P w X (lT [.box Q 107 #[.map (some b),.map (some c),Z d a.a.a.a e,Z f a.a.a.b h,Z i a.a.c j,Z k a.a.b l,Z o a.b p,Z t a.g u,Z x a.d z,V a.f,V a.c],.map nV oG b a.h,.map nV oG c a.e,O H d e 127 Gr A,O I f h 82 Gn B,O J i j 60 (List Gv) C,O K k l 65 Gi D,O L o p 3 Int E,O M t u 59 Gv F,O N x z 3 Int G]) [.box Q 107 #[.map (some b),.map (some c),Z d a.a.a.a e,Z f a.a.a.b h,Z i a.a.c j,Z k a.a.b l,Z o a.b p,Z t a.g u,Z x a.d z,V a.f,V a.c],.map nV oG b a.h,.map nV oG c a.e,O H d e 127 Gr A,O I f h 82 Gn B,O J i j 60 (List Gv) C,O K k l 65 Gi D,O L o p 3 Int E,O M t u 59 Gv F,O N x z 3 Int G] [.els A a.a.a.a,.els B a.a.a.b,.els C a.a.c,.els D a.a.b,.els E a.b,.els F a.g,.els G a.d])
def mh (fu:Nat)(a:Gc) (b:BA):List Int→Nat→Option (Ld (Unit) (Int × Bool))
 | [],_=>some (.go ())
 | c :: d,e=>
 (ix a.g c).bind fun f=>
 if f.a=b then
  some (.out (c,true))
 else
  mh fu a b d (e+1)
def oN (fu:Nat)(a:Gc) (b:BA):Option (Int × Bool):=
 (mh fu a b a.d 0).bind fun c=>c.el (fun _=>
 some (0,false)
 ) (fun o=>some o)
theorem BN (fu:Nat):Fv (oN fu):=by
 intro w0 ax a x1 a0 d e j m E N o p F Q t u H S v x I U z A J W B C K X b c L Y R hP a7 a8 a9 aa ab ac ae hM
 unfold oN at hM
 have M:=hP.bx
 clear hP
 generalize hG:lT _=G at M ⊢
 refine cf Try.func140 r (ma [(0,Pt a0),(1,T x1)] ⟨r,r,y⟩ fun ay=>q (g (s (xi r) (s (jU r) (n (q (q (g (s (mp r) (s (xn r) (s (BD r) (s (Ko r (M.bk 0 r) r) (s (lg vE r) (s (mi r) (n ?_)))))))))))))))
 have ao:=(M.vw 9 6 r r).bd
 obtain ⟨Y1,D,hM⟩:=bs hM
 refine oC (fun f w=>Has f []∧Bx w0 w ax G [.box a0 107 #[.map (some d),.map (some e),Z j a.a.a.a m,Z o a.a.a.b p,Z t a.a.c u,Z v a.a.b x,Z z a.b A,Z B a.g C,Z b a.d c,V a.f,V a.c],.map nV oG d a.h,.map nV oG e a.e,O N j m 127 Gr E,O Q o p 82 Gn F,O S t u 60 (List Gv) H,O U v x 65 Gi I,O W z A 3 Int J,O X B C 59 Gv K,O Y b c 3 Int L] [.els E a.a.a.a,.els F a.a.a.b,.els H a.a.c,.els I a.a.b,.els J a.b,.els K a.g,.els L a.d]∧Ld.go ()=Y1) (fun J1 ag=>?_) ?_
 ·refine nZ (kH (fun az f w=>∃ (k1:Nat),az=a.d.length - k1∧k1≤a.d.length∧Has f [(13,V (k1:Int)),(0,Pt a0),(1,T x1),(11,Z b a.d c),(12,V (a.d.length:Int))]∧Bx w0 w ax G [.box a0 107 #[.map (some d),.map (some e),Z j a.a.a.a m,Z o a.a.a.b p,Z t a.a.c u,Z v a.a.b x,Z z a.b A,Z B a.g C,Z b a.d c,V a.f,V a.c],.map nV oG d a.h,.map nV oG e a.e,O N j m 127 Gr E,O Q o p 82 Gn F,O S t u 60 (List Gv) H,O U v x 65 Gi I,O W z A 3 Int J,O X B C 59 Gv K,O Y b c 3 Int L] [.els E a.a.a.a,.els F a.a.a.b,.els H a.a.c,.els I a.a.b,.els J a.b,.els K a.g,.els L a.d]∧mh fu a x1 (a.d.drop k1) k1=some Y1) (a.d.length) ⟨0,r,Nat.zero_le _,⟨r,r,r,r,r,y⟩,M,D⟩ ?_)
  clear M D
  rintro az f w ⟨k1,rfl,ap,hf,M,D⟩ K1 ah
  obtain ⟨ay,rfl⟩:=gP _ _ hf
  clear hf
  rcases Nat.lt_or_ge k1 a.d.length with a6 | a6
  ·obtain ⟨u1,a4⟩:=lL (l:=a.d) a6
   rw [mQ a4,mh] at D
   refine q (g (s (qK r r (by omega)) (n (q (jH r (wk (q (nZ (q (g (s (kZ vE pJ r r r (M.vw 9 6 r r) a4) (s (kz EU r r ((vo (ds:=[V u1]) (M.vw 9 6 r r) a4 (fun _ h=>h)) 0 _ r)) (s (xi r) (n (q (g (s (mp r) (s (xn r) (s (Ac r) (s (Qw r (M.bk 0 r) r) (s (mi r) ?_)))))))))))))))))))))
   obtain ⟨e2,a3,D⟩:=bs D
   obtain ⟨k2,ai,a3⟩:=kG a3
   refine s (kZ uZ wz r r ai (M.vw 8 5 r r) a3) (s (MW r) (s (kz rH r r ((vo (ds:=[T e2.a,V e2.e,V e2.b,V e2.f,.bool e2.c,V e2.d,V e2.g]) (M.vw 8 5 r r) a3 (fun _ h=>h)) 0 _ r)) (s (lc r) (s (rT r r) (n ?_)))))
   rcases iv D with ⟨h3,D⟩|⟨h3,D⟩
   ·refine jH (bt h3) (q (g (s (mi r) (s (xi r) (s (jU r) (n (kP ?_)))))))
    obtain rfl:=sm D
    replace hM:=oi hM
    obtain rfl:=sm hM
    exact rO r (kT r) (kT r) (lw (⟨r,M⟩))
   exact jI (bf h3) (wk (g (s (mg r r (by omega) (by omega)) (s (mi r) (n (ah (a.d.length - (k1+1)) _ _ (by omega) ⟨k1+1,r,by omega,⟨r,r,r,r,r,y⟩,M,D⟩))))))
  obtain rfl:k1=a.d.length:=by omega
  rw [lH,mh] at D
  exact q (g (s (qL r r (by omega)) (n (q (jI r (uW (ag _ _ ⟨y,M,sm D⟩)))))))
 clear M
 rintro f w ⟨hf,M,ak⟩
 obtain ⟨ay,rfl⟩:=gP _ _ hf
 clear hf
 subst ak
 replace hM:=gi hM
 refine q (g (s (xi r) (s (jU r) (n (kP ?_)))))
 obtain rfl:=sm hM
 exact rO r (kT r) (kT r) (lw (⟨r,M⟩))
def F5 (m:Gc→Gv→Option (Int × Gc)):Prop:=∀ {w0:World} {a4:Nat→Prop} {b:Gc} {x1:Gv} {a1:Nat} {c:Nat} {d:Nat} {e:Option Addr} {f:Nat} {u:List (List Value)} {C:Nat} {h:Option Addr} {i:Nat} {x:List (List Value)} {D:Nat} {j:Option Addr} {k:Nat} {z:List (List Value)} {E:Nat} {l:Option Addr} {o:Nat} {A:List (List Value)} {F:Nat} {p:Option Addr} {t:Nat} {B:List (List Value)} {G:Nat} {H:Option Addr} {I:Nat} {N:List (List Value)} {J:Nat} {K:Option Addr} {L:Nat} {P:List (List Value)} {M:Nat} {R:Int × Gc},Pre w0 a4 [.box a1 107 #[.map (some c),.map (some d),Z e b.a.a.a f,Z h b.a.a.b i,Z j b.a.c k,Z l b.a.b o,Z p b.b t,Z H b.g I,Z K b.d L,V b.f,V b.c],.map nV oG c b.h,.map nV oG d b.e,O C e f 127 Gr u,O D h i 82 Gn x,O E j k 60 (List Gv) z,O F l o 65 Gi A,O G p t 3 Int B,O J H I 59 Gv N,O M K L 3 Int P] [.els u b.a.a.a,.els x b.a.a.b,.els z b.a.c,.els A b.a.b,.els B b.b,.els N b.g,.els P b.d]→C≤w0.heap.size→D≤w0.heap.size→E≤w0.heap.size→F≤w0.heap.size→G≤w0.heap.size→J≤w0.heap.size→M≤w0.heap.size→m b x1=some R→
 Calls Try.prog 95 #[Pt a1,.agg #[T x1.a,V x1.e,V x1.b,V x1.f,.bool x1.c,V x1.d,V x1.g]] w0 (rf fun v w=>iA R fun r0 a=>∃ (Q:OA)(S:Nat)(U:LV)(W:OA)(X:Nat)(Y:LV),v=V r0∧Bx w0 w a4 (lT [.box a1 107 #[.map (some c),.map (some d),Z e b.a.a.a f,Z h b.a.a.b i,Z j b.a.c k,Z l b.a.b o,Z p b.b t,Z H b.g I,Z K b.d L,V b.f,V b.c],.map nV oG c b.h,.map nV oG d b.e,O C e f 127 Gr u,O D h i 82 Gn x,O E j k 60 (List Gv) z,O F l o 65 Gi A,O G p t 3 Int B,O J H I 59 Gv N,O M K L 3 Int P]) [.box a1 107 #[.map (some c),.map (some d),Z e a.a.a.a f,Z h a.a.a.b i,Z j a.a.c k,Z l a.a.b o,Z p a.b t,Z Q a.g S,Z W a.d X,V a.f,V a.c],.map nV oG c a.h,.map nV oG d a.e,O C e f 127 Gr u,O D h i 82 Gn x,O E j k 60 (List Gv) z,O F l o 65 Gi A,O G p t 3 Int B,O J Q S 59 Gv U,O M W X 3 Int Y] [.els u a.a.a.a,.els x a.a.a.b,.els z a.a.c,.els A a.a.b,.els B a.b,.els U a.g,.els Y a.d])
def pR (fu:Nat)(a:Gc) (b:Gv):Option (Int × Gc):=
 (app a.g ([(⟨b.a,b.e,b.b,b.f,b.c,(a.a.b.length:Int),b.g⟩:Gv)]:List Gv)).bind fun c=>
 (app a.d ([(wr ((c.length:Int) - 1))]:List Int)).bind fun d=>
 some ((wr ((c.length:Int) - 1)),(⟨a.h,a.e,a.a,a.b,c,d,a.f,a.c⟩:Gc))
theorem BX (fu:Nat):F5 (pR fu):=by
 intro w0 ay c d a1 f h j l F H m o I J p t K L u v M N w x Q S B C U W z A X Y R hP a3 a4 a5 a6 a7 D E hM
 unfold pR at hM
 have a:=hP.bx
 clear hP
 generalize hG:lT _=G at a ⊢
 refine cf Try.func95 r (ma [(0,Pt a1),(1,.agg #[T d.a,V d.e,V d.b,V d.f,.bool d.c,V d.d,V d.g])] ⟨r,r,y⟩ fun az=>q (g (tL a (yI r) fun w1 b1 a=>s (xi r) (n (q (g (s (mp r) (s (xn r) (s (xK r) (s (zT r) (s (MJ r (a.bk 1 r) r) (s (lg Ca r) (s (NZ r) (lu (lW a 0 [V (c.a.b.length:Int)] r pJ r r) fun w2 a=>n (q (Fa a [0] [] [0,1] [] [10] (by kernel_rfl) ?_))))))))))))))))
 replace a:=a.drew
 have b:=(a.ad [0] [])
 have e:=(a.ad [0,1] [])
 refine pL 0 r (mp r) b e (pL 1 r (mp r) b e (pL 2 r (xn r) b e (pL 3 r (Ac r) b e (tS 1 4 r (fun _ hS=>Qw r (hS.bk 1 r) r) (mH b e) (tU 5 r (fun _ hS=>mE [T d.a,V d.e,V d.b,V d.f,.bool d.c,V (c.a.b.length:Int),V d.g] HY wz r (hS.bk 0 r)) (mH b e) (hO 6 (oo r r (jV a [[T d.a,V d.e,V d.b,V d.f,.bool d.c,V (c.a.b.length:Int),V d.g]] ([(⟨d.a,d.e,d.b,d.f,d.c,(c.a.b.length:Int),d.g⟩:Gv)]:List Gv) (KW r) r r (by decide) ⟨r,y⟩) ?_)))))))
 rintro _ w3 ⟨b3,rfl,a⟩
 have b:=(a.ad [1] [])
 have e:=(a.ad [1,2] [])
 refine ⟨(mH b e),?_⟩
 obtain ⟨r4,aa,hM⟩:=bs hM
 refine hO 7 (oo r r (kS a 10 6 r r uZ wz r (by decide) (by decide) D r r (a.AJ 0 0 r r) aa) ?_)
 rintro _ w4 ⟨A4,C4,Q4,rfl,a⟩
 have b:=(a.ad [1] [])
 have e:=(a.ad [1,2] [])
 refine ⟨(mH b e),(pL 8 r (xn r) b e (pL 9 r (Ac r) b e (hO 10 (os r r (lW a 2 [Z A4 r4 C4] r Br r r) fun w6 a=>?_))))⟩
 have b:=(a.ad [1] [])
 refine ⟨(sy 10 b),(hD (q (Fa a [] [] [2] [] [15] (by kernel_rfl) ?_)))⟩
 replace a:=a.drew
 have b:=(a.ad [] [])
 have e:=(a.ad [2] [])
 refine pL 0 r (mp r) b e (pL 1 r (mp r) b e (pL 2 r (xn r) b e (pL 3 r (BD r) b e (tS 1 4 r (fun _ hS=>Ko r (hS.bk 0 r) r) (mH b e) (pL 5 r (mp r) b e (pL 6 r (xn r) b e (pL 7 r (Ac r) b e (tS 1 8 r (fun _ hS=>Qw r (hS.bk 0 r) r) (mH b e) (pL 9 r (lg uZ r) b e (pL 10 r (xU r r) b e (hO 11 (oo r r (jV a [[V (wr ((r4.length:Int) - 1))]] ([(wr ((r4.length:Int) - 1))]:List Int) (Cq r) r r (by decide) ⟨r,y⟩) ?_))))))))))))
 rintro _ w7 ⟨b7,rfl,a⟩
 have b:=(a.ad [] [])
 have e:=(a.ad [3] [])
 refine ⟨(mH b e),?_⟩
 obtain ⟨r8,ab,hM⟩:=bs hM
 refine hO 12 (oo r r (kS a 12 8 r r vE pJ r (by decide) (by decide) E r r (a.AJ 0 0 r r) ab) ?_)
 rintro _ w8 ⟨A8,C8,Q8,rfl,a⟩
 have b:=(a.ad [] [])
 have e:=(a.ad [3] [])
 refine ⟨(mH b e),(pL 13 r (xn r) b e (pL 14 r (BD r) b e (hO 15 (os r r (lW a 3 [Z A8 r8 C8] r Er r r) fun aj a=>?_))))⟩
 have b:=(a.ad [] [])
 refine ⟨(sy 15 b),(hD (q (g (s (mp r) (s (xn r) (s (Ac r) (s (Qw r (a.bk 3 r) r) (s (lg uZ r) (s (xU r r) (s (xi r) (n (kP ?_))))))))))))⟩
 obtain rfl:=sm hM
 exact jC r (kT r) (lw (⟨A4,C4,Q4,A8,C8,Q8,r,(a.ad [3,4,5,6,7,8,9,10,11,12] [2,3,4,5,6,7,8])⟩))
def Em (m:Gc→Int→Option (Gc)):Prop:=∀ {Y:World} {a2:Nat→Prop} {b:Gc} {x1:Int} {a0:Nat} {c:Nat} {d:Nat} {e:Option Addr} {f:Nat} {u:List (List Value)} {C:Nat} {h:Option Addr} {i:Nat} {x:List (List Value)} {D:Nat} {j:Option Addr} {k:Nat} {z:List (List Value)} {E:Nat} {l:Option Addr} {o:Nat} {A:List (List Value)} {F:Nat} {p:Option Addr} {t:Nat} {B:List (List Value)} {G:Nat} {H:Option Addr} {I:Nat} {N:List (List Value)} {J:Nat} {K:Option Addr} {L:Nat} {P:List (List Value)} {M:Nat} {a:Gc},Pre Y a2 [.box a0 107 #[.map (some c),.map (some d),Z e b.a.a.a f,Z h b.a.a.b i,Z j b.a.c k,Z l b.a.b o,Z p b.b t,Z H b.g I,Z K b.d L,V b.f,V b.c],.map nV oG c b.h,.map nV oG d b.e,O C e f 127 Gr u,O D h i 82 Gn x,O E j k 60 (List Gv) z,O F l o 65 Gi A,O G p t 3 Int B,O J H I 59 Gv N,O M K L 3 Int P] [.els u b.a.a.a,.els x b.a.a.b,.els z b.a.c,.els A b.a.b,.els B b.b,.els N b.g,.els P b.d]→C≤Y.heap.size→D≤Y.heap.size→E≤Y.heap.size→F≤Y.heap.size→G≤Y.heap.size→J≤Y.heap.size→M≤Y.heap.size→m b x1=some a→
 Calls Try.prog 97 #[Pt a0,V x1] Y (rf fun v w=>∃ (Q:OA)(R:Nat)(S:LV)(U:OA)(W:Nat)(X:LV),v=.tuple #[]∧Bx Y w a2 (lT [.box a0 107 #[.map (some c),.map (some d),Z e b.a.a.a f,Z h b.a.a.b i,Z j b.a.c k,Z l b.a.b o,Z p b.b t,Z H b.g I,Z K b.d L,V b.f,V b.c],.map nV oG c b.h,.map nV oG d b.e,O C e f 127 Gr u,O D h i 82 Gn x,O E j k 60 (List Gv) z,O F l o 65 Gi A,O G p t 3 Int B,O J H I 59 Gv N,O M K L 3 Int P]) [.box a0 107 #[.map (some c),.map (some d),Z e a.a.a.a f,Z h a.a.a.b i,Z j a.a.c k,Z l a.a.b o,Z p a.b t,Z Q a.g R,Z U a.d W,V a.f,V a.c],.map nV oG c a.h,.map nV oG d a.e,O C e f 127 Gr u,O D h i 82 Gn x,O E j k 60 (List Gv) z,O F l o 65 Gi A,O G p t 3 Int B,O J Q R 59 Gv S,O M U W 3 Int X] [.els u a.a.a.a,.els x a.a.a.b,.els z a.a.c,.els A a.a.b,.els B a.b,.els S a.g,.els X a.d])
def kJ (fu:Nat)(c:Gc):List Int→Nat→(List Gv)→Option (Ld (List Gv) (Gc))
 | [],_,a=>some (.go a)
 | d :: e,f,a=>
 (ix a d).bind fun b=>
 (st a d (⟨b.a,b.e,b.b,b.f,b.c,b.d,(wr ((c.a.b.length:Int) - 1))⟩:Gv)).bind fun h=>
 kJ fu c e (f+1) h
def lC (fu:Nat)(a:Gc) (c:Int):Option (Gc):=
 (sl a.d c (a.d.length:Int)).bind fun d=>
 (kJ fu a d 0 a.g).bind fun f=>f.el (fun b=>
 (sl a.d 0 c).bind fun e=>
 some (⟨a.h,a.e,a.a,a.b,b,e,a.f,a.c⟩:Gc)
 ) (fun o=>some o)
theorem yQ (fu:Nat):Em (lC fu):=by
 intro w0 bj c x1 a8 p t u v L X x B M Y D E N a0 F H R a1 I J S a2 a3 a4 ab a5 a b K a6 b0 hP ax ay az aA aB aC aD hM
 unfold lC at hM
 have o:=hP.bx
 clear hP
 generalize hG:lT _=G at o ⊢
 refine cf Try.func97 r (ma [(0,Pt a8),(1,V x1)] ⟨r,r,y⟩ fun bl=>q (q (g (s (mp r) (s (xn r) (s (BD r) (s (Ko r (o.bk 0 r) r) (s (mi r) ?_))))))))
 obtain ⟨l1,aG,hM⟩:=bs hM
 obtain ⟨i1,j1,aH,b2,ac,am,ah⟩:=AX aG
 have ap:l1.length=j1 - i1:=by rw [← ah,List.length_take,List.length_drop];omega
 obtain ⟨A1,ai⟩:∃ A,(if b=i1 then a else a.map (·.add (i1 * sz Int)))=A:=⟨_,rfl⟩
 obtain ⟨C1,aj⟩:∃ C,(b - i1)=C:=⟨_,rfl⟩
 have aK:Value.slice (if b=i1 then a else a.map (·.add (i1 * sz Int))) (c.d.length - i1) (b - i1)=Value.slice A1 l1.length C1:=by rw [ap,← ai,← aj];simp;try omega
 refine s (show Yl _ _ _ _ _ _ _ _ _ (.slice A1 l1.length C1) from aK ▸ Rh i1 vE pJ r r aH (by omega)) (s (lg vE r) (s (mi r) (n ?_)))
 have b3:=(ll.Ji (o.vw 9 6 r r) ac am ah ai aj).bd
 obtain ⟨Y2,U,hM⟩:=bs hM
 refine oC (fun f w=>∃ (m:List Gv) (d:OA)(e:Nat)(j:LV),Has f [(0,Pt a8),(1,V x1)]∧Bx w0 w bj G [.box a8 107 #[.map (some p),.map (some t),Z u c.a.a.a v,Z x c.a.a.b B,Z D c.a.c E,Z F c.a.b H,Z I c.b J,Z d m e,Z a c.d b,V c.f,V c.c],.map nV oG p c.h,.map nV oG t c.e,O X u v 127 Gr L,O Y x B 82 Gn M,O a0 D E 60 (List Gv) N,O a1 F H 65 Gi R,O a2 I J 3 Int S,O a5 d e 59 Gv j,O a6 a b 3 Int K] [.els L c.a.a.a,.els M c.a.a.b,.els N c.a.c,.els R c.a.b,.els S c.b,.els j m,.els K c.d]∧Ld.go m=Y2) (fun J2 aL=>?_) ?_
 ·refine nZ (kH (fun bm f w=>∃ (k2:Nat)(m:List Gv) (d:OA)(e:Nat)(j:LV),bm=l1.length - k2∧k2≤l1.length∧Has f [(13,V (k2:Int)),(0,Pt a8),(1,V x1),(11,Z A1 l1 C1),(12,V (l1.length:Int))]∧Bx w0 w bj G [.box a8 107 #[.map (some p),.map (some t),Z u c.a.a.a v,Z x c.a.a.b B,Z D c.a.c E,Z F c.a.b H,Z I c.b J,Z d m e,Z a c.d b,V c.f,V c.c],.map nV oG p c.h,.map nV oG t c.e,O X u v 127 Gr L,O Y x B 82 Gn M,O a0 D E 60 (List Gv) N,O a1 F H 65 Gi R,O a2 I J 3 Int S,O a5 d e 59 Gv j,O a6 a b 3 Int K] [.els L c.a.a.a,.els M c.a.a.b,.els N c.a.c,.els R c.a.b,.els S c.b,.els j m,.els K c.d]∧kJ fu c (l1.drop k2) k2 m=some Y2) (l1.length) ⟨0,c.g,a3,a4,ab,r,Nat.zero_le _,⟨r,r,r,r,r,y⟩,o,U⟩ ?_)
  clear o U
  rintro bm f w ⟨k2,m,d,e,j,rfl,b4,hf,o,U⟩ K2 aM
  obtain ⟨bl,rfl⟩:=gP _ _ hf
  clear hf
  rcases Nat.lt_or_ge k2 l1.length with aq | aq
  ·obtain ⟨u2,an⟩:=lL (l:=l1) aq
   rw [mQ an,kJ] at U
   refine q (g (s (qK r r (by omega)) (n (q (jH r (wk (q (nZ (q (g (s (kZ vE pJ r r r (ll.Ji (o.vw 9 6 r r) ac am ah ai aj) an) (s (kz EU r r ((vo (ds:=[V u2]) (ll.Ji (o.vw 9 6 r r) ac am ah ai aj) an (fun _ h=>h)) 0 _ r)) (s (xi r) (n (Fa o [] [] [0] [] [14] (by kernel_rfl) ?_)))))))))))))))
   replace o:=o.drew
   have W:=(o.ad [] [])
   have hu:=(o.ad [0] [])
   refine pL 0 r (mp r) W hu (pL 1 r (xn r) W hu (pL 2 r (Ac r) W hu (tS 1 3 r (fun _ hS=>Qw r (hS.bk 0 r) r) (mH W hu) (pL 4 r (mi r) W hu (pL 5 r (mp r) W hu (pL 6 r (xn r) W hu (pL 7 r (xK r) W hu (pL 8 r (zT r) W hu (tS 1 9 r (fun _ hS=>MJ r (hS.bk 0 r) r) (mH W hu) (pL 10 r (lg Ca r) W hu (pL 11 r (xU r r) W hu ?_)))))))))))
   obtain ⟨e3,ak,U⟩:=bs U
   obtain ⟨k3,aN,ak⟩:=kG ak
   refine pL 12 r (kZ uZ wz r r aN (o.vw 8 5 r r) ak) W hu (pL 13 r (IY r) W hu ?_)
   obtain ⟨r4,al,U⟩:=bs U
   obtain ⟨z4,b6,_,al⟩:=A7 al
   obtain rfl:k3=z4:=by omega
   obtain ⟨d5,aO,ao⟩:=(o.de 5 rfl).get ak
   replace ao:d5=[T e3.a,V e3.e,V e3.b,V e3.f,.bool e3.c,V e3.d,V e3.g]:=ao
   subst ao
   refine hO 14 (os r r (Hy o 8 5 k3 6 [V (wr ((c.a.b.length:Int) - 1))] r r aO pJ r r r r r (show _=[T e3.a,V e3.e,V e3.b,V e3.f,.bool e3.c,V e3.d,V (wr ((c.a.b.length:Int) - 1))] from r) r al) ?_)
   rintro w4 ⟨Q4,o⟩
   try dsimp only [List.set] at o
   have ar:m.length=r4.length:=by rw [← al,List.length_set]
   try dsimp only [Z] at o
   try rw [ar] at o
   try dsimp only [Z]
   try rw [ar]
   have W:=(o.ad [] [])
   exact ⟨(sy 14 W),(hD (g (s (mg r r (by omega) (by omega)) (s (mi r) (n (aM (l1.length - (k2+1)) _ _ (by omega) ⟨k2+1,r4,d,e,Q4,r,by omega,⟨r,r,r,r,r,y⟩,o,U⟩))))))⟩
  obtain rfl:k2=l1.length:=by omega
  rw [lH,kJ] at U
  exact q (g (s (qL r r (by omega)) (n (q (jI r (uW (aL _ _ ⟨m,d,e,j,⟨r,r,y⟩,o,sm U⟩)))))))
 clear o
 rintro f w ⟨m,d,e,j,hf,o,aP⟩
 obtain ⟨bl,rfl⟩:=gP _ _ hf
 clear hf
 subst aP
 replace hM:=gi hM
 refine g (s (mp r) (s (mp r) (s (xn r) (s (BD r) (s (Ko r (o.bk 0 r) r) (s (mi r) ?_))))))
 obtain ⟨l6,aQ,hM⟩:=bs hM
 obtain ⟨i6,j6,ba,aS,aZ,au,av⟩:=AX aQ
 obtain rfl:i6=0:=by omega
 have aw:l6.length=j6:=by rw [← av,List.length_take,List.length_drop];omega
 refine s (show Yl _ _ _ _ _ _ _ _ _ (.slice a l6.length b) from (congrArg (fun z=>Value.slice a z b) aw).symm ▸ zS j6 vE pJ r r aS (Nat.le_trans au ((o.vw 9 6 r r)).cap)) (s (xn r) (s (BD r) ?_))
 replace o:=o.shr 9 6 r r au av
 try dsimp only [List.set] at o
 obtain ⟨Q7,aT⟩:∃ Q,K.take j6=Q:=⟨_,rfl⟩
 rw [aT] at o
 refine lu (lW o 0 [Z a l6 b] r Er r r) fun w8 o=>n ?_
 obtain rfl:=sm hM
 exact zV (P:=Try.prog) (fn:=Try.f97) r ⟨d,e,j,a,b,Q7,r,o⟩
def Dx (m:Gc→Gv→Option (Int × Int × Gc)):Prop:=∀ {w0:World} {a5:Nat→Prop} {b:Gc} {x1:Gv} {a1:Nat} {c:Nat} {d:Nat} {e:Option Addr} {f:Nat} {u:List (List Value)} {C:Nat} {h:Option Addr} {i:Nat} {x:List (List Value)} {D:Nat} {j:Option Addr} {k:Nat} {z:List (List Value)} {E:Nat} {l:Option Addr} {o:Nat} {A:List (List Value)} {F:Nat} {p:Option Addr} {t:Nat} {B:List (List Value)} {G:Nat} {H:Option Addr} {I:Nat} {N:List (List Value)} {J:Nat} {K:Option Addr} {L:Nat} {P:List (List Value)} {M:Nat} {R:Int × Int × Gc},Pre w0 a5 [.box a1 107 #[.map (some c),.map (some d),Z e b.a.a.a f,Z h b.a.a.b i,Z j b.a.c k,Z l b.a.b o,Z p b.b t,Z H b.g I,Z K b.d L,V b.f,V b.c],.map nV oG c b.h,.map nV oG d b.e,O C e f 127 Gr u,O D h i 82 Gn x,O E j k 60 (List Gv) z,O F l o 65 Gi A,O G p t 3 Int B,O J H I 59 Gv N,O M K L 3 Int P] [.els u b.a.a.a,.els x b.a.a.b,.els z b.a.c,.els A b.a.b,.els B b.b,.els N b.g,.els P b.d]→C≤w0.heap.size→D≤w0.heap.size→E≤w0.heap.size→F≤w0.heap.size→G≤w0.heap.size→J≤w0.heap.size→M≤w0.heap.size→m b x1=some R→
 Calls Try.prog 137 #[Pt a1,.agg #[T x1.a,V x1.e,V x1.b,V x1.f,.bool x1.c,V x1.d,V x1.g]] w0 (rf fun v w=>iA R fun r0 R=>iA R fun r1 a=>∃ (Q:OA)(S:Nat)(U:LV)(W:OA)(X:Nat)(Y:LV),v=.tuple #[V r0,V r1]∧Bx w0 w a5 (lT [.box a1 107 #[.map (some c),.map (some d),Z e b.a.a.a f,Z h b.a.a.b i,Z j b.a.c k,Z l b.a.b o,Z p b.b t,Z H b.g I,Z K b.d L,V b.f,V b.c],.map nV oG c b.h,.map nV oG d b.e,O C e f 127 Gr u,O D h i 82 Gn x,O E j k 60 (List Gv) z,O F l o 65 Gi A,O G p t 3 Int B,O J H I 59 Gv N,O M K L 3 Int P]) [.box a1 107 #[.map (some c),.map (some d),Z e a.a.a.a f,Z h a.a.a.b i,Z j a.a.c k,Z l a.a.b o,Z p a.b t,Z Q a.g S,Z W a.d X,V a.f,V a.c],.map nV oG c a.h,.map nV oG d a.e,O C e f 127 Gr u,O D h i 82 Gn x,O E j k 60 (List Gv) z,O F l o 65 Gi A,O G p t 3 Int B,O J Q S 59 Gv U,O M W X 3 Int Y] [.els u a.a.a.a,.els x a.a.a.b,.els z a.a.c,.els A a.a.b,.els B a.b,.els U a.g,.els Y a.d])
def nA (fu:Nat)(a:Gc) (e:Gv):Option (Int × Int × Gc):=
 (oN fu a e.a).bind fun h=>
 iA h fun f b=>
 if b=true then
  some (0,9,a)
 else
  if 24≤(a.g.length:Int) then
   some (0,5,a)
  else
   (pR fu a e).bind fun h=>
   iA h fun c d=>
   some (c,0,d)
theorem Ag (fu:Nat):Dx (nA fu):=by
 intro w0 av E l aa F H I J X Y K L a0 a1 M N a2 a3 Q S a4 a5 U W a6 a7 b c h a8 d e j a9 R hP m o p t u v w f
 unfold nA at f
 have a:=hP.bx
 clear hP
 generalize hG:lT _=G at a ⊢
 refine cf Try.func137 r (ma [(0,Pt aa),(1,.agg #[T l.a,V l.e,V l.b,V l.f,.bool l.c,V l.d,V l.g])] ⟨r,r,y⟩ fun aw=>q (g (tL a (yI r) fun w1 b1 a=>s (xi r) (s (xi r) (n (q (q (g (s (mp r) (s (MW r) (s (l9 r (a.bk 0 r) r) ?_)))))))))))
 obtain ⟨ag,ah,h2,f⟩:=lV f
 have hc:=(BN fu) (a.pr [1,2,3,4,5,6,7,8,9,10] [0] [0,1,2,3,4,5,6] r) (a.le m) (a.le o) (a.le p) (a.le t) (a.le u) (a.le v) (a.le w) h2
 refine sc (ec NY r) hc ?_
 rintro _ w2 ⟨rfl,hK⟩
 replace a:=a.cn [1,2,3,4,5,6,7,8,9,10] [0] hK
 refine s pQ (s (jO r r) (s (jO r r) (s (xi r) (s (jU r) (n (q (g (s (jZ r) (n ?_)))))))))
 rcases iv f with ⟨h3,f⟩|⟨h3,f⟩
 ·refine jH (cb h3) (q (g (s (xi r) (s (xi r) (n (kP ?_))))))
  obtain rfl:=sm f
  exact rO r (kT r) (kT r) (lw (lw (⟨b,c,h,d,e,j,r,(a.ad [0,1,2,3,4,5,6,7,8,9] [0,1,2,3,4,5,6])⟩)))
 replace h3:=nt h3
 refine jI (cb h3) (wk (q (q (g (s (mp r) (s (xn r) (s (Ac r) (s (Qw r (a.bk 0 r) r) (s (lg uZ r) (s (Bi r r) (n ?_)))))))))))
 rcases iv f with ⟨h4,f⟩|⟨h4,f⟩
 ·refine jH (bt h4) (q (g (s (xi r) (s (xi r) (n (kP ?_))))))
  obtain rfl:=sm f
  exact rO r (kT r) (kT r) (lw (lw (⟨b,c,h,d,e,j,r,(a.ad [0,1,2,3,4,5,6,7,8,9] [0,1,2,3,4,5,6])⟩)))
 refine jI (bf h4) (wk (q (g (s (mp r) (s (mE [T l.a,V l.e,V l.b,V l.f,.bool l.c,V l.d,V l.g] HY wz r (a.bk 10 r)) ?_)))))
 obtain ⟨ai,aj,h5,f⟩:=lV f
 have hc:=(BX fu) (a.pr [0,1,2,3,4,5,6,7,8,9] [10] [0,1,2,3,4,5,6] r) (a.le m) (a.le o) (a.le p) (a.le t) (a.le u) (a.le v) (a.le w) h5
 refine sc (ec QF r) hc ?_
 rintro _ w5 ⟨x,z,A,B,C,D,rfl,hK⟩
 replace a:=a.cn [0,1,2,3,4,5,6,7,8,9] [10] hK
 refine s (xi r) (s (xi r) (n (kP ?_)))
 obtain rfl:=sm f
 exact rO r (kT r) (kT r) (lw (lw (⟨x,z,A,B,C,D,r,(a.ad [0,1,2,3,4,5,6,7,8,9] [0,1,2,3,4,5,6])⟩)))
def CF (m:Gc→Gs→Option (Int × Int × Gc)):Prop:=∀ {w0:World} {af:Nat→Prop} {b:Gc} {P:Gs} {ab:Nat} {c:Nat} {d:Nat} {e:Option Addr} {f:Nat} {x:List (List Value)} {D:Nat} {h:Option Addr} {i:Nat} {z:List (List Value)} {E:Nat} {j:Option Addr} {k:Nat} {A:List (List Value)} {F:Nat} {o:Option Addr} {p:Nat} {B:List (List Value)} {G:Nat} {t:Option Addr} {u:Nat} {C:List (List Value)} {H:Nat} {I:Option Addr} {J:Nat} {Q:List (List Value)} {K:Nat} {L:Option Addr} {M:Nat} {S:List (List Value)} {N:Nat} {a2:Option Addr} {a3:Nat} {a4:Option Addr} {a5:Nat} {a6:Option Addr} {a7:Nat} {a8:Option Addr} {a9:Nat} {R:Int × Int × Gc},Pre w0 af [.box ab 107 #[.map (some c),.map (some d),Z e b.a.a.a f,Z h b.a.a.b i,Z j b.a.c k,Z o b.a.b p,Z t b.b u,Z I b.g J,Z L b.d M,V b.f,V b.c],.map nV oG c b.h,.map nV oG d b.e,O D e f 127 Gr x,O E h i 82 Gn z,O F j k 60 (List Gv) A,O G o p 65 Gi B,O H t u 3 Int C,O K I J 59 Gv Q,O N L M 3 Int S] [.els x b.a.a.a,.els z b.a.a.b,.els A b.a.c,.els B b.a.b,.els C b.b,.els Q b.g,.els S b.d,.l a2 a3 P.d,.l a4 a5 P.b,.l a6 a7 P.f,.l a8 a9 P.i]→D≤w0.heap.size→E≤w0.heap.size→F≤w0.heap.size→G≤w0.heap.size→H≤w0.heap.size→K≤w0.heap.size→N≤w0.heap.size→m b P=some R→
 Calls Try.prog 129 #[Pt ab,.agg #[V P.e,V P.c,V P.n,T P.a,T P.g,V P.m,V P.j,Z a2 P.d a3,T P.k,V P.h,Z a4 P.b a5,Z a6 P.f a7,Z a8 P.i a9]] w0 (rf fun v w=>iA R fun r0 R=>iA R fun r1 a=>∃ (U:OA)(W:Nat)(X:LV)(Y:OA)(a0:Nat)(a1:LV),v=.tuple #[V r0,V r1]∧Bx w0 w af (lT [.box ab 107 #[.map (some c),.map (some d),Z e b.a.a.a f,Z h b.a.a.b i,Z j b.a.c k,Z o b.a.b p,Z t b.b u,Z I b.g J,Z L b.d M,V b.f,V b.c],.map nV oG c b.h,.map nV oG d b.e,O D e f 127 Gr x,O E h i 82 Gn z,O F j k 60 (List Gv) A,O G o p 65 Gi B,O H t u 3 Int C,O K I J 59 Gv Q,O N L M 3 Int S]) [.box ab 107 #[.map (some c),.map (some d),Z e a.a.a.a f,Z h a.a.a.b i,Z j a.a.c k,Z o a.a.b p,Z t a.b u,Z U a.g W,Z Y a.d a0,V a.f,V a.c],.map nV oG c a.h,.map nV oG d a.e,O D e f 127 Gr x,O E h i 82 Gn z,O F j k 60 (List Gv) A,O G o p 65 Gi B,O H t u 3 Int C,O K U W 59 Gv X,O N Y a0 3 Int a1] [.els x a.a.a.a,.els z a.a.a.b,.els A a.a.c,.els B a.a.b,.els C a.b,.els X a.g,.els a1 a.d])
def qp (fu:Nat)(b:Gc) (a:Gs):Option (Ld (Int × Int × Int) (Int × Int × Gc)):=
 if ¬ a.g=(⟨#[]⟩:BA) then
  if (!((qa b.h a.g).isSome))=true then
   some (.out (0,8,b))
  else
   (ix b.a.a.a ((qa b.h a.g).getD 0)).bind fun c=>
   some (.go (2,((qa b.h a.g).getD 0),(c.b.length:Int)))
 else
  if 0 < a.m then
   some (.go (3,(-1),a.m))
  else
   some (.go (1,(-1),1))
def oZ (fu:Nat)(h:Gc) (i:Gs):Option (Int × Int × Gc):=
 (qp fu h i).bind fun j=>j.el (fun j=>
 iA j fun d j=>iA j fun e f=>
 (nA fu h (⟨i.a,d,e,f,false,0,0⟩:Gv)).bind fun j=>
 iA j fun a j=>iA j fun b c=>
 some (a,b,c)
 ) (fun o=>some o)
theorem Cy (fu:Nat):CF (oZ fu):=by
 intro w0 b9 c h ae t u v x M a6 A B N a7 C D Q a8 E F S a9 H I U aa j m J ab o p K ac an ao ap aq ar au av aw R hP af ag ah ai aj ak al L
 unfold oZ at L
 have a:=hP.bx
 clear hP
 generalize hG:lT _=G at a ⊢
 refine cf Try.func129 r (ma [(0,Pt ae),(1,.agg #[V h.e,V h.c,V h.n,T h.a,T h.g,V h.m,V h.j,Z an h.d ao,T h.k,V h.h,Z ap h.b aq,Z ar h.f au,Z av h.i aw])] ⟨r,r,y⟩ fun ba=>q (g (tL a (yI r) fun w1 b1 a=>s (xi r) (s (xi r) (n (q (g (s (xu r) (s (l9 r (a.bk 0 r) r) (s (DZ r r r r) (tL a (ko wz) fun w2 b2 a=>lu (nD a 0 [T h.a,V 1,V (-1),V 1,.bool false,V 0,V 0] r wz r r) fun w3 a=>n (q ?_))))))))))))
 obtain ⟨Y4,e,L⟩:=bs L
 refine oC (fun f w=>∃ (a3:Int)(a4:Int)(a5:Int),Has f [(0,Pt ae),(6,Pt b2)]∧Bx w0 w b9 G [.box b2 59 #[T h.a,V a3,V a4,V a5,.bool false,V 0,V 0],.box ae 107 #[.map (some t),.map (some u),Z v c.a.a.a x,Z A c.a.a.b B,Z C c.a.c D,Z E c.a.b F,Z H c.b I,Z j c.g m,Z o c.d p,V c.f,V c.c],.map nV oG t c.h,.map nV oG u c.e,O a6 v x 127 Gr M,O a7 A B 82 Gn N,O a8 C D 60 (List Gv) Q,O a9 E F 65 Gi S,O aa H I 3 Int U,O ab j m 59 Gv J,O ac o p 3 Int K] [.els M c.a.a.a,.els N c.a.a.b,.els Q c.a.c,.els S c.a.b,.els U c.b,.els J c.g,.els K c.d]∧Ld.go (a3,a4,a5)=Y4) (fun J4 ax=>?_) ?_
 ·unfold qp at e
  refine q (g (s (BH r) (s (l9 r (a.bk 1 r) r) (s (yO r r) (n ?_)))))
  rcases iv e with ⟨h5,e⟩|⟨h5,e⟩
  ·refine jH (bt h5) (q (oJ a [1,2,3] [] [] (by kernel_rfl) ?_))
   replace a:=a.drew
   have b:=(a.ad [1,2,3] [])
   refine pF 0 r (mp r) b (pF 1 r (xn r) b (pF 2 r (Ma r) b (uF 3 r (fun hS=>NF r (hS.bk 1 r) r) b (pF 4 r (BH r) b (uF 5 r (fun hS=>l9 r (hS.bk 0 r) r) b (uF 6 r (fun hS=>Na (ek:=nV) (ev:=oG) (l:=c.h) (k:=h.g) (z:=0) Fg (Cc rH) (KX pJ) (hS.mp 2 r) r r) b (pF 7 r (pQ) b (pF 8 r (jO r r) b (pF 9 r (jO r r) b (pF 10 r (xi r) b (pF 11 r (jU r) b (hD (q (q (g (s (jZ r) (s (xc r) (n ?_))))))))))))))))))
   rcases iv e with ⟨h6,e⟩|⟨h6,e⟩
   ·refine jH (cb h6) (q (g (s (xi r) (s (xi r) (n (kP ?_))))))
    obtain rfl:=sm e
    replace L:=oi L
    obtain rfl:=sm L
    exact rO r (kT r) (kT r) (lw (lw (⟨j,m,J,o,p,K,r,(a.ad [2,3,4,5,6,7,8,9,10,11] [0,1,2,3,4,5,6])⟩)))
   replace h6:=nt h6
   refine jI (cb h6) (wk ?_)
   obtain ⟨e7,am,e⟩:=bs e
   obtain ⟨k7,aF,am⟩:=kG am
   obtain ⟨aR,aG,aH⟩:=(a.de 0 rfl).get am
   obtain ⟨aA,aB,rfl,aC⟩:=kD.out aH
   replace a:=a.ku (d:=.l aA aB e7.b) aC
   refine oJ a [2,5] [0,1] [] (by kernel_rfl) ?_
   replace a:=a.drew
   have b:=(a.ad [2,5] [0,1])
   refine pF 0 r (mi r) b (pF 1 r (mp r) b (pF 2 r (xn r) b (pF 3 r (xK r) b (pF 4 r (zU r) b (pF 5 r (wE r) b (uF 6 r (fun hS=>JP r (hS.bk 0 r) r) b (pF 7 r (mi r) b (pF 8 r (kZ AC tu r r aF (a.vw 5 1 r r) am) b (pF 9 r (wC r) b (uF 10 r (fun hS=>kz kL r r ((hS.oc 1 1 r r aG) 1 _ r)) b (pF 11 r (lg kL r) b (pF 12 r (Jc r) b (hO 13 (os r r (lW a 0 [V 2] r pJ r r) fun w9 a=>?_))))))))))))))
   have b:=(a.ad [2,5] [0,1])
   refine ⟨(sF b),(pF 14 r (Nc r) b (hO 15 (os r r (lW a 0 [V ((qa c.h h.g).getD 0)] r pJ r r) fun aS a=>?_)))⟩
   have b:=(a.ad [2,5] [0,1])
   refine ⟨(sF b),(pF 16 r (MM r) b (hO 17 (os r r (lW a 0 [V (e7.b.length:Int)] r pJ r r) fun aT a=>?_)))⟩
   have b:=(a.ad [2,5] [0,1])
   exact ⟨(sF b),(hD (ax _ _ ⟨2,((qa c.h h.g).getD 0),(e7.b.length:Int),⟨r,r,y⟩,(a.ad [0,2,3,4,5,6,7,8,9,10,11] [1,2,3,4,5,6,7]),sm e⟩))⟩
  refine jI (bf h5) (q (g (s (zN r) (s (l3 r (a.bk 1 r) r) (s (vG r r) (n ?_))))))
  rcases iv e with ⟨ay,e⟩|⟨ay,e⟩
  ·refine jH (bt ay) (oJ a [1] [] [] (by kernel_rfl) ?_)
   replace a:=a.drew
   have b:=(a.ad [1] [])
   refine pF 0 r (zN r) b (uF 1 r (fun hS=>l3 r (hS.bk 0 r) r) b (pF 2 r (Jc r) b (hO 3 (os r r (lW a 0 [V 3] r pJ r r) fun aU a=>?_))))
   have b:=(a.ad [1] [])
   refine ⟨(sF b),(pF 4 r (MM r) b (hO 5 (os r r (lW a 0 [V h.m] r pJ r r) fun aV a=>?_)))⟩
   have b:=(a.ad [1] [])
   exact ⟨(sF b),(hD (ax _ _ ⟨3,(-1),h.m,⟨r,r,y⟩,(a.ad [0,2,3,4,5,6,7,8,9,10,11] [0,1,2,3,4,5,6]),sm e⟩))⟩
  exact jI (bf ay) (wk (ax _ _ ⟨1,(-1),1,⟨r,r,y⟩,(a.ad [0,2,3,4,5,6,7,8,9,10,11] [0,1,2,3,4,5,6]),sm e⟩))
 clear a
 rintro f w ⟨a3,a4,a5,hf,a,aI⟩
 obtain ⟨ba,rfl⟩:=gP _ _ hf
 clear hf
 subst aI
 replace L:=gi L
 replace L:=Ak L
 refine q (g (s (mp r) (s (mE [T h.a,V a3,V a4,V a5,.bool false,V 0,V 0] HY wz r (a.bk 0 r)) ?_)))
 obtain ⟨aJ,aK,aL,aM,L⟩:=qG L
 have hc:=(Ag fu) (a.pr [1,2,3,4,5,6,7,8,9,10] [0] [0,1,2,3,4,5,6] r) (a.le af) (a.le ag) (a.le ah) (a.le ai) (a.le aj) (a.le ak) (a.le al) aM
 refine sc (ec O8 r) hc ?_
 rintro _ aW ⟨W,X,Y,a0,a1,a2,rfl,hK⟩
 replace a:=a.cn [1,2,3,4,5,6,7,8,9,10] [0] hK
 refine s (jO r r) (s (jO r r) (s (xi r) (s (xi r) (n (kP ?_)))))
 obtain rfl:=sm L
 exact rO r (kT r) (kT r) (lw (lw (⟨W,X,Y,a0,a1,a2,r,(a.ad [0,1,2,3,4,5,6,7,8,9] [0,1,2,3,4,5,6])⟩)))
abbrev mY:=jD→(List jL)→Option ((List jL) × Int × jD)
abbrev nH:=jD→jL→Option (jL × Int × jD)
def p9 (m:Gc→(List Ge)→Option ((List Ge) × Int × Gc)):Prop:=∀ {S:World} {a5:Nat→Prop} {b:Gc} {x1:(List Ge)} {a1:Nat} {c:Nat} {d:Nat} {e:Option Addr} {f:Nat} {C:List (List Value)} {J:Nat} {h:Option Addr} {i:Nat} {D:List (List Value)} {K:Nat} {j:Option Addr} {k:Nat} {E:List (List Value)} {L:Nat} {o:Option Addr} {p:Nat} {F:List (List Value)} {M:Nat} {t:Option Addr} {u:Nat} {G:List (List Value)} {N:Nat} {x:Option Addr} {z:Nat} {H:List (List Value)} {P:Nat} {A:Option Addr} {B:Nat} {I:List (List Value)} {Q:Nat} {U:Option Addr} {W:Nat} {R:(List Ge) × Int × Gc},Pre S a5 [.box a1 107 #[.map (some c),.map (some d),Z e b.a.a.a f,Z h b.a.a.b i,Z j b.a.c k,Z o b.a.b p,Z t b.b u,Z x b.g z,Z A b.d B,V b.f,V b.c],.map nV oG c b.h,.map nV oG d b.e,O J e f 127 Gr C,O K h i 82 Gn D,O L j k 60 (List Gv) E,O M o p 65 Gi F,O N t u 3 Int G,O P x z 59 Gv H,O Q A B 3 Int I] [.els C b.a.a.a,.els D b.a.a.b,.els E b.a.c,.els F b.a.b,.els G b.b,.els H b.g,.els I b.d,.l U W x1]→J≤S.heap.size→K≤S.heap.size→L≤S.heap.size→M≤S.heap.size→N≤S.heap.size→P≤S.heap.size→Q≤S.heap.size→m b x1=some R→
 Calls Try.prog 138 #[Pt a1,Z U x1 W] S (rf fun v w=>iA R fun r0 R=>iA R fun r1 a=>∃ (X:OA)(Y:Nat)(a0:LV),v=.tuple #[Z X r0 Y,V r1]∧Bx S w a5 (lT [.box a1 107 #[.map (some c),.map (some d),Z e b.a.a.a f,Z h b.a.a.b i,Z j b.a.c k,Z o b.a.b p,Z t b.b u,Z x b.g z,Z A b.d B,V b.f,V b.c],.map nV oG c b.h,.map nV oG d b.e,O J e f 127 Gr C,O K h i 82 Gn D,O L j k 60 (List Gv) E,O M o p 65 Gi F,O N t u 3 Int G,O P x z 59 Gv H,O Q A B 3 Int I]) [O S.heap.size X Y 138 Ge a0,.box a1 107 #[.map (some c),.map (some d),Z e a.a.a.a f,Z h a.a.a.b i,Z j a.a.c k,Z o a.a.b p,Z t a.b u,Z x a.g z,Z A a.d B,V a.f,V a.c],.map nV oG c a.h,.map nV oG d a.e,O J e f 127 Gr C,O K h i 82 Gn D,O L j k 60 (List Gv) E,O M o p 65 Gi F,O N t u 3 Int G,O P x z 59 Gv H,O Q A B 3 Int I] [.els a0 r0,.els C a.a.a.a,.els D a.a.a.b,.els E a.a.c,.els F a.a.b,.els G a.b,.els H a.g,.els I a.d])
def tK (m:Gc→Ge→Option (Ge × Int × Gc)):Prop:=∀ {Y:World} {a4:Nat→Prop} {b:Gc} {x1:Ge} {a0:Nat} {c:Nat} {d:Nat} {e:Option Addr} {f:Nat} {C:List (List Value)} {J:Nat} {h:Option Addr} {i:Nat} {D:List (List Value)} {K:Nat} {j:Option Addr} {k:Nat} {E:List (List Value)} {L:Nat} {o:Option Addr} {p:Nat} {F:List (List Value)} {M:Nat} {t:Option Addr} {u:Nat} {G:List (List Value)} {N:Nat} {x:Option Addr} {z:Nat} {H:List (List Value)} {P:Nat} {A:Option Addr} {B:Nat} {I:List (List Value)} {Q:Nat} {S:Option Addr} {U:Nat} {R:Ge × Int × Gc},Pre Y a4 [.box a0 107 #[.map (some c),.map (some d),Z e b.a.a.a f,Z h b.a.a.b i,Z j b.a.c k,Z o b.a.b p,Z t b.b u,Z x b.g z,Z A b.d B,V b.f,V b.c],.map nV oG c b.h,.map nV oG d b.e,O J e f 127 Gr C,O K h i 82 Gn D,O L j k 60 (List Gv) E,O M o p 65 Gi F,O N t u 3 Int G,O P x z 59 Gv H,O Q A B 3 Int I] [.els C b.a.a.a,.els D b.a.a.b,.els E b.a.c,.els F b.a.b,.els G b.b,.els H b.g,.els I b.d,.l S U x1.b]→J≤Y.heap.size→K≤Y.heap.size→L≤Y.heap.size→M≤Y.heap.size→N≤Y.heap.size→P≤Y.heap.size→Q≤Y.heap.size→m b x1=some R→
 Calls Try.prog 141 #[Pt a0,.agg #[V x1.e,V x1.d,V x1.j,T x1.a,T x1.c,Z S x1.b U]] Y (rf fun v w=>iA R fun r0 R=>iA R fun r1 a=>∃ (W:OA)(X:Nat),v=.tuple #[.agg #[V r0.e,V r0.d,V r0.j,T r0.a,T r0.c,Z W r0.b X],V r1]∧Bx Y w a4 (lT [.box a0 107 #[.map (some c),.map (some d),Z e b.a.a.a f,Z h b.a.a.b i,Z j b.a.c k,Z o b.a.b p,Z t b.b u,Z x b.g z,Z A b.d B,V b.f,V b.c],.map nV oG c b.h,.map nV oG d b.e,O J e f 127 Gr C,O K h i 82 Gn D,O L j k 60 (List Gv) E,O M o p 65 Gi F,O N t u 3 Int G,O P x z 59 Gv H,O Q A B 3 Int I]) [.box a0 107 #[.map (some c),.map (some d),Z e a.a.a.a f,Z h a.a.a.b i,Z j a.a.c k,Z o a.a.b p,Z t a.b u,Z x a.g z,Z A a.d B,V a.f,V a.c],.map nV oG c a.h,.map nV oG d a.e,O J e f 127 Gr C,O K h i 82 Gn D,O L j k 60 (List Gv) E,O M o p 65 Gi F,O N t u 3 Int G,O P x z 59 Gv H,O Q A B 3 Int I] [.l W X r0.b,.els C a.a.a.a,.els D a.a.a.b,.els E a.a.c,.els F a.a.b,.els G a.b,.els H a.g,.els I a.d])
def lm (fu:Nat)(r_checker_expressions:mY) (r_checker_expression:nH):List Ge→Nat→(List Ge)→Int→Int→(List (BA × Int))→(List (BA × Int))→(List Gr)→(List Gn)→(List (List Gv))→(List Gi)→(List Int)→(List Gv)→(List Int)→Option (Ld (List Ge × Int × Int × List (BA × Int) × List (BA × Int) × List Gr × List Gn × List (List Gv) × List Gi × List Int × List Gv × List Int) ((List Ge) × Int × Gc))
 | [],_,e,f,h,i,j,k,l,m,o,b,c,d=>some (.go (e,f,h,i,j,k,l,m,o,b,c,d))
 | v :: w,x,e,f,h,i,j,k,l,m,o,b,c,d=>
 (r_checker_expression (⟨i,j,(⟨(⟨k,l⟩:jJ),m,o⟩:jW),b,c,d,f,h⟩:Gc) v).bind fun z=>
 iA z fun t z=>iA z fun p a=>
 if p≠0 then
  some (.out (([]:List Ge),p,a))
 else
  (app e ([t]:List Ge)).bind fun u=>
  lm fu r_checker_expressions r_checker_expression w (x+1) u a.f a.c a.h a.e a.a.a.a a.a.a.b a.a.c a.a.b a.b a.g a.d
def nU (fu:Nat)(r_checker_expressions:mY) (r_checker_expression:nH) (a:Gc) (t:(List Ge)):Option ((List Ge) × Int × Gc):=
 (lm fu r_checker_expressions r_checker_expression t 0 ([]:List Ge) a.f a.c a.h a.e a.a.a.a a.a.a.b a.a.c a.a.b a.b a.g a.d).bind fun u=>u.el (fun u=>
 iA u fun e u=>iA u fun f u=>iA u fun h u=>iA u fun i u=>iA u fun j u=>iA u fun k u=>iA u fun l u=>iA u fun m u=>iA u fun p u=>iA u fun b u=>iA u fun c d=>
 some (e,0,(⟨i,j,(⟨(⟨k,l⟩:jJ),m,p⟩:jW),b,c,d,f,h⟩:Gc))
 ) (fun o=>some o)
def pE (fu:Nat)(r_checker_expressions:mY) (r_checker_expression:nH) (a:Ge):Option (Ld (Int) (Ge × Int × Gc)):=
 if a.e=1 then
  some (.go 1)
 else
  if a.e=2 then
   some (.go 2)
  else
   if a.e=3 then
    some (.go 3)
   else
    some (.go 0)
def nX (fu:Nat)(r_checker_expressions:mY) (r_checker_expression:nH) (d:Gc) (e:Ge) (a:Int):Option (Ld (Int) (Ge × Int × Gc)):=
 if a≠0 then
  (oN fu d e.a).bind fun h=>
  iA h fun b c=>
  if (!c)=true then
   some (.out (e,8,d))
  else
   (ix d.g b).bind fun f=>
   if f.e≠a then
    some (.out (e,10,d))
   else
    some (.go b)
 else
  some (.go e.j)
def nY (fu:Nat)(r_checker_expressions:mY) (r_checker_expression:nH) (d:Gc) (c:Ge) (b:Int):Option (Ld (Int) (Ge × Int × Gc)):=
 if c.e=2 then
  (ix d.g b).bind fun e=>
  (ix d.a.a.a e.b).bind fun f=>
  (uH fu f.b c.c).bind fun a=>
  if a < 0 then
   some (.out ((⟨c.e,a,b,c.a,c.c,c.b⟩:Ge),8,d))
  else
   some (.go a)
 else
  some (.go c.d)
def om (fu:Nat)(r_checker_expressions:mY) (r_checker_expression:nH) (i:Gc) (b:Ge):Option (Ge × Int × Gc):=
 (pE fu r_checker_expressions r_checker_expression b).bind fun j=>j.el (fun h=>
 (nX fu r_checker_expressions r_checker_expression i b h).bind fun j=>j.el (fun a=>
 (nY fu r_checker_expressions r_checker_expression i b a).bind fun j=>j.el (fun c=>
 (r_checker_expressions i b.b).bind fun j=>
 iA j fun d j=>iA j fun e f=>
 some ((⟨b.e,c,a,b.a,b.c,d⟩:Ge),e,f)
 ) (fun o=>some o)
 ) (fun o=>some o)
 ) (fun o=>some o)
def nW:Nat→(Gc→(List Ge)→Option ((List Ge) × Int × Gc)) × (Gc→Ge→Option (Ge × Int × Gc))
 | 0=>((fun _ _=>none),(fun _ _=>none))
 | fu+1=>(nU fu ((nW fu).1) ((nW fu).2),om fu ((nW fu).1) ((nW fu).2))
def kg (fu:Nat):=(nW fu).1
def kW (fu:Nat):=(nW fu).2
theorem BF (fu:Nat)(r_checker_expressions:mY) (r_checker_expression:nH) (H_checker_expressions:p9 r_checker_expressions) (H_checker_expression:tK r_checker_expression):p9 (nU fu r_checker_expressions r_checker_expression):=by
 intro w0 bb x0 x1 ap C D E F a4 ah H I a5 ai J K a6 aj L M a7 ak N Q a8 al S U a9 am W X aa an ac ae R hP ar au av aw ax ay az B
 unfold nU at B
 have b:=hP.bx
 clear hP
 generalize hG:lT _=G at b ⊢
 refine cf Try.func138 r (ma [(0,Pt ap),(1,Z ac x1 ae)] ⟨r,r,y⟩ fun bc=>q (g (s (nJ r) (s (xi r) (n (q (g (s (nJ r) (n (q (q (g (s (mD r) (s (lg qJ r) (s (mi r) (n ?_))))))))))))))))
 replace b:=b.BQ Ge 138
 have aR:=(b.dl 8 r).bd
 obtain ⟨Y1,i,B⟩:=bs B
 refine oC (fun f w=>∃ (u:List Ge) (j:OA)(k:Nat)(m:LV)(Y:Int)(a0:Int)(a1:List (BA × Int)) (a2:List (BA × Int)) (v:List Gr) (x:List Gn) (z:List (List Gv)) (A:List Gi) (c:List Int) (e:List Gv) (h:List Int),Has f [(6,Z j u k)]∧Bx w0 w bb G [O w0.heap.size j k 138 Ge m,.box ap 107 #[.map (some C),.map (some D),Z E v F,Z H x I,Z J z K,Z L A M,Z N c Q,Z S e U,Z W h X,V Y,V a0],.map nV oG C a1,.map nV oG D a2,O ah E F 127 Gr a4,O ai H I 82 Gn a5,O aj J K 60 (List Gv) a6,O ak L M 65 Gi a7,O al N Q 3 Int a8,O am S U 59 Gv a9,O an W X 3 Int aa] [.els m u,.els a4 v,.els a5 x,.els a6 z,.els a7 A,.els a8 c,.els a9 e,.els aa h,.l ac ae x1]∧Ld.go (u,Y,a0,a1,a2,v,x,z,A,c,e,h)=Y1) (fun J1 aF=>?_) ?_
 ·refine nZ (kH (fun bg f w=>∃ (k1:Nat)(u:List Ge) (j:OA)(k:Nat)(m:LV)(Y:Int)(a0:Int)(a1:List (BA × Int)) (a2:List (BA × Int)) (v:List Gr) (x:List Gn) (z:List (List Gv)) (A:List Gi) (c:List Int) (e:List Gv) (h:List Int),bg=x1.length - k1∧k1≤x1.length∧Has f [(13,V (k1:Int)),(0,Pt ap),(6,Z j u k),(11,Z ac x1 ae),(12,V (x1.length:Int))]∧Bx w0 w bb G [O w0.heap.size j k 138 Ge m,.box ap 107 #[.map (some C),.map (some D),Z E v F,Z H x I,Z J z K,Z L A M,Z N c Q,Z S e U,Z W h X,V Y,V a0],.map nV oG C a1,.map nV oG D a2,O ah E F 127 Gr a4,O ai H I 82 Gn a5,O aj J K 60 (List Gv) a6,O ak L M 65 Gi a7,O al N Q 3 Int a8,O am S U 59 Gv a9,O an W X 3 Int aa] [.els m u,.els a4 v,.els a5 x,.els a6 z,.els a7 A,.els a8 c,.els a9 e,.els aa h,.l ac ae x1]∧lm fu r_checker_expressions r_checker_expression (x1.drop k1) k1 u Y a0 a1 a2 v x z A c e h=some Y1) (x1.length) ⟨0,([]:List Ge),none,0,[],x0.f,x0.c,x0.h,x0.e,x0.a.a.a,x0.a.a.b,x0.a.c,x0.a.b,x0.b,x0.g,x0.d,r,Nat.zero_le _,⟨r,r,r,r,r,y⟩,b,i⟩ ?_)
  clear b i
  rintro bg f w ⟨k1,u,j,k,m,Y,a0,a1,a2,v,x,z,A,c,e,h,rfl,aS,hf,b,i⟩ K1 aG
  obtain ⟨bc,rfl⟩:=gP _ _ hf
  clear hf
  rcases Nat.lt_or_ge k1 x1.length with aB | aB
  ·obtain ⟨u1,aA⟩:=lL (l:=x1) aB
   rw [mQ aA,lm] at i
   obtain ⟨aT,aH,b⟩:=b.nm 8 rfl aA
   obtain ⟨af,ag,rfl,aC⟩:=jL.out aH
   replace b:=b.ku (d:=.l af ag u1.b) aC
   refine q (g (s (qK r r (by omega)) (n (q (jH r (wk (q (nZ (q (g (s (kZ qJ jT r r r (b.dl 10 r) aA) (s (oL [V u1.e,V u1.d,V u1.j,T u1.a,T u1.c,Z af u1.b ag] mo r jT r r (b.dc 1 r)) (tL b (ko jT) fun w4 b4 b=>lu (nD b 0 [V u1.e,V u1.d,V u1.j,T u1.a,T u1.c,Z af u1.b ag] r jT r r) fun w5 b=>n (q (g (s (mp r) (s (mE [V u1.e,V u1.d,V u1.j,T u1.a,T u1.c,Z af u1.b ag] mo jT r (b.bk 0 r)) ?_)))))))))))))))))
   obtain ⟨a,aQ,o,h6,i⟩:=qG i
   have hc:=H_checker_expression (b.pr [2,3,4,5,6,7,8,9,10,11] [0,1] [3,4,5,6,7,8,9,0] r) (b.le ar) (b.le au) (b.le av) (b.le aw) (b.le ax) (b.le ay) (b.le az) h6
   refine sc (ec RF r) hc ?_
   rintro _ w6 ⟨p,t,rfl,hK⟩
   replace b:=b.cn [2,3,4,5,6,7,8,9,10,11] [0,1] hK
   refine s pQ (s (jO r r) (s (jO r r) (tL b (ko jT) fun w7 b7 b=>lu (nD b 0 [V a.e,V a.d,V a.j,T a.a,T a.c,Z p a.b t] r jT r r) fun w8 b=>s (xi r) (n (q (q (g (s (mi r) (s (mI r r) (n ?_))))))))))
   rcases iv i with ⟨h9,i⟩|⟨h9,i⟩
   ·refine jH (bt h9) (q (g (s (mi r) (s (nJ r) (s (xi r) (n (kP ?_)))))))
    replace b:=b.BQ Ge 138
    obtain rfl:=sm i
    replace B:=oi B
    obtain rfl:=sm B
    exact rO r (kT r) (kT r) (lw (lw (⟨none,0,[],r,(b.ad [0,2,3,4,5,6,7,8,9,10,11] [0,2,3,4,5,6,7,8])⟩)))
   refine jI (bf h9) (wk (g (s (mD r) (s (mE [V a.e,V a.d,V a.j,T a.a,T a.c,Z p a.b t] mo jT r (b.bk 0 r)) (qF (jV b [[V a.e,V a.d,V a.j,T a.a,T a.c,Z p a.b t]] ([a]:List Ge) (kX r) r r (by decide) ⟨(jL.tQ ⟨p,t,r,(b.dl 0 r)⟩),y⟩) ?_)))))
   rintro _ aX ⟨aY,rfl,b⟩
   obtain ⟨aJ,aD,i⟩:=bs i
   refine qF (kS b 13 11 r r qJ jT r (by decide) (by decide) (Nat.le_refl _) r r (b.AJ 0 0 r r) aD) ?_
   rintro _ aZ ⟨aK,aL,aM,rfl,b⟩
   exact s (nJ r) (n (g (s (mg r r (by omega) (by omega)) (s (mi r) (n (aG (x1.length - (k1+1)) _ _ (by omega) ⟨k1+1,aJ,aK,aL,aM,o.f,o.c,o.h,o.e,o.a.a.a,o.a.a.b,o.a.c,o.a.b,o.b,o.g,o.d,r,by omega,⟨r,r,r,r,r,y⟩,(b.ad [13,2,3,4,5,6,7,8,9,10,11] [11,2,3,4,5,6,7,8,19]),i⟩))))))
  obtain rfl:k1=x1.length:=by omega
  rw [lH,lm] at i
  exact q (g (s (qL r r (by omega)) (n (q (jI r (uW (aF _ _ ⟨u,j,k,m,Y,a0,a1,a2,v,x,z,A,c,e,h,⟨r,y⟩,b,sm i⟩)))))))
 clear b
 rintro f w ⟨u,j,k,m,Y,a0,a1,a2,v,x,z,A,c,e,h,hf,b,aN⟩
 obtain ⟨bc,rfl⟩:=gP _ _ hf
 clear hf
 subst aN
 replace B:=gi B
 replace B:=Ak (mf (mf (mf B)))
 refine q (g (s (mD r) (s (nJ r) (s (xi r) (n (kP ?_))))))
 obtain rfl:=sm B
 exact rO r (kT r) (kT r) (lw (lw (⟨j,k,m,r,(b.dp [0,1,2,3,4,5,6,7])⟩)))
theorem BR (fu:Nat)(r_checker_expressions:mY) (r_checker_expression:nH) (H_checker_expressions:p9 r_checker_expressions) (H_checker_expression:tK r_checker_expression):tK (om fu r_checker_expressions r_checker_expression):=by
 intro w0 bE j b ag v x z A Q a8 B C S a9 D E U aa F H W ab I J X ac K L Y ae M N a0 af c e R hP aj ak al am an ao ap hM
 unfold om at hM
 have a:=hP.bx
 clear hP
 generalize hG:lT _=G at a ⊢
 refine cf Try.func141 r ?_
 refine ma [(0,Pt ag),(1,.agg #[V b.e,V b.d,V b.j,T b.a,T b.c,Z c b.b e])] ⟨r,r,y⟩ fun bF=>?_
 refine q (g (tL a (yI r) fun w1 b1 a=>?_))
 refine tL a (ko jT) fun w2 b2 a=>?_
 refine s (xi r) (n (q (g (s (xi r) (n (q (q (g (s (wD r) (s (l3 r (a.bk 1 r) r) (n ?_)))))))))))
 obtain ⟨Y3,a3,hM⟩:=bs hM
 refine oC (fun f w=>∃ (av:Int),Has f [(0,Pt ag),(3,Pt b1),(4,Pt b2),(6,V av)]∧Bx w0 w bE G [.box b2 138 #[V 0,V 0,V 0,T be,T be,sn],.box b1 138 #[V b.e,V b.d,V b.j,T b.a,T b.c,Z c b.b e],.box ag 107 #[.map (some v),.map (some x),Z z j.a.a.a A,Z B j.a.a.b C,Z D j.a.c E,Z F j.a.b H,Z I j.b J,Z K j.g L,Z M j.d N,V j.f,V j.c],.map nV oG v j.h,.map nV oG x j.e,O a8 z A 127 Gr Q,O a9 B C 82 Gn S,O aa D E 60 (List Gv) U,O ab F H 65 Gi W,O ac I J 3 Int X,O ae K L 59 Gv Y,O af M N 3 Int a0] [.els Q j.a.a.a,.els S j.a.a.b,.els U j.a.c,.els W j.a.b,.els X j.b,.els Y j.g,.els a0 j.d,.l c e b.b]∧Ld.go av=Y3) (fun J3 ay=>?_) ?_
 ·unfold pE at a3
  refine nZ (q (g (s (kK r r) (s (jU r) (n ?_)))))
  rcases iv a3 with ⟨h4,a3⟩|⟨h4,a3⟩
  ·refine jH (bt h4) (g (s (xi r) (n ?_)))
   exact ay _ _ ⟨1,⟨r,r,r,r,y⟩,a,sm a3⟩
  refine jI (bf h4) (q (g (s (kK r r) (s (jU r) (n ?_)))))
  rcases iv a3 with ⟨h5,a3⟩|⟨h5,a3⟩
  ·refine jH (bt h5) (g (s (xi r) (n ?_)))
   exact ay _ _ ⟨2,⟨r,r,r,r,y⟩,a,sm a3⟩
  refine jI (bf h5) (q (g (s (kK r r) (s (jU r) (n ?_)))))
  rcases iv a3 with ⟨h6,a3⟩|⟨h6,a3⟩
  ·refine jH (bt h6) (g (s (xi r) (n ?_)))
   exact ay _ _ ⟨3,⟨r,r,r,r,y⟩,a,sm a3⟩
  refine jI (bf h6) (wk ?_)
  exact ay _ _ ⟨0,⟨r,r,r,r,y⟩,a,sm a3⟩
 clear a
 rintro f w ⟨av,hf,a,aV⟩
 obtain ⟨bF,rfl⟩:=gP _ _ hf
 clear hf
 subst aV
 replace hM:=gi hM
 refine q ?_
 obtain ⟨Y7,t,hM⟩:=bs hM
 refine oC (fun f w=>∃ (u:Int),Has f [(0,Pt ag),(3,Pt b1),(4,Pt b2)]∧Bx w0 w bE G [.box b2 138 #[V 0,V 0,V 0,T be,T be,sn],.box b1 138 #[V b.e,V b.d,V u,T b.a,T b.c,Z c b.b e],.box ag 107 #[.map (some v),.map (some x),Z z j.a.a.a A,Z B j.a.a.b C,Z D j.a.c E,Z F j.a.b H,Z I j.b J,Z K j.g L,Z M j.d N,V j.f,V j.c],.map nV oG v j.h,.map nV oG x j.e,O a8 z A 127 Gr Q,O a9 B C 82 Gn S,O aa D E 60 (List Gv) U,O ab F H 65 Gi W,O ac I J 3 Int X,O ae K L 59 Gv Y,O af M N 3 Int a0] [.els Q j.a.a.a,.els S j.a.a.b,.els U j.a.c,.els W j.a.b,.els X j.b,.els Y j.g,.els a0 j.d,.l c e b.b]∧Ld.go u=Y7) (fun J7 aJ=>?_) ?_
 ·unfold nX at t
  refine q (g (s (mi r) (s (mI r r) (n ?_))))
  rcases iv t with ⟨h8,t⟩|⟨h8,t⟩
  ·refine jH (bt h8) (q (g (s (mp r) (s (Dq r) (s (l9 r (a.bk 1 r) r) ?_)))))
   obtain ⟨aw,b9,h9,t⟩:=lV t
   have hc:=(BN fu) (a.pr [2,3,4,5,6,7,8,9,10,11] [0,1] [0,1,2,3,4,5,6] r) (a.le aj) (a.le ak) (a.le al) (a.le am) (a.le an) (a.le ao) (a.le ap) h9
   refine sc (ec NY r) hc ?_
   rintro _ w9 ⟨rfl,hK⟩
   replace a:=a.cn [2,3,4,5,6,7,8,9,10,11] [0,1] hK
   refine s pQ (s (jO r r) (s (jO r r) (s (xi r) (s (jU r) (n (q (q (g (s (jZ r) (s (xc r) (n ?_)))))))))))
   rcases iv t with ⟨ax,t⟩|⟨ax,t⟩
   ·refine jH (cb ax) (q (g (s (mE [V b.e,V b.d,V b.j,T b.a,T b.c,Z c b.b e] mo jT r (a.bk 11 r)) (lu (nD a 10 [V b.e,V b.d,V b.j,T b.a,T b.c,Z c b.b e] r jT r r) fun bg a=>?_))))
    refine s (xi r) (n (kP ?_))
    obtain rfl:=sm t
    replace hM:=oi hM
    obtain rfl:=sm hM
    refine rO r (uN r mo r jT r (a.bk 10 r)) (kT r) ?_
    exact lw (lw (⟨c,e,r,(a.ad [0,1,2,3,4,5,6,7,8,9] [14,0,1,2,3,4,5,6])⟩))
   replace ax:=nt ax
   refine jI (cb ax) (wk (q (q (g (s (mp r) (s (xn r) (s (Ac r) (s (Qw r (a.bk 0 r) r) (s (mi r) ?_)))))))))
   obtain ⟨ah,aq,t⟩:=bs t
   obtain ⟨bh,aL,aq⟩:=kG aq
   refine s (kZ uZ wz r r aL (a.vw 8 5 r r) aq) (s (Jc r) (s (kz EU r r ((vo (ds:=[T ah.a,V ah.e,V ah.b,V ah.f,.bool ah.c,V ah.d,V ah.g]) (a.vw 8 5 r r) aq (fun _ h=>h)) 1 _ r)) (s (mi r) (s (mI r r) (n ?_)))))
   rcases iv t with ⟨aA,t⟩|⟨aA,t⟩
   ·refine jH (bt aA) (q (g (s (mE [V b.e,V b.d,V b.j,T b.a,T b.c,Z c b.b e] mo jT r (a.bk 11 r)) (lu (nD a 10 [V b.e,V b.d,V b.j,T b.a,T b.c,Z c b.b e] r jT r r) fun bi a=>?_))))
    refine s (xi r) (n (kP ?_))
    obtain rfl:=sm t
    replace hM:=oi hM
    obtain rfl:=sm hM
    refine rO r (uN r mo r jT r (a.bk 10 r)) (kT r) ?_
    exact lw (lw (⟨c,e,r,(a.ad [0,1,2,3,4,5,6,7,8,9] [14,0,1,2,3,4,5,6])⟩))
   refine jI (bf aA) (wk (g (s (mi r) (s (Gu r) (lu (lW a 11 [V aw] r pJ r r) fun bj a=>?_)))))
   refine n ?_
   exact aJ _ _ ⟨aw,⟨r,r,r,y⟩,(a.ad [10,11,0,1,2,3,4,5,6,7,8,9] [0,1,2,3,4,5,6,14]),sm t⟩
  refine jI (bf h8) (wk ?_)
  exact aJ _ _ ⟨b.j,⟨r,r,r,y⟩,a,sm t⟩
 clear a
 rintro f w ⟨u,hf,a,aY⟩
 obtain ⟨bF,rfl⟩:=gP _ _ hf
 clear hf
 subst aY
 replace hM:=gi hM
 refine q ?_
 obtain ⟨aZ,m,hM⟩:=bs hM
 refine oC (fun f w=>∃ (a1:Int),Has f [(0,Pt ag),(3,Pt b1),(4,Pt b2)]∧Bx w0 w bE G [.box b2 138 #[V 0,V 0,V 0,T be,T be,sn],.box b1 138 #[V b.e,V a1,V u,T b.a,T b.c,Z c b.b e],.box ag 107 #[.map (some v),.map (some x),Z z j.a.a.a A,Z B j.a.a.b C,Z D j.a.c E,Z F j.a.b H,Z I j.b J,Z K j.g L,Z M j.d N,V j.f,V j.c],.map nV oG v j.h,.map nV oG x j.e,O a8 z A 127 Gr Q,O a9 B C 82 Gn S,O aa D E 60 (List Gv) U,O ab F H 65 Gi W,O ac I J 3 Int X,O ae K L 59 Gv Y,O af M N 3 Int a0] [.els Q j.a.a.a,.els S j.a.a.b,.els U j.a.c,.els W j.a.b,.els X j.b,.els Y j.g,.els a0 j.d,.l c e b.b]∧Ld.go a1=aZ) (fun bl az=>?_) ?_
 ·unfold nY at m
  refine q (g (s (wD r) (s (l3 r (a.bk 1 r) r) (s (kK r r) (n ?_)))))
  rcases iv m with ⟨aB,m⟩|⟨aB,m⟩
  ·refine jH (bt aB) (q ?_)
   obtain ⟨ai,ar,m⟩:=bs m
   obtain ⟨bm,aM,ar⟩:=kG ar
   obtain ⟨b0,au,m⟩:=bs m
   obtain ⟨bn,aN,au⟩:=kG au
   obtain ⟨ba,aO,aP⟩:=(a.de 0 rfl).get au
   obtain ⟨aC,aD,rfl,aE⟩:=kD.out aP
   replace a:=a.ku (d:=.l aC aD b0.b) aE
   refine Fa a [2,5,10] [0,1,6] [1,2,5,10] [0,1,6] [22] (by kernel_rfl) ?_
   replace a:=a.drew
   have hs:=(a.ad [2,5,10] [0,1,6])
   have hu:=(a.ad [1,2,5,10] [0,1,6])
   refine pL 0 r (mp r) hs hu (pL 1 r (xn r) hs hu (pL 2 r (xK r) hs hu (pL 3 r (zU r) hs hu (pL 4 r (wE r) hs hu (tU 5 r (fun _ hS=>JP r (hS.bk 0 r) r) (mH hs hu) (pL 6 r (mp r) hs hu (pL 7 r (xn r) hs hu (pL 8 r (Ac r) hs hu (tU 9 r (fun _ hS=>Qw r (hS.bk 0 r) r) (mH hs hu) (pL 10 r (Gu r) hs hu (tS 1 11 r (fun _ hS=>l3 r (hS.bk 0 r) r) (mH hs hu) (pL 12 r (kZ uZ wz r r aM (a.vw 10 6 r r) ar) hs hu (pL 13 r (Nc r) hs hu ?_)))))))))))))
   refine tU 14 r (fun _ hS=>kz EU r r ((vo (ds:=[T ai.a,V ai.e,V ai.b,V ai.f,.bool ai.c,V ai.d,V ai.g]) (hS.vw 2 2 r r) ar (fun _ h=>h)) 2 _ r)) (mH hs hu) (pL 15 r (kZ AC tu r r aN (a.vw 5 1 r r) au) hs hu (pL 16 r (wC r) hs hu (tU 17 r (fun _ hS=>kz kL r r ((hS.oc 1 1 r r aO) 1 _ r)) (mH hs hu) (pL 18 r (G5 r) hs hu (tS 1 19 r (fun _ hS=>l9 r (hS.bk 0 r) r) (mH hs hu) ?_)))))
   obtain ⟨a4,b3,m⟩:=bs m
   have hc:=(Fz fu) (a.pr [] [0,1,2,3,4,5,6,7,8,9,10,11] [0] r)  b3
   refine hO 20 (oc r r (ec R4 r) hc ?_)
   rintro _ bo ⟨rfl,hK⟩
   replace a:=a.cn [] [0,1,2,3,4,5,6,7,8,9,10,11] hK
   have hs:=(a.ad [2,5,10] [0,1,6])
   have hu:=(a.ad [1,2,5,10] [0,1,6])
   refine ⟨(mH hs hu),?_⟩
   refine pL 21 r (Cs r) hs hu ?_
   refine hO 22 (os r r (lW a 1 [V a4] r pJ r r) fun bp a=>?_)
   have hs:=(a.ad [2,5,10] [0,1,6])
   refine ⟨(sy 22 hs),?_⟩
   refine hD (q (g (s (Cs r) (s (l3 r (a.bk 1 r) r) (s (qB r r) (n ?_))))))
   rcases iv m with ⟨aF,m⟩|⟨aF,m⟩
   ·refine jH (bt aF) (q (g (s (mE [V b.e,V a4,V u,T b.a,T b.c,Z c b.b e] mo jT r (a.bk 1 r)) (lu (nD a 0 [V b.e,V a4,V u,T b.a,T b.c,Z c b.b e] r jT r r) fun bq a=>?_))))
    refine s (xi r) (n (kP ?_))
    obtain rfl:=sm m
    replace hM:=oi hM
    obtain rfl:=sm hM
    refine rO r (uN r mo r jT r (a.bk 0 r)) (kT r) ?_
    exact lw (lw (⟨c,e,r,(a.ad [2,3,4,5,6,7,8,9,10,11] [8,1,2,3,4,5,6,7])⟩))
   refine jI (bf aF) (wk ?_)
   exact az _ _ ⟨a4,⟨r,r,r,y⟩,(a.dp [1,2,3,4,5,6,7,8]),sm m⟩
  refine jI (bf aB) (wk ?_)
  exact az _ _ ⟨b.d,⟨r,r,r,y⟩,a,sm m⟩
 clear a
 rintro f w ⟨a1,hf,a,aQ⟩
 obtain ⟨bF,rfl⟩:=gP _ _ hf
 clear hf
 subst aQ
 replace hM:=gi hM
 refine q (g (s (xi r) (n (q (g (s (mp r) (s (yS r) (s (xe r (a.bk 1 r) r) ?_))))))))
 obtain ⟨a7,b4,b5,b6,hM⟩:=qG hM
 have hc:=H_checker_expressions (a.pr [2,3,4,5,6,7,8,9,10,11] [0,1] [0,1,2,3,4,5,6,7] r) (a.le aj) (a.le ak) (a.le al) (a.le am) (a.le an) (a.le ao) (a.le ap) b6
 refine sc (ec Gq r) hc ?_
 rintro _ br ⟨o,p,aI,rfl,hK⟩
 have b7:=a.rX.size
 replace a:=a.cn [2,3,4,5,6,7,8,9,10,11] [0,1] hK
 replace a:=a.rb 0 w0.heap.size r b7
 refine s pQ (s (jO r r) (s (jO r r) (s (yS r) (lu (lW a 12 [Z o a7 p] r uk r r) fun bu a=>?_))))
 refine s (xi r) (n (q (g (s (mE [V b.e,V a1,V u,T b.a,T b.c,Z o a7 p] mo jT r (a.bk 12 r)) (s (mi r) (lu (nD a 11 [V b.e,V a1,V u,T b.a,T b.c,Z o a7 p] r jT r r) fun bv a=>?_))))))
 refine s (xi r) (n (kP ?_))
 replace a:=a.fz 0 0 r r
 obtain rfl:=sm hM
 refine rO r (uN r mo r jT r (a.bk 10 r)) (kT r) ?_
 exact lw (lw (⟨o,p,r,(a.ad [0,1,2,3,4,5,6,7,8,9] [0,1,2,3,4,5,6,7])⟩))
theorem Bl (fu:Nat):p9 (kg fu)∧tK (kW fu):=by
 induction fu with
 | zero=>exact ⟨by intro a b;intros;exact nn (by assumption),by intro a b;intros;exact nn (by assumption)⟩
 | succ fu ih=>exact ⟨BF fu (kg fu) (kW fu) ih.1 ih.2,BR fu (kg fu) (kW fu) ih.1 ih.2⟩
theorem rR (fu:Nat):p9 (kg fu):=(Bl fu).1
def FB (m:Gc→Gs→Option (Int × Gc × Gs)):Prop:=∀ {w0:World} {ae:Nat→Prop} {d:Gc} {c:Gs} {aa:Nat} {e:Nat} {f:Nat} {h:Option Addr} {i:Nat} {E:List (List Value)} {Q:Nat} {j:Option Addr} {k:Nat} {F:List (List Value)} {S:Nat} {o:Option Addr} {p:Nat} {G:List (List Value)} {U:Nat} {t:Option Addr} {u:Nat} {H:List (List Value)} {W:Nat} {x:Option Addr} {z:Nat} {I:List (List Value)} {X:Nat} {A:Option Addr} {B:Nat} {J:List (List Value)} {Y:Nat} {C:Option Addr} {D:Nat} {K:List (List Value)} {a0:Nat} {ab:Nat} {a1:Option Addr} {a2:Nat} {a3:Option Addr} {a4:Nat} {L:Option Addr} {M:Nat} {N:Option Addr} {P:Nat} {R:Int × Gc × Gs},Pre w0 ae [.box aa 107 #[.map (some e),.map (some f),Z h d.a.a.a i,Z j d.a.a.b k,Z o d.a.c p,Z t d.a.b u,Z x d.b z,Z A d.g B,Z C d.d D,V d.f,V d.c],.map nV oG e d.h,.map nV oG f d.e,O Q h i 127 Gr E,O S j k 82 Gn F,O U o p 60 (List Gv) G,O W t u 65 Gi H,O X x z 3 Int I,O Y A B 59 Gv J,O a0 C D 3 Int K,.box ab 111 #[V c.e,V c.c,V c.n,T c.a,T c.g,V c.m,V c.j,Z a1 c.d a2,T c.k,V c.h,Z a3 c.b a4,Z L c.f M,Z N c.i P]] [.els E d.a.a.a,.els F d.a.a.b,.els G d.a.c,.els H d.a.b,.els I d.b,.els J d.g,.els K d.d,.l a1 a2 c.d,.l a3 a4 c.b,.l L M c.f,.l N P c.i]→Q≤w0.heap.size→S≤w0.heap.size→U≤w0.heap.size→W≤w0.heap.size→X≤w0.heap.size→Y≤w0.heap.size→a0≤w0.heap.size→m d c=some R→
 Calls Try.prog 130 #[Pt aa,Pt ab] w0 (rf fun v w=>iA R fun r0 R=>iA R fun a b=>∃ (a5:OA)(a6:Nat)(a7:OA)(a8:Nat),v=V r0∧Bx w0 w ae (lT [.box aa 107 #[.map (some e),.map (some f),Z h d.a.a.a i,Z j d.a.a.b k,Z o d.a.c p,Z t d.a.b u,Z x d.b z,Z A d.g B,Z C d.d D,V d.f,V d.c],.map nV oG e d.h,.map nV oG f d.e,O Q h i 127 Gr E,O S j k 82 Gn F,O U o p 60 (List Gv) G,O W t u 65 Gi H,O X x z 3 Int I,O Y A B 59 Gv J,O a0 C D 3 Int K,.box ab 111 #[V c.e,V c.c,V c.n,T c.a,T c.g,V c.m,V c.j,Z a1 c.d a2,T c.k,V c.h,Z a3 c.b a4,Z L c.f M,Z N c.i P]]) [.box aa 107 #[.map (some e),.map (some f),Z h a.a.a.a i,Z j a.a.a.b k,Z o a.a.c p,Z t a.a.b u,Z x a.b z,Z A a.g B,Z C a.d D,V a.f,V a.c],.map nV oG e a.h,.map nV oG f a.e,O Q h i 127 Gr E,O S j k 82 Gn F,O U o p 60 (List Gv) G,O W t u 65 Gi H,O X x z 3 Int I,O Y A B 59 Gv J,O a0 C D 3 Int K,.box ab 111 #[V b.e,V b.c,V b.n,T b.a,T b.g,V b.m,V b.j,Z a5 b.d a6,T b.k,V b.h,Z a7 b.b a8,Z L b.f M,Z N b.i P]] [.els E a.a.a.a,.els F a.a.a.b,.els G a.a.c,.els H a.a.b,.els I a.b,.els J a.g,.els K a.d,.l a5 a6 b.d,.l a7 a8 b.b,.l L M b.f,.l N P b.i])
def nE (fu:Nat)(a:Gc) (b:Gs):List Ge→Nat→Option (Ld (Unit) (Int × Gc × Gs))
 | [],_=>some (.go ())
 | c :: d,e=>
 if c.e=2 then
  some (.out (10,a,b))
 else
  if c.e=3 then
   some (.out (10,a,b))
  else
   nE fu a b d (e+1)
def sO (fu:Nat)(j:Gc) (a:Gs):Option (Int × Gc × Gs):=
 (nE fu j a a.d 0).bind fun k=>k.el (fun _=>
 (kg fu j a.d).bind fun k=>
 iA k fun c k=>iA k fun d b=>
 if d≠0 then
  some (d,b,(⟨a.e,a.c,a.n,a.a,a.g,a.m,a.j,c,a.k,a.h,a.b,a.f,a.i⟩:Gs))
 else
  if (!((qa b.e a.k).isSome))=true then
   some (8,b,(⟨a.e,a.c,a.n,a.a,a.g,a.m,a.j,c,a.k,a.h,a.b,a.f,a.i⟩:Gs))
  else
   (ix b.b ((qa b.e a.k).getD 0)).bind fun i=>
   if (a.b.length:Int)≠i then
    some (11,b,(⟨a.e,a.c,a.n,a.a,a.g,a.m,a.j,c,a.k,a.h,a.b,a.f,a.i⟩:Gs))
   else
    (kg fu b a.b).bind fun k=>
    iA k fun e k=>iA k fun f h=>
    some (f,h,(⟨a.e,a.c,a.n,a.a,a.g,a.m,a.j,c,a.k,((qa b.e a.k).getD 0),e,a.f,a.i⟩:Gs))
 ) (fun o=>some o)
theorem Fy (fu:Nat):FB (sO fu):=by
 intro w0 bj o a ax E F H I a3 ab J K a4 ac L M a5 ae N Q a6 af S U a7 ag W X a8 ah Y a0 a9 ai ay t u j m v x A B R hP aj ak al am an ao ap p
 unfold sO at p
 have b:=hP.bx
 clear hP
 generalize hG:lT _=G at b ⊢
 refine cf Try.func130 r (ma [(0,Pt ax),(1,Pt ay)] ⟨r,r,y⟩ fun bl=>q (g (s (xi r) (n (q (q (g (s (mp r) (s (xn r) (s (uA r) (s (xe r (b.bk 10 r) r) (s (lg qJ r) (s (mi r) (n ?_))))))))))))))
 have b0:=(b.dl 7 r).bd
 obtain ⟨Y1,C,p⟩:=bs p
 refine oC (fun f w=>Has f [(0,Pt ax),(1,Pt ay)]∧Bx w0 w bj G [.box ax 107 #[.map (some E),.map (some F),Z H o.a.a.a I,Z J o.a.a.b K,Z L o.a.c M,Z N o.a.b Q,Z S o.b U,Z W o.g X,Z Y o.d a0,V o.f,V o.c],.map nV oG E o.h,.map nV oG F o.e,O ab H I 127 Gr a3,O ac J K 82 Gn a4,O ae L M 60 (List Gv) a5,O af N Q 65 Gi a6,O ag S U 3 Int a7,O ah W X 59 Gv a8,O ai Y a0 3 Int a9,.box ay 111 #[V a.e,V a.c,V a.n,T a.a,T a.g,V a.m,V a.j,Z t a.d u,T a.k,V a.h,Z j a.b m,Z v a.f x,Z A a.i B]] [.els a3 o.a.a.a,.els a4 o.a.a.b,.els a5 o.a.c,.els a6 o.a.b,.els a7 o.b,.els a8 o.g,.els a9 o.d,.l t u a.d,.l j m a.b,.l v x a.f,.l A B a.i]∧Ld.go ()=Y1) (fun J1 aL=>?_) ?_
 ·refine nZ (kH (fun bm f w=>∃ (k1:Nat),bm=a.d.length - k1∧k1≤a.d.length∧Has f [(15,V (k1:Int)),(0,Pt ax),(1,Pt ay),(13,Z t a.d u),(14,V (a.d.length:Int))]∧Bx w0 w bj G [.box ax 107 #[.map (some E),.map (some F),Z H o.a.a.a I,Z J o.a.a.b K,Z L o.a.c M,Z N o.a.b Q,Z S o.b U,Z W o.g X,Z Y o.d a0,V o.f,V o.c],.map nV oG E o.h,.map nV oG F o.e,O ab H I 127 Gr a3,O ac J K 82 Gn a4,O ae L M 60 (List Gv) a5,O af N Q 65 Gi a6,O ag S U 3 Int a7,O ah W X 59 Gv a8,O ai Y a0 3 Int a9,.box ay 111 #[V a.e,V a.c,V a.n,T a.a,T a.g,V a.m,V a.j,Z t a.d u,T a.k,V a.h,Z j a.b m,Z v a.f x,Z A a.i B]] [.els a3 o.a.a.a,.els a4 o.a.a.b,.els a5 o.a.c,.els a6 o.a.b,.els a7 o.b,.els a8 o.g,.els a9 o.d,.l t u a.d,.l j m a.b,.l v x a.f,.l A B a.i]∧nE fu o a (a.d.drop k1) k1=some Y1) (a.d.length) ⟨0,r,Nat.zero_le _,⟨r,r,r,r,r,y⟩,b,C⟩ ?_)
  clear b C
  rintro bm f w ⟨k1,rfl,b1,hf,b,C⟩ K1 aM
  obtain ⟨bl,rfl⟩:=gP _ _ hf
  clear hf
  rcases Nat.lt_or_ge k1 a.d.length with aG | aG
  ·obtain ⟨u1,aC⟩:=lL (l:=a.d) aG
   rw [mQ aC,nE] at C
   obtain ⟨b2,aN,b⟩:=b.nm 7 rfl aC
   obtain ⟨aq,ar,rfl,aH⟩:=jL.out aN
   replace b:=b.ku (d:=.l aq ar u1.b) aH
   refine q (g (s (qK r r (by omega)) (n (q (jH r (wk (q (nZ (q (g (s (kZ qJ jT r r r (b.dl 9 r) aC) (s (oL [V u1.e,V u1.d,V u1.j,T u1.a,T u1.c,Z aq u1.b ar] mo r jT r r (b.dc 1 r)) (tL b (ko jT) fun w3 b3 b=>lu (nD b 0 [V u1.e,V u1.d,V u1.j,T u1.a,T u1.c,Z aq u1.b ar] r jT r r) fun w4 b=>n (q (g (s (wD r) (s (l3 r (b.bk 0 r) r) (s (kK r r) (s (jZ r) ?_)))))))))))))))))))
   rcases iv C with ⟨h5,C⟩|⟨h5,C⟩
   ·rw [decide_eq_true h5]
    refine jB r (jB r (jB r (s (jN r r) (n (jH r (q (g (s (xi r) (n (kP ?_))))))))))
    obtain rfl:=sm C
    replace p:=oi p
    obtain rfl:=sm p
    exact jC r (kT r) (lw (lw (⟨t,u,j,m,r,(b.ad [1,2,3,4,5,6,7,8,9,10,11] [2,3,4,5,6,7,8,9,10,11,12])⟩)))
   rw [decide_eq_false h5]
   refine jQ r (s (wD r) (jQ r (s (l3 r (b.bk 0 r) r) (jQ r (s (kK r r) (s (jX r r) (n ?_)))))))
   rcases iv C with ⟨h6,C⟩|⟨h6,C⟩
   ·refine jH (bt h6) (q (g (s (xi r) (n (kP ?_)))))
    obtain rfl:=sm C
    replace p:=oi p
    obtain rfl:=sm p
    exact jC r (kT r) (lw (lw (⟨t,u,j,m,r,(b.ad [1,2,3,4,5,6,7,8,9,10,11] [2,3,4,5,6,7,8,9,10,11,12])⟩)))
   exact jI (bf h6) (wk (g (s (mg r r (by omega) (by omega)) (s (mi r) (n (aM (a.d.length - (k1+1)) _ _ (by omega) ⟨k1+1,r,by omega,⟨r,r,r,r,r,y⟩,(b.ad [1,2,3,4,5,6,7,8,9,10,11] [2,3,4,5,6,7,8,9,10,11,12]),C⟩))))))
  obtain rfl:k1=a.d.length:=by omega
  rw [lH,nE] at C
  exact q (g (s (qL r r (by omega)) (n (q (jI r (uW (aL _ _ ⟨⟨r,r,y⟩,b,sm C⟩)))))))
 clear b
 rintro f w ⟨hf,b,aQ⟩
 obtain ⟨bl,rfl⟩:=gP _ _ hf
 clear hf
 subst aQ
 replace p:=gi p
 refine q (g (s (xi r) (n (q (q (g (s (mp r) (s (mp r) (s (mp r) (s (xn r) (s (uA r) (s (xe r (b.bk 10 r) r) ?_))))))))))))
 obtain ⟨au,aZ,av,h7,p⟩:=qG p
 have hc:=(rR fu) (b.pr [0,1,2,3,4,5,6,7,8,9] [10] [0,1,2,3,4,5,6,7] r) (b.le aj) (b.le ak) (b.le al) (b.le am) (b.le an) (b.le ao) (b.le ap) h7
 refine sc (ec Gq r) hc ?_
 rintro _ w7 ⟨c,e,aI,rfl,hK⟩
 have aD:=b.rX.size
 replace b:=b.cn [0,1,2,3,4,5,6,7,8,9] [10] hK
 replace b:=b.rb 0 w0.heap.size r aD
 refine s pQ (s (jO r r) (s (jO r r) (s (xn r) (s (uA r) (lu (lW b 11 [Z c au e] r uk r r) fun w8 b=>s (xi r) (n (q (g (s (mi r) (s (mI r r) (n ?_)))))))))))
 rcases iv p with ⟨h9,p⟩|⟨h9,p⟩
 ·refine jH (bt h9) (q (g (s (mi r) (s (xi r) (n (kP ?_))))))
  replace b:=b.fz 0 0 r r
  obtain rfl:=sm p
  exact jC r (kT r) (lw (lw (⟨c,e,j,m,r,(b.dp [1,2,3,4,5,6,7,0,16,17,18])⟩)))
 refine jI (bf h9) (wk (q (oJ b [1,3,11] [] [] (by kernel_rfl) ?_)))
 replace b:=b.drew
 have D:=(b.ad [1,3,11] [])
 refine pF 0 r (mp r) D (pF 1 r (xn r) D (pF 2 r (LM r) D (uF 3 r (fun hS=>NF r (hS.bk 0 r) r) D (pF 4 r (mp r) D (pF 5 r (xn r) D (pF 6 r (Ai r) D (uF 7 r (fun hS=>l9 r (hS.bk 2 r) r) D (uF 8 r (fun hS=>Na (ek:=nV) (ev:=oG) (l:=av.e) (k:=a.k) (z:=0) Fg (Cc rH) (KX pJ) (hS.mp 1 r) r r) D (pF 9 r (pQ) D (pF 10 r (jO r r) D (pF 11 r (jO r r) D (pF 12 r (xi r) D (pF 13 r (jU r) D (hD (q (q (g (s (jZ r) (s (xc r) (n ?_))))))))))))))))))))
 rcases iv p with ⟨az,p⟩|⟨az,p⟩
 ·refine jH (cb az) (q (g (s (xi r) (n (kP ?_)))))
  replace b:=b.fz 0 0 r r
  obtain rfl:=sm p
  exact jC r (kT r) (lw (lw (⟨c,e,j,m,r,(b.dp [1,2,3,4,5,6,7,0,16,17,18])⟩)))
 replace az:=nt az
 refine jI (cb az) (wk (q (q (oJ b [1,8,11] [5] [] (by kernel_rfl) ?_))))
 replace b:=b.drew
 have D:=(b.ad [1,8,11] [5])
 refine pF 0 r (mp r) D (pF 1 r (xn r) D (pF 2 r (qD r) D (uF 3 r (fun hS=>xe r (hS.bk 2 r) r) D (pF 4 r (lg qJ r) D (pF 5 r (mp r) D (pF 6 r (xn r) D (pF 7 r (L9 r) D (uF 8 r (fun hS=>Ko r (hS.bk 0 r) r) D (pF 9 r (mi r) D ?_)))))))))
 obtain ⟨aT,aw,p⟩:=bs p
 obtain ⟨b5,aJ,aw⟩:=kG aw
 refine pF 10 r (kZ vE pJ r r aJ (b.vw 8 5 r r) aw) D (tU 11 r (fun _ hS=>kz EU r r ((vo (ds:=[V aT]) (hS.vw 1 0 r r) aw (fun _ h=>h)) 0 _ r)) (sF D) (pF 12 r (mI r r) D (hD ?_)))
 rcases iv p with ⟨aE,p⟩|⟨aE,p⟩
 ·refine jH (bt aE) (q (g (s (xi r) (n (kP ?_)))))
  replace b:=b.fz 0 0 r r
  obtain rfl:=sm p
  exact jC r (kT r) (lw (lw (⟨c,e,j,m,r,(b.dp [1,2,3,4,5,6,7,0,16,17,18])⟩)))
 refine jI (bf aE) (wk (q (g (s (mp r) (s (mi r) (s (xn r) (s (Eo r) (lu (lW b 11 [V ((qa av.e a.k).getD 0)] r pJ r r) fun b6 b=>n (q (g (s (mp r) (s (mp r) (s (mp r) (s (xn r) (s (qD r) (s (xe r (b.bk 11 r) r) ?_))))))))))))))))
 obtain ⟨aA,aU,aV,aW,p⟩:=qG p
 have hc:=(rR fu) (b.pr [1,2,3,4,5,6,7,8,9,10] [0,11] [1,2,3,4,5,6,7,16] r) (b.le aj) (b.le ak) (b.le al) (b.le am) (b.le an) (b.le ao) (b.le ap) aW
 refine sc (ec Gq r) hc ?_
 rintro _ b7 ⟨a1,a2,aF,rfl,hK⟩
 have aD:=b.rX.size
 replace b:=b.cn [1,2,3,4,5,6,7,8,9,10] [0,11] hK
 replace b:=b.rb 0 w0.heap.size r aD
 refine s pQ (s (jO r r) (s (jO r r) (s (xn r) (s (qD r) (lu (lW b 12 [Z a1 aA a2] r uk r r) fun b8 b=>s (xi r) (n (q (g (s (mi r) (s (xi r) (n (kP ?_))))))))))))
 replace b:=b.fz 11 8 r r
 replace b:=b.fz 0 1 r r
 obtain rfl:=sm p
 exact jC r (kT r) (lw (lw (⟨c,e,a1,a2,r,(b.dp [2,3,4,5,6,7,8,1,0,25,26])⟩)))
abbrev og:=jD→(List jM)→Option ((List jM) × Int × jD)
abbrev lU:=jD→jM→Option (jM × Int × jD)
abbrev nM:=jD→jM→Option (Int × jD × jM)
abbrev nO:=jD→(List jM)→Option ((List jM) × Int × jD)
def rq (m:Gc→(List Gs)→Option ((List Gs) × Int × Gc)):Prop:=∀ {w0:World} {af:Nat→Prop} {b:Gc} {x1:(List Gs)} {aa:Nat} {c:Nat} {d:Nat} {e:Option Addr} {f:Nat} {t:List (List Value)} {A:Nat} {h:Option Addr} {i:Nat} {u:List (List Value)} {B:Nat} {j:Option Addr} {k:Nat} {x:List (List Value)} {C:Nat} {D:Option Addr} {E:Nat} {N:List (List Value)} {F:Nat} {o:Option Addr} {p:Nat} {z:List (List Value)} {G:Nat} {H:Option Addr} {I:Nat} {P:List (List Value)} {J:Nat} {K:Option Addr} {L:Nat} {Q:List (List Value)} {M:Nat} {a5:Option Addr} {a6:Nat} {R:(List Gs) × Int × Gc},Pre w0 af [.box aa 107 #[.map (some c),.map (some d),Z e b.a.a.a f,Z h b.a.a.b i,Z j b.a.c k,Z D b.a.b E,Z o b.b p,Z H b.g I,Z K b.d L,V b.f,V b.c],.map nV oG c b.h,.map nV oG d b.e,O A e f 127 Gr t,O B h i 82 Gn u,O C j k 60 (List Gv) x,O F D E 65 Gi N,O G o p 3 Int z,O J H I 59 Gv P,O M K L 3 Int Q] [.els t b.a.a.a,.els u b.a.a.b,.els x b.a.c,.els N b.a.b,.els z b.b,.els P b.g,.els Q b.d,.l a5 a6 x1]→A≤w0.heap.size→B≤w0.heap.size→C≤w0.heap.size→F≤w0.heap.size→G≤w0.heap.size→J≤w0.heap.size→M≤w0.heap.size→m b x1=some R→
 Calls Try.prog 96 #[Pt aa,Z a5 x1 a6] w0 (rf fun v w=>iA R fun r0 R=>iA R fun r1 a=>∃ (a7:OA)(a8:Nat)(a9:LV)(S:OA)(U:Nat)(W:LV)(X:OA)(Y:Nat)(a0:LV)(a1:OA)(a2:Nat)(a3:LV),v=.tuple #[Z a7 r0 a8,V r1]∧Bx w0 w af (lT [.box aa 107 #[.map (some c),.map (some d),Z e b.a.a.a f,Z h b.a.a.b i,Z j b.a.c k,Z D b.a.b E,Z o b.b p,Z H b.g I,Z K b.d L,V b.f,V b.c],.map nV oG c b.h,.map nV oG d b.e,O A e f 127 Gr t,O B h i 82 Gn u,O C j k 60 (List Gv) x,O F D E 65 Gi N,O G o p 3 Int z,O J H I 59 Gv P,O M K L 3 Int Q]) [O w0.heap.size a7 a8 111 Gs a9,.box aa 107 #[.map (some c),.map (some d),Z e a.a.a.a f,Z h a.a.a.b i,Z j a.a.c k,Z S a.a.b U,Z o a.b p,Z X a.g Y,Z a1 a.d a2,V a.f,V a.c],.map nV oG c a.h,.map nV oG d a.e,O A e f 127 Gr t,O B h i 82 Gn u,O C j k 60 (List Gv) x,O F S U 65 Gi W,O G o p 3 Int z,O J X Y 59 Gv a0,O M a1 a2 3 Int a3] [.els a9 r0,.els t a.a.a.a,.els u a.a.a.b,.els x a.a.c,.els W a.a.b,.els z a.b,.els a0 a.g,.els a3 a.d])
def pI (m:Gc→Gs→Option (Gs × Int × Gc)):Prop:=∀ {w0:World} {aq:Nat→Prop} {b:Gc} {N:Gs} {ao:Nat} {c:Nat} {d:Nat} {e:Option Addr} {f:Nat} {t:List (List Value)} {A:Nat} {h:Option Addr} {i:Nat} {u:List (List Value)} {B:Nat} {j:Option Addr} {k:Nat} {x:List (List Value)} {C:Nat} {D:Option Addr} {E:Nat} {Q:List (List Value)} {F:Nat} {o:Option Addr} {p:Nat} {z:List (List Value)} {G:Nat} {H:Option Addr} {I:Nat} {S:List (List Value)} {J:Nat} {K:Option Addr} {L:Nat} {U:List (List Value)} {M:Nat} {a6:Option Addr} {a7:Nat} {a8:Option Addr} {a9:Nat} {aa:Option Addr} {ab:Nat} {ac:Option Addr} {ae:Nat} {R:Gs × Int × Gc},Pre w0 aq [.box ao 107 #[.map (some c),.map (some d),Z e b.a.a.a f,Z h b.a.a.b i,Z j b.a.c k,Z D b.a.b E,Z o b.b p,Z H b.g I,Z K b.d L,V b.f,V b.c],.map nV oG c b.h,.map nV oG d b.e,O A e f 127 Gr t,O B h i 82 Gn u,O C j k 60 (List Gv) x,O F D E 65 Gi Q,O G o p 3 Int z,O J H I 59 Gv S,O M K L 3 Int U] [.els t b.a.a.a,.els u b.a.a.b,.els x b.a.c,.els Q b.a.b,.els z b.b,.els S b.g,.els U b.d,.l a6 a7 N.d,.l a8 a9 N.b,.l aa ab N.f,.l ac ae N.i]→A≤w0.heap.size→B≤w0.heap.size→C≤w0.heap.size→F≤w0.heap.size→G≤w0.heap.size→J≤w0.heap.size→M≤w0.heap.size→m b N=some R→
 Calls Try.prog 115 #[Pt ao,.agg #[V N.e,V N.c,V N.n,T N.a,T N.g,V N.m,V N.j,Z a6 N.d a7,T N.k,V N.h,Z a8 N.b a9,Z aa N.f ab,Z ac N.i ae]] w0 (rf fun v w=>iA R fun P R=>iA R fun r1 a=>∃ (af:OA)(ag:Nat)(ah:OA)(ai:Nat)(aj:OA)(ak:Nat)(al:OA)(am:Nat)(W:OA)(X:Nat)(Y:LV)(a0:OA)(a1:Nat)(a2:LV)(a3:OA)(a4:Nat)(a5:LV),v=.tuple #[.agg #[V P.e,V P.c,V P.n,T P.a,T P.g,V P.m,V P.j,Z af P.d ag,T P.k,V P.h,Z ah P.b ai,Z aj P.f ak,Z al P.i am],V r1]∧Bx w0 w aq (lT [.box ao 107 #[.map (some c),.map (some d),Z e b.a.a.a f,Z h b.a.a.b i,Z j b.a.c k,Z D b.a.b E,Z o b.b p,Z H b.g I,Z K b.d L,V b.f,V b.c],.map nV oG c b.h,.map nV oG d b.e,O A e f 127 Gr t,O B h i 82 Gn u,O C j k 60 (List Gv) x,O F D E 65 Gi Q,O G o p 3 Int z,O J H I 59 Gv S,O M K L 3 Int U]) [.box ao 107 #[.map (some c),.map (some d),Z e a.a.a.a f,Z h a.a.a.b i,Z j a.a.c k,Z W a.a.b X,Z o a.b p,Z a0 a.g a1,Z a3 a.d a4,V a.f,V a.c],.map nV oG c a.h,.map nV oG d a.e,O A e f 127 Gr t,O B h i 82 Gn u,O C j k 60 (List Gv) x,O F W X 65 Gi Y,O G o p 3 Int z,O J a0 a1 59 Gv a2,O M a3 a4 3 Int a5] [.l af ag P.d,.l ah ai P.b,.l aj ak P.f,.l al am P.i,.els t a.a.a.a,.els u a.a.a.b,.els x a.a.c,.els Y a.a.b,.els z a.b,.els a2 a.g,.els a5 a.d])
def sJ (m:Gc→Gs→Option (Int × Gc × Gs)):Prop:=∀ {w0:World} {ar:Nat→Prop} {d:Gc} {c:Gs} {ao:Nat} {e:Nat} {f:Nat} {h:Option Addr} {i:Nat} {x:List (List Value)} {C:Nat} {j:Option Addr} {k:Nat} {z:List (List Value)} {D:Nat} {o:Option Addr} {p:Nat} {A:List (List Value)} {E:Nat} {F:Option Addr} {G:Nat} {Q:List (List Value)} {H:Nat} {t:Option Addr} {u:Nat} {B:List (List Value)} {I:Nat} {J:Option Addr} {K:Nat} {S:List (List Value)} {L:Nat} {M:Option Addr} {N:Nat} {U:List (List Value)} {P:Nat} {ap:Nat} {W:Option Addr} {X:Nat} {Y:Option Addr} {a0:Nat} {a1:Option Addr} {a2:Nat} {a3:Option Addr} {a4:Nat} {R:Int × Gc × Gs},Pre w0 ar [.box ao 107 #[.map (some e),.map (some f),Z h d.a.a.a i,Z j d.a.a.b k,Z o d.a.c p,Z F d.a.b G,Z t d.b u,Z J d.g K,Z M d.d N,V d.f,V d.c],.map nV oG e d.h,.map nV oG f d.e,O C h i 127 Gr x,O D j k 82 Gn z,O E o p 60 (List Gv) A,O H F G 65 Gi Q,O I t u 3 Int B,O L J K 59 Gv S,O P M N 3 Int U,.box ap 111 #[V c.e,V c.c,V c.n,T c.a,T c.g,V c.m,V c.j,Z W c.d X,T c.k,V c.h,Z Y c.b a0,Z a1 c.f a2,Z a3 c.i a4]] [.els x d.a.a.a,.els z d.a.a.b,.els A d.a.c,.els Q d.a.b,.els B d.b,.els S d.g,.els U d.d,.l W X c.d,.l Y a0 c.b,.l a1 a2 c.f,.l a3 a4 c.i]→C≤w0.heap.size→D≤w0.heap.size→E≤w0.heap.size→H≤w0.heap.size→I≤w0.heap.size→L≤w0.heap.size→P≤w0.heap.size→m d c=some R→
 Calls Try.prog 131 #[Pt ao,Pt ap] w0 (rf fun v w=>iA R fun r0 R=>iA R fun a b=>∃ (a5:OA)(a6:Nat)(a7:LV)(a8:OA)(a9:Nat)(aa:LV)(ab:OA)(ac:Nat)(ae:LV)(af:OA)(ag:Nat)(ah:OA)(ai:Nat)(aj:OA)(ak:Nat)(al:OA)(am:Nat),v=V r0∧Bx w0 w ar (lT [.box ao 107 #[.map (some e),.map (some f),Z h d.a.a.a i,Z j d.a.a.b k,Z o d.a.c p,Z F d.a.b G,Z t d.b u,Z J d.g K,Z M d.d N,V d.f,V d.c],.map nV oG e d.h,.map nV oG f d.e,O C h i 127 Gr x,O D j k 82 Gn z,O E o p 60 (List Gv) A,O H F G 65 Gi Q,O I t u 3 Int B,O L J K 59 Gv S,O P M N 3 Int U,.box ap 111 #[V c.e,V c.c,V c.n,T c.a,T c.g,V c.m,V c.j,Z W c.d X,T c.k,V c.h,Z Y c.b a0,Z a1 c.f a2,Z a3 c.i a4]]) [.box ao 107 #[.map (some e),.map (some f),Z h a.a.a.a i,Z j a.a.a.b k,Z o a.a.c p,Z a5 a.a.b a6,Z t a.b u,Z a8 a.g a9,Z ab a.d ac,V a.f,V a.c],.map nV oG e a.h,.map nV oG f a.e,O C h i 127 Gr x,O D j k 82 Gn z,O E o p 60 (List Gv) A,O H a5 a6 65 Gi a7,O I t u 3 Int B,O L a8 a9 59 Gv aa,O P ab ac 3 Int ae,.box ap 111 #[V b.e,V b.c,V b.n,T b.a,T b.g,V b.m,V b.j,Z af b.d ag,T b.k,V b.h,Z ah b.b ai,Z aj b.f ak,Z al b.i am]] [.els x a.a.a.a,.els z a.a.a.b,.els A a.a.c,.els a7 a.a.b,.els B a.b,.els aa a.g,.els ae a.d,.l af ag b.d,.l ah ai b.b,.l aj ak b.f,.l al am b.i])
def sH (m:Gc→(List Gs)→Option ((List Gs) × Int × Gc)):Prop:=∀ {w0:World} {af:Nat→Prop} {b:Gc} {x1:(List Gs)} {aa:Nat} {c:Nat} {d:Nat} {e:Option Addr} {f:Nat} {t:List (List Value)} {A:Nat} {h:Option Addr} {i:Nat} {u:List (List Value)} {B:Nat} {j:Option Addr} {k:Nat} {x:List (List Value)} {C:Nat} {D:Option Addr} {E:Nat} {N:List (List Value)} {F:Nat} {o:Option Addr} {p:Nat} {z:List (List Value)} {G:Nat} {H:Option Addr} {I:Nat} {P:List (List Value)} {J:Nat} {K:Option Addr} {L:Nat} {Q:List (List Value)} {M:Nat} {a5:Option Addr} {a6:Nat} {R:(List Gs) × Int × Gc},Pre w0 af [.box aa 107 #[.map (some c),.map (some d),Z e b.a.a.a f,Z h b.a.a.b i,Z j b.a.c k,Z D b.a.b E,Z o b.b p,Z H b.g I,Z K b.d L,V b.f,V b.c],.map nV oG c b.h,.map nV oG d b.e,O A e f 127 Gr t,O B h i 82 Gn u,O C j k 60 (List Gv) x,O F D E 65 Gi N,O G o p 3 Int z,O J H I 59 Gv P,O M K L 3 Int Q] [.els t b.a.a.a,.els u b.a.a.b,.els x b.a.c,.els N b.a.b,.els z b.b,.els P b.g,.els Q b.d,.l a5 a6 x1]→A≤w0.heap.size→B≤w0.heap.size→C≤w0.heap.size→F≤w0.heap.size→G≤w0.heap.size→J≤w0.heap.size→M≤w0.heap.size→m b x1=some R→
 Calls Try.prog 139 #[Pt aa,Z a5 x1 a6] w0 (rf fun v w=>iA R fun r0 R=>iA R fun r1 a=>∃ (a7:OA)(a8:Nat)(a9:LV)(S:OA)(U:Nat)(W:LV)(X:OA)(Y:Nat)(a0:LV)(a1:OA)(a2:Nat)(a3:LV),v=.tuple #[Z a7 r0 a8,V r1]∧Bx w0 w af (lT [.box aa 107 #[.map (some c),.map (some d),Z e b.a.a.a f,Z h b.a.a.b i,Z j b.a.c k,Z D b.a.b E,Z o b.b p,Z H b.g I,Z K b.d L,V b.f,V b.c],.map nV oG c b.h,.map nV oG d b.e,O A e f 127 Gr t,O B h i 82 Gn u,O C j k 60 (List Gv) x,O F D E 65 Gi N,O G o p 3 Int z,O J H I 59 Gv P,O M K L 3 Int Q]) [O w0.heap.size a7 a8 111 Gs a9,.box aa 107 #[.map (some c),.map (some d),Z e a.a.a.a f,Z h a.a.a.b i,Z j a.a.c k,Z S a.a.b U,Z o a.b p,Z X a.g Y,Z a1 a.d a2,V a.f,V a.c],.map nV oG c a.h,.map nV oG d a.e,O A e f 127 Gr t,O B h i 82 Gn u,O C j k 60 (List Gv) x,O F S U 65 Gi W,O G o p 3 Int z,O J X Y 59 Gv a0,O M a1 a2 3 Int a3] [.els a9 r0,.els t a.a.a.a,.els u a.a.a.b,.els x a.a.c,.els W a.a.b,.els z a.b,.els a0 a.g,.els a3 a.d])
def nC (fu:Nat)(r_checker_list:og) (r_checker_statement:lU) (r_checker_parts:nM) (r_checker_block:nO):List Gs→Nat→(List Gs)→Int→Int→(List (BA × Int))→(List (BA × Int))→(List Gr)→(List Gn)→(List (List Gv))→(List Gi)→(List Int)→(List Gv)→(List Int)→Option (Ld (List Gs × Int × Int × List (BA × Int) × List (BA × Int) × List Gr × List Gn × List (List Gv) × List Gi × List Int × List Gv × List Int) ((List Gs) × Int × Gc))
 | [],_,e,f,h,i,j,k,l,m,o,b,c,d=>some (.go (e,f,h,i,j,k,l,m,o,b,c,d))
 | v :: w,x,e,f,h,i,j,k,l,m,o,b,c,d=>
 (r_checker_statement (⟨i,j,(⟨(⟨k,l⟩:jJ),m,o⟩:jW),b,c,d,f,h⟩:Gc) v).bind fun z=>
 iA z fun t z=>iA z fun p a=>
 if p≠0 then
  some (.out (([]:List Gs),p,a))
 else
  (app e ([t]:List Gs)).bind fun u=>
  nC fu r_checker_list r_checker_statement r_checker_parts r_checker_block w (x+1) u a.f a.c a.h a.e a.a.a.a a.a.a.b a.a.c a.a.b a.b a.g a.d
def p8 (fu:Nat)(r_checker_list:og) (r_checker_statement:lU) (r_checker_parts:nM) (r_checker_block:nO) (a:Gc) (t:(List Gs)):Option ((List Gs) × Int × Gc):=
 (nC fu r_checker_list r_checker_statement r_checker_parts r_checker_block t 0 ([]:List Gs) a.f a.c a.h a.e a.a.a.a a.a.a.b a.a.c a.a.b a.b a.g a.d).bind fun u=>u.el (fun u=>
 iA u fun e u=>iA u fun f u=>iA u fun h u=>iA u fun i u=>iA u fun j u=>iA u fun k u=>iA u fun l u=>iA u fun m u=>iA u fun p u=>iA u fun b u=>iA u fun c d=>
 some (e,0,(⟨i,j,(⟨(⟨k,l⟩:jJ),m,p⟩:jW),b,c,d,f,h⟩:Gc))
 ) (fun o=>some o)
def qg (fu:Nat)(r_checker_list:og) (r_checker_statement:lU) (r_checker_parts:nM) (r_checker_block:nO) (a:Gs):Option (Ld (Bool) (Gs × Int × Gc)):=
 if a.e=3 then
  some (.go (decide (a.e=3)))
 else
  if a.e=6 then
   some (.go (decide (¬ a.k=(⟨#[]⟩:BA))))
  else
   some (.go false)
def oM (fu:Nat)(r_checker_list:og) (r_checker_statement:lU) (r_checker_parts:nM) (r_checker_block:nO) (b:Gc) (a:Gs):Option (Gs × Int × Gc):=
 if 200≤(b.a.b.length:Int) then
  some ((⟨a.e,a.c,(b.a.b.length:Int),a.a,a.g,a.m,a.j,a.d,a.k,a.h,a.b,a.f,a.i⟩:Gs),5,(⟨b.h,b.e,b.a,b.b,b.g,b.d,b.f,a.c⟩:Gc))
 else
  (app b.a.b ([(⟨b.f,a.e,a.c⟩:Gi)]:List Gi)).bind fun p=>
  if a.e=1 then
   (oZ fu (⟨b.h,b.e,(⟨b.a.a,b.a.c,p⟩:jW),b.b,b.g,b.d,b.f,a.c⟩:Gc) (⟨a.e,a.c,(b.a.b.length:Int),a.a,a.g,a.m,a.j,([]:List Ge),a.k,a.h,([]:List Ge),([]:List Gs),([]:List Gs)⟩:Gs)).bind fun t=>
   iA t fun c t=>iA t fun d e=>
   some ((⟨a.e,a.c,(b.a.b.length:Int),a.a,a.g,a.m,c,([]:List Ge),a.k,a.h,([]:List Ge),([]:List Gs),([]:List Gs)⟩:Gs),d,e)
  else
   (qg fu r_checker_list r_checker_statement r_checker_parts r_checker_block a).bind fun t=>t.el (fun f=>
   if f=true then
    (sO fu (⟨b.h,b.e,(⟨b.a.a,b.a.c,p⟩:jW),b.b,b.g,b.d,b.f,a.c⟩:Gc) (⟨a.e,a.c,(b.a.b.length:Int),a.a,a.g,a.m,a.j,a.d,a.k,a.h,a.b,([]:List Gs),([]:List Gs)⟩:Gs)).bind fun t=>
    iA t fun h t=>iA t fun i j=>
    some (j,h,i)
   else
    (r_checker_parts (⟨b.h,b.e,(⟨b.a.a,b.a.c,p⟩:jW),b.b,b.g,b.d,b.f,a.c⟩:Gc) (⟨a.e,a.c,(b.a.b.length:Int),a.a,a.g,a.m,a.j,a.d,a.k,a.h,a.b,a.f,a.i⟩:Gs)).bind fun t=>
    iA t fun k t=>iA t fun l m=>
    some (m,k,l)
   ) (fun o=>some o)
def sP (fu:Nat)(r_checker_list:og) (r_checker_statement:lU) (r_checker_parts:nM) (r_checker_block:nO) (c:Gs) (h:(List Ge)) (i:(List Ge)) (f:(List Gs)) (a:Gc):Option (Ld (Int × Int × List (BA × Int) × List (BA × Int) × List Gr × List Gn × List (List Gv) × List Gi × List Int × List Gv × List Int × Int) (Int × Gc × Gs)):=
 if c.e=8 then
  (nA fu (⟨a.h,a.e,a.a,a.b,a.g,a.d,a.f,c.c⟩:Gc) (⟨c.a,1,(-1),1,false,0,0⟩:Gv)).bind fun j=>
  iA j fun d j=>iA j fun e b=>
  if e≠0 then
   some (.out (e,b,(⟨c.e,c.c,c.n,c.a,c.g,c.m,d,h,c.k,c.h,i,f,c.i⟩:Gs)))
  else
   some (.go (b.f,b.c,b.h,b.e,b.a.a.a,b.a.a.b,b.a.c,b.a.b,b.b,b.g,b.d,d))
 else
  some (.go (a.f,a.c,a.h,a.e,a.a.a.a,a.a.a.b,a.a.c,a.a.b,a.b,a.g,a.d,c.j))
def rA (fu:Nat)(r_checker_list:og) (r_checker_statement:lU) (r_checker_parts:nM) (r_checker_block:nO) (H:Gc) (a:Gs):Option (Int × Gc × Gs):=
 (kg fu H a.d).bind fun I=>
 iA I fun b I=>iA I fun k l=>
 if k≠0 then
  some (k,l,(⟨a.e,a.c,a.n,a.a,a.g,a.m,a.j,b,a.k,a.h,a.b,a.f,a.i⟩:Gs))
 else
  (kg fu l a.b).bind fun I=>
  iA I fun e I=>iA I fun m p=>
  if m≠0 then
   some (m,p,(⟨a.e,a.c,a.n,a.a,a.g,a.m,a.j,b,a.k,a.h,e,a.f,a.i⟩:Gs))
  else
   (r_checker_block p a.f).bind fun I=>
   iA I fun c I=>iA I fun f d=>
   if f≠0 then
    some (f,d,(⟨a.e,a.c,a.n,a.a,a.g,a.m,a.j,b,a.k,a.h,e,c,a.i⟩:Gs))
   else
    (sP fu r_checker_list r_checker_statement r_checker_parts r_checker_block a b e c d).bind fun I=>I.el (fun I=>
    iA I fun t I=>iA I fun u I=>iA I fun v I=>iA I fun w I=>iA I fun x I=>iA I fun z I=>iA I fun A I=>iA I fun B I=>iA I fun C I=>iA I fun h I=>iA I fun i j=>
    (r_checker_block (⟨v,w,(⟨(⟨x,z⟩:jJ),A,B⟩:jW),C,h,i,t,u⟩:Gc) a.i).bind fun I=>
    iA I fun D I=>iA I fun E F=>
    (lC fu F (d.d.length:Int)).bind fun G=>
    some (E,G,(⟨a.e,a.c,a.n,a.a,a.g,a.m,j,b,a.k,a.h,e,c,D⟩:Gs))
    ) (fun o=>some o)
def rz (fu:Nat)(r_checker_list:og) (r_checker_statement:lU) (r_checker_parts:nM) (r_checker_block:nO) (e:Gc) (f:(List Gs)):Option ((List Gs) × Int × Gc):=
 (r_checker_list e f).bind fun h=>
 iA h fun a h=>iA h fun b c=>
 (lC fu c (e.d.length:Int)).bind fun d=>
 some (a,b,d)
def kQ:Nat→(Gc→(List Gs)→Option ((List Gs) × Int × Gc)) × (Gc→Gs→Option (Gs × Int × Gc)) × (Gc→Gs→Option (Int × Gc × Gs)) × (Gc→(List Gs)→Option ((List Gs) × Int × Gc))
 | 0=>((fun _ _=>none),(fun _ _=>none),(fun _ _=>none),(fun _ _=>none))
 | fu+1=>(p8 fu ((kQ fu).1) ((kQ fu).2.1) ((kQ fu).2.2.1) ((kQ fu).2.2.2),oM fu ((kQ fu).1) ((kQ fu).2.1) ((kQ fu).2.2.1) ((kQ fu).2.2.2),rA fu ((kQ fu).1) ((kQ fu).2.1) ((kQ fu).2.2.1) ((kQ fu).2.2.2),rz fu ((kQ fu).1) ((kQ fu).2.1) ((kQ fu).2.2.1) ((kQ fu).2.2.2))
def kY (fu:Nat):=(kQ fu).1
def kw (fu:Nat):=(kQ fu).2.1
def kV (fu:Nat):=(kQ fu).2.2.1
def kU (fu:Nat):=(kQ fu).2.2.2
theorem Fx (fu:Nat)(r_checker_list:og) (r_checker_statement:lU) (r_checker_parts:nM) (r_checker_block:nO) (H_checker_list:rq r_checker_list) (H_checker_statement:pI r_checker_statement) (H_checker_parts:sJ r_checker_parts) (H_checker_block:sH r_checker_block):rq (p8 fu r_checker_list r_checker_statement r_checker_parts r_checker_block):=by
 intro w0 bQ x0 x1 aS Y a0 a1 a2 ae aE a3 a4 af aF a5 a6 ag aG aH aI aT aJ a7 a8 ah aK aL aM aU aN aO aP aV aQ au av R hP aX aY aZ b0 b1 b2 b3 X
 unfold p8 at X
 have b:=hP.bx
 clear hP
 generalize hG:lT _=G at b ⊢
 refine cf Try.func96 r (ma [(0,Pt aS),(1,Z au x1 av)] ⟨r,r,y⟩ fun bR=>q (g (s (nJ r) (s (xi r) (n (q (g (s (nJ r) (n (q (q (g (s (mD r) (s (lg yH r) (s (mi r) (n ?_))))))))))))))))
 replace b:=b.BQ Gs 111
 have bw:=(b.dl 8 r).bd
 obtain ⟨Y1,u,X⟩:=bs X
 refine oC (fun f w=>∃ (N:List Gs) (v:OA)(x:Nat)(z:LV)(a9:Int)(aa:Int)(ab:List (BA × Int)) (ac:List (BA × Int)) (Q:List Gr) (S:List Gn) (U:List (List Gv)) (W:List Gi) (A:OA)(B:Nat)(C:LV)(o:List Int) (p:List Gv) (e:OA)(h:Nat)(i:LV)(t:List Int) (j:OA)(k:Nat)(m:LV),Has f [(6,Z v N x)]∧Bx w0 w bQ G [O w0.heap.size v x 111 Gs z,.box aS 107 #[.map (some Y),.map (some a0),Z a1 Q a2,Z a3 S a4,Z a5 U a6,Z A W B,Z a7 o a8,Z e p h,Z j t k,V a9,V aa],.map nV oG Y ab,.map nV oG a0 ac,O aE a1 a2 127 Gr ae,O aF a3 a4 82 Gn af,O aG a5 a6 60 (List Gv) ag,O aJ A B 65 Gi C,O aK a7 a8 3 Int ah,O aN e h 59 Gv i,O aQ j k 3 Int m] [.els z N,.els ae Q,.els af S,.els ag U,.els C W,.els ah o,.els i p,.els m t,.l au av x1]∧Ld.go (N,a9,aa,ab,ac,Q,S,U,W,o,p,t)=Y1) (fun J1 bh=>?_) ?_
 ·refine nZ (kH (fun bS f w=>∃ (k1:Nat)(N:List Gs) (v:OA)(x:Nat)(z:LV)(a9:Int)(aa:Int)(ab:List (BA × Int)) (ac:List (BA × Int)) (Q:List Gr) (S:List Gn) (U:List (List Gv)) (W:List Gi) (A:OA)(B:Nat)(C:LV)(o:List Int) (p:List Gv) (e:OA)(h:Nat)(i:LV)(t:List Int) (j:OA)(k:Nat)(m:LV),bS=x1.length - k1∧k1≤x1.length∧Has f [(13,V (k1:Int)),(0,Pt aS),(6,Z v N x),(11,Z au x1 av),(12,V (x1.length:Int))]∧Bx w0 w bQ G [O w0.heap.size v x 111 Gs z,.box aS 107 #[.map (some Y),.map (some a0),Z a1 Q a2,Z a3 S a4,Z a5 U a6,Z A W B,Z a7 o a8,Z e p h,Z j t k,V a9,V aa],.map nV oG Y ab,.map nV oG a0 ac,O aE a1 a2 127 Gr ae,O aF a3 a4 82 Gn af,O aG a5 a6 60 (List Gv) ag,O aJ A B 65 Gi C,O aK a7 a8 3 Int ah,O aN e h 59 Gv i,O aQ j k 3 Int m] [.els z N,.els ae Q,.els af S,.els ag U,.els C W,.els ah o,.els i p,.els m t,.l au av x1]∧nC fu r_checker_list r_checker_statement r_checker_parts r_checker_block (x1.drop k1) k1 N a9 aa ab ac Q S U W o p t=some Y1) (x1.length) ⟨0,([]:List Gs),none,0,[],x0.f,x0.c,x0.h,x0.e,x0.a.a.a,x0.a.a.b,x0.a.c,x0.a.b,aH,aI,aT,x0.b,x0.g,aL,aM,aU,x0.d,aO,aP,aV,r,Nat.zero_le _,⟨r,r,r,r,r,y⟩,b,u⟩ ?_)
  clear b u
  rintro bS f w ⟨k1,N,v,x,z,a9,aa,ab,ac,Q,S,U,W,A,B,C,o,p,e,h,i,t,j,k,m,rfl,bz,hf,b,u⟩ K1 bi
  obtain ⟨bR,rfl⟩:=gP _ _ hf
  clear hf
  rcases Nat.lt_or_ge k1 x1.length with b6 | b6
  ·obtain ⟨c,b5⟩:=lL (l:=x1) b6
   rw [mQ b5,nC] at u
   obtain ⟨bA,bj,b⟩:=b.nm 8 rfl b5
   obtain ⟨aw,ax,ay,az,aA,aB,aC,aD,rfl,b8,b9,ba,bb⟩:=jM.out bj
   replace b:=b.ku (d:=.l aw ax c.d) b8
   replace b:=b.ku (d:=.l ay az c.b) b9
   replace b:=b.ku (d:=.l aA aB c.f) ba
   replace b:=b.ku (d:=.l aC aD c.i) bb
   refine q (g (s (qK r r (by omega)) (n (q (jH r (wk (q (nZ (q (g (s (kZ yH jP r r r (b.dl 13 r) b5) (s (oL [V c.e,V c.c,V c.n,T c.a,T c.g,V c.m,V c.j,Z aw c.d ax,T c.k,V c.h,Z ay c.b az,Z aA c.f aB,Z aC c.i aD] lG r jP r r (b.dc 4 r)) (tL b (ko jP) fun w4 b4 b=>lu (nD b 0 [V c.e,V c.c,V c.n,T c.a,T c.g,V c.m,V c.j,Z aw c.d ax,T c.k,V c.h,Z ay c.b az,Z aA c.f aB,Z aC c.i aD] r jP r r) fun w5 b=>n (q (g (s (mp r) (s (mE [V c.e,V c.c,V c.n,T c.a,T c.g,V c.m,V c.j,Z aw c.d ax,T c.k,V c.h,Z ay c.b az,Z aA c.f aB,Z aC c.i aD] lG jP r (b.bk 0 r)) ?_)))))))))))))))))
   obtain ⟨a,bv,D,h6,u⟩:=qG u
   have hc:=H_checker_statement (b.pr [2,3,4,5,6,7,8,9,10,11] [0,1] [6,7,8,9,10,11,12,3,2,1,0] r) (b.le aX) (b.le aY) (b.le aZ) (b.le b0) (b.le b1) (b.le b2) (b.le b3) h6
   refine sc (ec RO r) hc ?_
   rintro _ w6 ⟨E,F,H,I,J,K,L,M,aj,ak,al,am,an,ao,ap,aq,ar,rfl,hK⟩
   replace b:=b.cn [2,3,4,5,6,7,8,9,10,11] [0,1] hK
   refine s pQ (s (jO r r) (s (jO r r) (tL b (ko jP) fun w7 b7 b=>lu (nD b 0 [V a.e,V a.c,V a.n,T a.a,T a.g,V a.m,V a.j,Z E a.d F,T a.k,V a.h,Z H a.b I,Z J a.f K,Z L a.i M] r jP r r) fun w8 b=>s (xi r) (n (q (q (g (s (mi r) (s (mI r r) (n ?_))))))))))
   rcases iv u with ⟨h9,u⟩|⟨h9,u⟩
   ·refine jH (bt h9) (q (g (s (mi r) (s (nJ r) (s (xi r) (n (kP ?_)))))))
    replace b:=b.BQ Gs 111
    obtain rfl:=sm u
    replace X:=oi X
    obtain rfl:=sm X
    exact rO r (kT r) (kT r) (lw (lw (⟨none,0,[],aj,ak,al,am,an,ao,ap,aq,ar,r,(b.ad [0,2,3,4,5,6,7,8,9,10,11] [0,5,6,7,8,9,10,11])⟩)))
   refine jI (bf h9) (wk (g (s (mD r) (s (mE [V a.e,V a.c,V a.n,T a.a,T a.g,V a.m,V a.j,Z E a.d F,T a.k,V a.h,Z H a.b I,Z J a.f K,Z L a.i M] lG jP r (b.bk 0 r)) (qF (jV b [[V a.e,V a.c,V a.n,T a.a,T a.g,V a.m,V a.j,Z E a.d F,T a.k,V a.h,Z H a.b I,Z J a.f K,Z L a.i M]] ([a]:List Gs) (tH r) r r (by decide) ⟨(jM.tQ ⟨E,F,H,I,J,K,L,M,r,(b.dl 0 r),(b.dl 1 r),(b.dl 2 r),(b.dl 3 r)⟩),y⟩) ?_)))))
   rintro _ bE ⟨bF,rfl,b⟩
   obtain ⟨bm,bc,u⟩:=bs u
   refine qF (kS b 13 17 r r yH jP r (by decide) (by decide) (Nat.le_refl _) r r (b.AJ 0 0 r r) bc) ?_
   rintro _ bG ⟨bn,bo,bp,rfl,b⟩
   exact s (nJ r) (n (g (s (mg r r (by omega) (by omega)) (s (mi r) (n (bi (x1.length - (k1+1)) _ _ (by omega) ⟨k1+1,bm,bn,bo,bp,D.f,D.c,D.h,D.e,D.a.a.a,D.a.a.b,D.a.c,D.a.b,aj,ak,al,D.b,D.g,am,an,ao,D.d,ap,aq,ar,r,by omega,⟨r,r,r,r,r,y⟩,(b.ad [13,2,3,4,5,6,7,8,9,10,11] [17,5,6,7,8,9,10,11,25]),u⟩))))))
  obtain rfl:k1=x1.length:=by omega
  rw [lH,nC] at u
  exact q (g (s (qL r r (by omega)) (n (q (jI r (uW (bh _ _ ⟨N,v,x,z,a9,aa,ab,ac,Q,S,U,W,A,B,C,o,p,e,h,i,t,j,k,m,⟨r,y⟩,b,sm u⟩)))))))
 clear b
 rintro f w ⟨N,v,x,z,a9,aa,ab,ac,Q,S,U,W,A,B,C,o,p,e,h,i,t,j,k,m,hf,b,bq⟩
 obtain ⟨bR,rfl⟩:=gP _ _ hf
 clear hf
 subst bq
 replace X:=gi X
 replace X:=Ak (mf (mf (mf X)))
 refine q (g (s (mD r) (s (nJ r) (s (xi r) (n (kP ?_))))))
 obtain rfl:=sm X
 exact rO r (kT r) (kT r) (lw (lw (⟨v,x,z,A,B,C,e,h,i,j,k,m,r,(b.dp [0,1,2,3,4,5,6,7])⟩)))
theorem Cr (fu:Nat)(r_checker_list:og) (r_checker_statement:lU) (r_checker_parts:nM) (r_checker_block:nO) (H_checker_list:rq r_checker_list) (H_checker_statement:pI r_checker_statement) (H_checker_parts:sJ r_checker_parts) (H_checker_block:sH r_checker_block):pI (oM fu r_checker_list r_checker_statement r_checker_parts r_checker_block):=by
 intro w0 bR h a aT X Y a0 a1 an aJ a2 a3 ao aK a4 a5 ap aL af ag aM aN a6 a7 aq aO N Q aa aP S U ab aQ t u o p v x j m R hP ah ai aj a8 ak al am M
 unfold oM at M
 have e:=hP.bx
 clear hP
 generalize hG:lT _=G at e ⊢
 refine cf Try.func115 r (ma [(0,Pt aT),(1,.agg #[V a.e,V a.c,V a.n,T a.a,T a.g,V a.m,V a.j,Z t a.d u,T a.k,V a.h,Z o a.b p,Z v a.f x,Z j a.i m])] ⟨r,r,y⟩ fun bS=>q (g (tL e (yI r) fun w1 b1 e=>tL e (ko jP) fun w2 b2 e=>s (xi r) (n (q (g (s (mp r) (s (xm r) (s (l3 r (e.bk 1 r) r) (s (xn r) (s (Ed r) (lu (lW e 2 [V a.c] r pJ r r) fun w3 e=>n (q (g (s (mp r) (s (xn r) (s (xK r) (s (zT r) (s (MJ r (e.bk 2 r) r) (s (lg Ca r) (s (Df r) (lu (lW e 1 [V (h.a.b.length:Int)] r pJ r r) fun w4 e=>n (q (q (g (s (Df r) (s (l3 r (e.bk 1 r) r) (s (Bi r r) (n ?_)))))))))))))))))))))))))))))
 rcases iv M with ⟨h5,M⟩|⟨h5,M⟩
 ·refine jH (bt h5) (q (g (s (mE [V a.e,V a.c,V (h.a.b.length:Int),T a.a,T a.g,V a.m,V a.j,Z t a.d u,T a.k,V a.h,Z o a.b p,Z v a.f x,Z j a.i m] lG jP r (e.bk 1 r)) (lu (nD e 0 [V a.e,V a.c,V (h.a.b.length:Int),T a.a,T a.g,V a.m,V a.j,Z t a.d u,T a.k,V a.h,Z o a.b p,Z v a.f x,Z j a.i m] r jP r r) fun w6 e=>s (xi r) (n (kP ?_))))))
  obtain rfl:=sm M
  exact rO r (uN r lG r jP r (e.bk 0 r)) (kT r) (lw (lw (⟨t,u,o,p,v,x,j,m,af,ag,aM,N,Q,aa,S,U,ab,r,(e.ad [2,3,4,5,6,7,8,9,10,11] [7,8,9,10,0,1,2,3,4,5,6])⟩)))
 refine jI (bf h5) (wk (q (Fa e [1] [] [1,2] [] [20] (by kernel_rfl) ?_)))
 replace e:=e.drew
 have hs:=(e.ad [1] [])
 have hu:=(e.ad [1,2] [])
 refine pL 0 r (mp r) hs hu (pL 1 r (mp r) hs hu (pL 2 r (xn r) hs hu (pL 3 r (xK r) hs hu (pL 4 r (zT r) hs hu (tS 1 5 r (fun _ hS=>MJ r (hS.bk 1 r) r) (mH hs hu) (pL 6 r (mp r) hs hu (pL 7 r (xn r) hs hu (pL 8 r (O0 r) hs hu (tS 1 9 r (fun _ hS=>l3 r (hS.bk 1 r) r) (mH hs hu) (pL 10 r (uJ r) hs hu (tU 11 r (fun _ hS=>l3 r (hS.bk 0 r) r) (mH hs hu) (pL 12 r (xm r) hs hu (tU 13 r (fun _ hS=>l3 r (hS.bk 0 r) r) (mH hs hu) (pL 14 r (Hq r r r) hs hu (hO 15 (oo r r (jV e [[V h.f,V a.e,V a.c]] ([(⟨h.f,a.e,a.c⟩:Gi)]:List Gi) (KP r) r r (by decide) ⟨r,y⟩) ?_))))))))))))))))
 rintro _ w7 ⟨b7,rfl,e⟩
 have hs:=(e.ad [2] [])
 have hu:=(e.ad [2,3] [])
 refine ⟨(mH hs hu),?_⟩
 obtain ⟨r8,b8,M⟩:=bs M
 refine hO 16 (oo r r (kS e 9 4 r r Ca Ns r (by decide) (by decide) a8 r r (e.AJ 0 0 r r) b8) ?_)
 rintro _ w8 ⟨A8,C8,Q8,rfl,e⟩
 have hs:=(e.ad [2] [])
 have hu:=(e.ad [2,3] [])
 refine ⟨(mH hs hu),(pL 17 r (xn r) hs hu (pL 18 r (xK r) hs hu (pL 19 r (zT r) hs hu (hO 20 (os r r (lW e 3 [Z A8 r8 C8] r RD r r) fun bq e=>?_)))))⟩
 have hs:=(e.ad [2] [])
 refine ⟨(sy 20 hs),(hD (q (g (s (xi r) (n (q (nZ (q (g (s (uJ r) (s (l3 r (e.bk 2 r) r) (s (kK r r) (s (jU r) (n ?_))))))))))))))⟩
 rcases iv M with ⟨aU,M⟩|⟨aU,M⟩
 ·refine jH (bt aU) (q (g (s (uA r) (lu (lW e 2 [sn] r uk r r) fun br e=>s (qD r) (lu (lW e 2 [sn] r uk r r) fun bu e=>s (uo r) (lu (lW e 2 [sn] r yG r r) fun bv e=>s (tZ r) (lu (lW e 2 [sn] r yG r r) fun bw e=>n (g (s (mp r) (s (mE [V a.e,V a.c,V (h.a.b.length:Int),T a.a,T a.g,V a.m,V a.j,sn,T a.k,V a.h,sn,sn,sn] lG jP r (e.bk 2 r)) ?_))))))))))
  replace e:=e.ku (d:=.l none 0 ([]:List Ge)) oP
  replace e:=e.ku (d:=.l none 0 ([]:List Ge)) oP
  replace e:=e.ku (d:=.l none 0 ([]:List Gs)) oP
  replace e:=e.ku (d:=.l none 0 ([]:List Gs)) oP
  obtain ⟨ac,b9,ba,bb,M⟩:=qG M
  have hc:=(Cy fu) (e.pr [3,4,5,6,7,8,9,10,11,12] [0,1,2] [5,6,7,8,9,10,11,3,2,1,0] r) (e.le ah) (e.le ai) (e.le aj) (e.le a8) (e.le ak) (e.le al) (e.le am) bb
  refine sc (ec SV r) hc ?_
  rintro _ bz ⟨ar,au,av,aw,ax,ay,rfl,hK⟩
  replace e:=e.cn [3,4,5,6,7,8,9,10,11,12] [0,1,2] hK
  refine s pQ (s (jO r r) (s (jO r r) (s (Dl r) (lu (lW e 12 [V ac] r pJ r r) fun bA e=>s (xi r) (n (q (g (s (mE [V a.e,V a.c,V (h.a.b.length:Int),T a.a,T a.g,V a.m,V ac,sn,T a.k,V a.h,sn,sn,sn] lG jP r (e.bk 12 r)) (s (mi r) (lu (nD e 11 [V a.e,V a.c,V (h.a.b.length:Int),T a.a,T a.g,V a.m,V ac,sn,T a.k,V a.h,sn,sn,sn] r jP r r) fun bB e=>s (xi r) (n (kP ?_))))))))))))
  replace e:=e.ku (d:=.l none 0 ([]:List Ge)) oP
  replace e:=e.ku (d:=.l none 0 ([]:List Ge)) oP
  replace e:=e.ku (d:=.l none 0 ([]:List Gs)) oP
  replace e:=e.ku (d:=.l none 0 ([]:List Gs)) oP
  obtain rfl:=sm M
  exact rO r (uN r lG r jP r (e.bk 11 r)) (kT r) (lw (lw (⟨none,0,none,0,none,0,none,0,A8,C8,Q8,ar,au,av,aw,ax,ay,r,(e.ad [0,1,2,3,4,5,6,7,8,9] [3,2,1,0,4,5,6,7,8,9,10])⟩)))
 refine jI (bf aU) (q ?_)
 obtain ⟨bc,W,M⟩:=bs M
 refine oC (fun f w=>∃ (az:Bool),Has f [(0,Pt aT),(3,Pt b1),(4,Pt b2),(60,.bool az)]∧Bx w0 w bR G [.box b2 111 #[V 0,V 0,V 0,T be,T be,V 0,V 0,sn,T be,V 0,sn,sn,sn],.box b1 111 #[V a.e,V a.c,V (h.a.b.length:Int),T a.a,T a.g,V a.m,V a.j,Z t a.d u,T a.k,V a.h,Z o a.b p,Z v a.f x,Z j a.i m],.box aT 107 #[.map (some X),.map (some Y),Z a0 h.a.a.a a1,Z a2 h.a.a.b a3,Z a4 h.a.c a5,Z A8 r8 C8,Z a6 h.b a7,Z N h.g Q,Z S h.d U,V h.f,V a.c],.map nV oG X h.h,.map nV oG Y h.e,O aJ a0 a1 127 Gr an,O aK a2 a3 82 Gn ao,O aL a4 a5 60 (List Gv) ap,O aN A8 C8 65 Gi Q8,O aO a6 a7 3 Int aq,O aP N Q 59 Gv aa,O aQ S U 3 Int ab] [.els an h.a.a.a,.els ao h.a.a.b,.els ap h.a.c,.els Q8 r8,.els aq h.b,.els aa h.g,.els ab h.d,.l t u a.d,.l o p a.b,.l v x a.f,.l j m a.i]∧Ld.go az=bc) (fun bC aR=>?_) ?_
 ·unfold qg at W
  refine q (g (s (uJ r) (s (l3 r (e.bk 2 r) r) (s (kK r r) (s (jU r) (n ?_))))))
  rcases iv W with ⟨aV,W⟩|⟨aV,W⟩
  ·exact jH (bt aV) (wk (aR _ _ ⟨(decide (a.e=3)),⟨r,r,r,r,y⟩,(e.ad [1,2,3,4,5,6,7,8,9,10,11,12] [1,2,3,4,5,6,7,8,9,10,11]),sm W⟩))
  refine jI (bf aV) (g (s (uJ r) (s (l3 r (e.bk 2 r) r) (s (kK r r) (s (jZ r) ?_)))))
  rcases iv W with ⟨aW,W⟩|⟨aW,W⟩
  ·rw [decide_eq_true aW]
   exact jQ r (s (Ai r) (jQ r (s (l9 r (e.bk 2 r) r) (jQ r (s (yO r r) (s (jN r r) (s (jU r) (n (aR _ _ ⟨(decide (¬ a.k=(⟨#[]⟩:BA))),⟨r,r,r,r,y⟩,(e.ad [1,2,3,4,5,6,7,8,9,10,11,12] [1,2,3,4,5,6,7,8,9,10,11]),sm W⟩)))))))))
  rw [decide_eq_false aW]
  exact jB r (jB r (jB r (s (jX r r) (s (jU r) (n (aR _ _ ⟨false,⟨r,r,r,r,y⟩,(e.ad [1,2,3,4,5,6,7,8,9,10,11,12] [1,2,3,4,5,6,7,8,9,10,11]),sm W⟩))))))
 clear e
 rintro f w ⟨az,hf,e,b0⟩
 obtain ⟨bS,rfl⟩:=gP _ _ hf
 clear hf
 subst b0
 replace M:=gi M
 rcases iv M with ⟨aS,M⟩|⟨aS,M⟩
 ·refine jH (cb aS) (q (g (s (uo r) (lu (lW e 1 [sn] r yG r r) fun bD e=>s (tZ r) (lu (lW e 1 [sn] r yG r r) fun bE e=>n (g (s (mp r) ?_)))))))
  replace e:=e.ku (d:=.l none 0 ([]:List Gs)) oP
  replace e:=e.ku (d:=.l none 0 ([]:List Gs)) oP
  obtain ⟨bd,bg,b,bh,M⟩:=qG M
  have hc:=(Fy fu) (e.pr [2,3,4,5,6,7,8,9,10,11,1] [0] [2,3,4,5,6,7,8,9,10,1,0] r) (e.le ah) (e.le ai) (e.le aj) (e.le a8) (e.le ak) (e.le al) (e.le am) bh
  refine sc (ec RJ r) hc ?_
  rintro _ bF ⟨z,A,B,C,rfl,hK⟩
  replace e:=e.cn [2,3,4,5,6,7,8,9,10,11,1] [0] hK
  refine s (xi r) (n (q (g (s (mE [V b.e,V b.c,V b.n,T b.a,T b.g,V b.m,V b.j,Z z b.d A,T b.k,V b.h,Z B b.b C,Z none b.f 0,Z none b.i 0] lG jP r (e.bk 10 r)) (s (mi r) (lu (nD e 11 [V b.e,V b.c,V b.n,T b.a,T b.g,V b.m,V b.j,Z z b.d A,T b.k,V b.h,Z B b.b C,Z none b.f 0,Z none b.i 0] r jP r r) fun bG e=>s (xi r) (n (kP ?_))))))))
  obtain rfl:=sm M
  exact rO r (uN r lG r jP r (e.bk 11 r)) (kT r) (lw (lw (⟨z,A,B,C,none,0,none,0,A8,C8,Q8,N,Q,aa,S,U,ab,r,(e.ad [0,1,2,3,4,5,6,7,8,9] [7,8,9,10,0,1,2,3,4,5,6])⟩)))
 replace aS:=nt aS
 refine jI (cb aS) (g (s (mp r) ?_))
 obtain ⟨bi,bj,c,bl,M⟩:=qG M
 have hc:=H_checker_parts (e.pr [2,3,4,5,6,7,8,9,10,11,1] [0] [0,1,2,3,4,5,6,7,8,9,10] r) (e.le ah) (e.le ai) (e.le aj) (e.le a8) (e.le ak) (e.le al) (e.le am) bl
 refine sc (ec Ta r) hc ?_
 rintro _ bH ⟨aA,aB,aC,aD,aE,aF,aG,aH,aI,D,E,F,H,I,J,K,L,rfl,hK⟩
 replace e:=e.cn [2,3,4,5,6,7,8,9,10,11,1] [0] hK
 refine s (xi r) (n (q (g (s (mE [V c.e,V c.c,V c.n,T c.a,T c.g,V c.m,V c.j,Z D c.d E,T c.k,V c.h,Z F c.b H,Z I c.f J,Z K c.i L] lG jP r (e.bk 10 r)) (s (mi r) (lu (nD e 11 [V c.e,V c.c,V c.n,T c.a,T c.g,V c.m,V c.j,Z D c.d E,T c.k,V c.h,Z F c.b H,Z I c.f J,Z K c.i L] r jP r r) fun bI e=>s (xi r) (n (kP ?_))))))))
 obtain rfl:=sm M
 exact rO r (uN r lG r jP r (e.bk 11 r)) (kT r) (lw (lw (⟨D,E,F,H,I,J,K,L,aA,aB,aC,aD,aE,aF,aG,aH,aI,r,(e.ad [0,1,2,3,4,5,6,7,8,9] [7,8,9,10,0,1,2,3,4,5,6])⟩)))
theorem El (fu:Nat)(r_checker_list:og) (r_checker_statement:lU) (r_checker_parts:nM) (r_checker_block:nO) (H_checker_list:rq r_checker_list) (H_checker_statement:pI r_checker_statement) (H_checker_parts:sJ r_checker_parts) (H_checker_block:sH r_checker_block):sJ (rA fu r_checker_list r_checker_statement r_checker_parts r_checker_block):=by
 intro w0 ce x0 e bj a1 a2 a3 a4 aJ b8 a5 a6 aK b9 a7 a8 aL ba aw ax aM bb a9 aa aN bc ay az aO bd aA aB aP bg bl bo bp aQ aR ab ac u v R hP C D E F H I J m
 unfold rA at m
 have a:=hP.bx
 clear hP
 generalize hG:lT _=G at a ⊢
 refine cf Try.func131 r (ma [(0,Pt bj),(1,Pt bl)] ⟨r,r,y⟩ fun cg=>q (g (s (xi r) (n (q (g (s (xi r) (n (q (q (g (s (mp r) (s (mp r) (s (mp r) (s (xn r) (s (uA r) (s (xe r (a.bk 10 r) r) ?_)))))))))))))))))
 obtain ⟨W,bS,bT,h1,m⟩:=qG m
 have hc:=(rR fu) (a.pr [0,1,2,3,4,5,6,7,8,9] [10] [0,1,2,3,4,5,6,7] r) (a.le C) (a.le D) (a.le E) (a.le F) (a.le H) (a.le I) (a.le J) h1
 refine sc (ec Gq r) hc ?_
 rintro _ w1 ⟨b,c,aH,rfl,hK⟩
 have aS:=a.rX.size
 replace a:=a.cn [0,1,2,3,4,5,6,7,8,9] [10] hK
 replace a:=a.rb 0 w0.heap.size r aS
 refine s pQ (s (jO r r) (s (jO r r) (s (xn r) (s (uA r) (lu (lW a 11 [Z b W c] r uk r r) fun w2 a=>s (xi r) (n (q (g (s (mi r) (s (mI r r) (n ?_)))))))))))
 rcases iv m with ⟨h3,m⟩|⟨h3,m⟩
 ·refine jH (bt h3) (q (g (s (mi r) (s (xi r) (n (kP ?_))))))
  replace a:=a.fz 0 0 r r
  obtain rfl:=sm m
  exact jC r (kT r) (lw (lw (⟨aw,ax,aM,ay,az,aO,aA,aB,aP,b,c,aQ,aR,ab,ac,u,v,r,(a.dp [1,2,3,4,5,6,7,0,16,17,18])⟩)))
 refine jI (bf h3) (wk (q (q (g (s (mp r) (s (mp r) (s (mp r) (s (xn r) (s (qD r) (s (xe r (a.bk 11 r) r) ?_))))))))))
 obtain ⟨ae,bU,bV,h5,m⟩:=qG m
 have hc:=(rR fu) (a.pr [1,2,3,4,5,6,7,8,9,10] [0,11] [1,2,3,4,5,6,7,16] r) (a.le C) (a.le D) (a.le E) (a.le F) (a.le H) (a.le I) (a.le J) h5
 refine sc (ec Gq r) hc ?_
 rintro _ w5 ⟨h,j,aI,rfl,hK⟩
 have aS:=a.rX.size
 replace a:=a.cn [1,2,3,4,5,6,7,8,9,10] [0,11] hK
 replace a:=a.rb 0 w0.heap.size r aS
 refine s pQ (s (jO r r) (s (jO r r) (s (xn r) (s (qD r) (lu (lW a 12 [Z h ae j] r uk r r) fun w6 a=>s (xi r) (n (q (g (s (mi r) (s (mI r r) (n ?_)))))))))))
 rcases iv m with ⟨h7,m⟩|⟨h7,m⟩
 ·refine jH (bt h7) (q (g (s (mi r) (s (xi r) (n (kP ?_))))))
  replace a:=a.fz 11 8 r r
  replace a:=a.fz 0 1 r r
  obtain rfl:=sm m
  exact jC r (kT r) (lw (lw (⟨aw,ax,aM,ay,az,aO,aA,aB,aP,b,c,h,j,ab,ac,u,v,r,(a.dp [2,3,4,5,6,7,8,1,0,25,26])⟩)))
 refine jI (bf h7) (wk (q (q (g (s (mp r) (s (mp r) (s (mp r) (s (xn r) (s (uo r) (s (FV r (a.bk 12 r) r) ?_))))))))))
 obtain ⟨Q,bH,d,bI,m⟩:=qG m
 have hc:=H_checker_block (a.pr [1,2,3,4,5,6,7,8,9,10] [0,11,12] [1,2,3,4,5,6,7,25] r) (a.le C) (a.le D) (a.le E) (a.le F) (a.le H) (a.le I) (a.le J) bI
 refine sc (ec Pv r) hc ?_
 rintro _ bY ⟨o,p,av,x,z,B,K,L,af,M,N,ag,rfl,hK⟩
 have aS:=a.rX.size
 replace a:=a.cn [1,2,3,4,5,6,7,8,9,10] [0,11,12] hK
 replace a:=a.rb 0 w0.heap.size r aS
 refine s pQ (s (jO r r) (s (jO r r) (s (xn r) (s (uo r) (lu (lW a 13 [Z o Q p] r yG r r) fun bZ a=>s (xi r) (n (q (g (s (mi r) (s (mI r r) (n ?_)))))))))))
 rcases iv m with ⟨bq,m⟩|⟨bq,m⟩
 ·refine jH (bt bq) (q (g (s (mi r) (s (xi r) (n (kP ?_))))))
  replace a:=a.fz 12 16 r r
  replace a:=a.fz 11 9 r r
  replace a:=a.fz 0 2 r r
  obtain rfl:=sm m
  exact jC r (kT r) (lw (lw (⟨x,z,B,K,L,af,M,N,ag,b,c,h,j,o,p,u,v,r,(a.dp [3,4,5,6,7,8,9,2,1,0,34])⟩)))
 refine jI (bf bq) (wk (q (g (s (mp r) (s (xn r) (s (BD r) (s (Ko r (a.bk 1 r) r) (s (lg vE r) (s (xi r) (n (q ?_)))))))))))
 obtain ⟨bJ,t,m⟩:=bs m
 refine oC (fun f w=>∃ (aT:Int)(aU:Int)(aV:List (BA × Int)) (aW:List (BA × Int)) (aC:List Gr) (aD:List Gn) (aE:List (List Gv)) (aF:List Gi) (aG:List Int) (X:List Gv) (ah:OA)(ai:Nat)(aj:LV)(Y:List Int) (ak:OA)(al:Nat)(am:LV)(a0:Int),Has f [(0,Pt bj),(1,Pt bl),(6,V (d.d.length:Int))]∧Bx w0 w ce G [O w0.heap.size o p 111 Gs av,.box bj 107 #[.map (some a1),.map (some a2),Z a3 aC a4,Z a5 aD a6,Z a7 aE a8,Z x aF z,Z a9 aG aa,Z ah X ai,Z ak Y al,V aT,V aU],.map nV oG a1 aV,.map nV oG a2 aW,O b8 a3 a4 127 Gr aJ,O b9 a5 a6 82 Gn aK,O ba a7 a8 60 (List Gv) aL,O bb x z 65 Gi B,O bc a9 aa 3 Int aN,O bd ah ai 59 Gv aj,O bg ak al 3 Int am,O w0.heap.size h j 138 Ge aI,O w0.heap.size b c 138 Ge aH,.box bl 111 #[V e.e,V e.c,V e.n,T e.a,T e.g,V e.m,V a0,Z b W c,T e.k,V e.h,Z h ae j,Z o Q p,Z u e.i v]] [.els av Q,.els aJ aC,.els aK aD,.els aL aE,.els B aF,.els aN aG,.els aj X,.els am Y,.els aI ae,.els aH W,.l u v e.i]∧Ld.go (aT,aU,aV,aW,aC,aD,aE,aF,aG,X,Y,a0)=bJ) (fun c0 bn=>?_) ?_
 ·unfold sP at t
  refine q (g (s (mp r) (s (xn r) (s (uJ r) (s (l3 r (a.bk 13 r) r) (s (kK r r) (n ?_)))))))
  rcases iv t with ⟨br,t⟩|⟨br,t⟩
  ·refine jH (bt br) (q (g (s (mp r) (s (mp r) (s (xn r) (s (xm r) (s (l3 r (a.bk 13 r) r) (s (xn r) (s (Ed r) (lu (lW a 1 [V e.c] r pJ r r) fun c1 a=>n (q (g (s (mp r) (s (mp r) (s (mp r) (s (xn r) (s (xu r) (s (l9 r (a.bk 13 r) r) (s (DZ r r r r) ?_)))))))))))))))))))
   obtain ⟨aX,bK,A,bL,t⟩:=qG t
   have hc:=(Ag fu) (a.pr [1,2,3,4,5,6,7,8,9,10] [0,11,12,13] [1,2,3,4,5,6,7] r) (a.le C) (a.le D) (a.le E) (a.le F) (a.le H) (a.le I) (a.le J) bL
   refine sc (ec O8 r) hc ?_
   rintro _ c2 ⟨an,ao,ap,aq,ar,au,rfl,hK⟩
   replace a:=a.cn [1,2,3,4,5,6,7,8,9,10] [0,11,12,13] hK
   refine s pQ (s (jO r r) (s (jO r r) (s (xn r) (s (Dl r) (lu (lW a 13 [V aX] r pJ r r) fun c3 a=>s (xi r) (n (q (g (s (mi r) (s (mI r r) (n ?_)))))))))))
   rcases iv t with ⟨bu,t⟩|⟨bu,t⟩
   ·refine jH (bt bu) (q (g (s (mi r) (s (xi r) (n (kP ?_))))))
    replace a:=a.fz 12 23 r r
    replace a:=a.fz 11 16 r r
    replace a:=a.fz 10 9 r r
    obtain rfl:=sm t
    replace m:=oi m
    obtain rfl:=sm m
    exact jC r (kT r) (lw (lw (⟨x,z,B,an,ao,ap,aq,ar,au,b,c,h,j,o,p,u,v,r,(a.dp [3,4,5,6,7,8,9,2,1,0,41])⟩)))
   exact jI (bf bu) (wk (bn _ _ ⟨A.f,A.c,A.h,A.e,A.a.a.a,A.a.a.b,A.a.c,A.a.b,A.b,A.g,an,ao,ap,A.d,aq,ar,au,aX,⟨r,r,r,y⟩,(a.ad [10,0,1,2,3,4,5,6,7,8,9,11,12,13] [7,0,1,2,3,4,5,6,15,23,41]),sm t⟩))
  exact jI (bf br) (wk (bn _ _ ⟨d.f,d.c,d.h,d.e,d.a.a.a,d.a.a.b,d.a.c,d.a.b,d.b,d.g,K,L,af,d.d,M,N,ag,e.j,⟨r,r,r,y⟩,(a.dp [0,1,2,3,4,5,6,7,8,16,34]),sm t⟩))
 clear a
 rintro f w ⟨aT,aU,aV,aW,aC,aD,aE,aF,aG,X,ah,ai,aj,Y,ak,al,am,a0,hf,a,bE⟩
 obtain ⟨cg,rfl⟩:=gP _ _ hf
 clear hf
 subst bE
 replace m:=gi m
 replace m:=Ak (mf (mf (mf m)))
 refine q (g (s (mp r) (s (mp r) (s (mp r) (s (xn r) (s (tZ r) (s (FV r (a.bk 13 r) r) ?_)))))))
 obtain ⟨bi,bM,bN,bO,m⟩:=qG m
 have hc:=H_checker_block (a.pr [1,2,3,4,5,6,7,8,9,10] [0,11,12,13] [1,2,3,4,5,6,7,10] r) (a.le C) (a.le D) (a.le E) (a.le F) (a.le H) (a.le I) (a.le J) bO
 refine sc (ec Pv r) hc ?_
 rintro _ c4 ⟨S,U,bD,aY,aZ,b0,bv,bw,bz,bA,bB,bC,rfl,hK⟩
 have aS:=a.rX.size
 replace a:=a.cn [1,2,3,4,5,6,7,8,9,10] [0,11,12,13] hK
 replace a:=a.rb 0 w0.heap.size r aS
 refine s pQ (s (jO r r) (s (jO r r) (s (xn r) (s (tZ r) (lu (lW a 14 [Z S bi U] r yG r r) fun c5 a=>s (xi r) (n (q (g (s (mp r) (s (mi r) ?_))))))))))
 obtain ⟨bP,bQ,m⟩:=bs m
 have hc:=(yQ fu) (a.pr [1,2,3,4,5,6,7,8,9,10] [0,11,12,13,14] [1,2,3,4,5,6,7] r) (a.le C) (a.le D) (a.le E) (a.le F) (a.le H) (a.le I) (a.le J) bQ
 refine sc (ec Oa r) hc ?_
 rintro _ c6 ⟨b1,b2,b3,b4,b5,b6,rfl,hK⟩
 replace a:=a.cn [1,2,3,4,5,6,7,8,9,10] [0,11,12,13,14] hK
 refine n (q (g (s (mi r) (s (xi r) (n (kP ?_))))))
 replace a:=a.fz 13 24 r r
 replace a:=a.fz 12 24 r r
 replace a:=a.fz 11 17 r r
 replace a:=a.fz 10 10 r r
 obtain rfl:=sm m
 exact jC r (kT r) (lw (lw (⟨aY,aZ,b0,b1,b2,b3,b4,b5,b6,b,c,h,j,o,p,S,U,r,(a.dp [4,5,6,7,8,9,10,3,2,1,0])⟩)))
theorem EA (fu:Nat)(r_checker_list:og) (r_checker_statement:lU) (r_checker_parts:nM) (r_checker_block:nO) (H_checker_list:rq r_checker_list) (H_checker_statement:pI r_checker_statement) (H_checker_parts:sJ r_checker_parts) (H_checker_block:sH r_checker_block):sH (rz fu r_checker_list r_checker_statement r_checker_parts r_checker_block):=by
 intro w0 aF z x1 ao A B C D a1 a2 E F a3 a4 H I a5 a6 J K a7 a8 L M a9 aa N Q ab ac S U ae af ag ah R hP b c d e f h j hM
 unfold rz at hM
 have a:=hP.bx
 clear hP
 generalize hG:lT _=G at a ⊢
 refine cf Try.func139 r (ma [(0,Pt ao),(1,Z ag x1 ah)] ⟨r,r,y⟩ fun aG=>q (g (s (nJ r) (s (xi r) (n (q (g (s (mp r) (s (xn r) (s (BD r) (s (Ko r (a.bk 0 r) r) (s (lg vE r) (s (xi r) (n (q (g (s (mp r) (s (mD r) ?_))))))))))))))))))
 obtain ⟨au,av,aw,h1,hM⟩:=qG hM
 have hc:=H_checker_list (a.pr [0,1,2,3,4,5,6,7,8,9] [] [0,1,2,3,4,5,6,7] r) (a.le b) (a.le c) (a.le d) (a.le e) (a.le f) (a.le h) (a.le j) h1
 refine sc (ec Re r) hc ?_
 rintro _ w1 ⟨W,X,Y,l,m,o,ai,aj,ak,al,am,an,rfl,hK⟩
 have aq:=a.rX.size
 replace a:=a.cn [0,1,2,3,4,5,6,7,8,9] [] hK
 replace a:=a.rb 0 w0.heap.size r aq
 refine s pQ (s (jO r r) (s (jO r r) (s (nJ r) (s (xi r) (n (q (g (s (mp r) (s (mi r) ?_)))))))))
 obtain ⟨ax,h2,hM⟩:=bs hM
 have hc:=(yQ fu) (a.pr [1,2,3,4,5,6,7,8,9,10] [0] [1,2,3,4,5,6,7] r) (a.le b) (a.le c) (a.le d) (a.le e) (a.le f) (a.le h) (a.le j) h2
 refine sc (ec Oa r) hc ?_
 rintro _ w2 ⟨p,t,u,v,w,x,rfl,hK⟩
 replace a:=a.cn [1,2,3,4,5,6,7,8,9,10] [0] hK
 refine n (q (g (s (mD r) (s (mi r) (s (nJ r) (s (xi r) (n (kP ?_))))))))
 obtain rfl:=sm hM
 exact rO r (kT r) (kT r) (lw (lw (⟨W,X,Y,l,m,o,p,t,u,v,w,x,r,(a.ad [10,0,1,2,3,4,5,6,7,8,9] [7,0,1,2,3,4,5,6])⟩)))
theorem EF (fu:Nat):rq (kY fu)∧pI (kw fu)∧sJ (kV fu)∧sH (kU fu):=by
 induction fu with
 | zero=>exact ⟨by intro a b;intros;exact nn (by assumption),by intro a b;intros;exact nn (by assumption),by intro a b;intros;exact nn (by assumption),by intro a b;intros;exact nn (by assumption)⟩
 | succ fu ih=>exact ⟨Fx fu (kY fu) (kw fu) (kV fu) (kU fu) ih.1 ih.2.1 ih.2.2.1 ih.2.2.2,Cr fu (kY fu) (kw fu) (kV fu) (kU fu) ih.1 ih.2.1 ih.2.2.1 ih.2.2.2,El fu (kY fu) (kw fu) (kV fu) (kU fu) ih.1 ih.2.1 ih.2.2.1 ih.2.2.2,EA fu (kY fu) (kw fu) (kV fu) (kU fu) ih.1 ih.2.1 ih.2.2.1 ih.2.2.2⟩
theorem FL (fu:Nat):rq (kY fu):=(EF fu).1
def CE (m:Gc→Int→Gn→Option (Int × Gc)):Prop:=∀ {w0:World} {ah:Nat→Prop} {b:Gc} {x1:Int} {x2:Gn} {ac:Nat} {c:Nat} {d:Nat} {e:Option Addr} {f:Nat} {j:List (List Value)} {o:Nat} {p:Option Addr} {t:Nat} {I:List (List Value)} {u:Nat} {x:Option Addr} {z:Nat} {J:List (List Value)} {A:Nat} {B:Option Addr} {C:Nat} {K:List (List Value)} {D:Nat} {h:Option Addr} {i:Nat} {k:List (List Value)} {E:Nat} {L:Option Addr} {M:Nat} {F:Option Addr} {G:Nat} {N:List (List Value)} {H:Nat} {a7:Option Addr} {a8:Nat} {a9:Option Addr} {aa:Nat} {R:Int × Gc},Pre w0 ah [.box ac 107 #[.map (some c),.map (some d),Z e b.a.a.a f,Z p b.a.a.b t,Z x b.a.c z,Z B b.a.b C,Z h b.b i,Z L b.g M,Z F b.d G,V b.f,V b.c],.map nV oG c b.h,.map nV oG d b.e,O o e f 127 Gr j,O u p t 82 Gn I,O A x z 60 (List Gv) J,O D B C 65 Gi K,O E h i 3 Int k,O H F G 3 Int N] [.els j b.a.a.a,.els I b.a.a.b,.els J b.a.c,.els K b.a.b,.els k b.b,.l L M b.g,.els N b.d,.l a7 a8 x2.b,.l a9 aa x2.f]→o≤w0.heap.size→u≤w0.heap.size→A≤w0.heap.size→D≤w0.heap.size→E≤w0.heap.size→H≤w0.heap.size→m b x1 x2=some R→
 Calls Try.prog 71 #[Pt ac,V x1,.agg #[T x2.a,V x2.c,Z a7 x2.b a8,Z a9 x2.f aa]] w0 (rf fun v w=>iA R fun r0 a=>∃ (P:OA)(Q:Nat)(S:LV)(U:OA)(W:Nat)(X:LV)(Y:OA)(a0:Nat)(a1:LV)(a2:OA)(a3:Nat)(a4:OA)(a5:Nat)(a6:LV),v=V r0∧Bx w0 w ah (lT [.box ac 107 #[.map (some c),.map (some d),Z e b.a.a.a f,Z p b.a.a.b t,Z x b.a.c z,Z B b.a.b C,Z h b.b i,Z L b.g M,Z F b.d G,V b.f,V b.c],.map nV oG c b.h,.map nV oG d b.e,O o e f 127 Gr j,O u p t 82 Gn I,O A x z 60 (List Gv) J,O D B C 65 Gi K,O E h i 3 Int k,O H F G 3 Int N]) [.box ac 107 #[.map (some c),.map (some d),Z e a.a.a.a f,Z P a.a.a.b Q,Z U a.a.c W,Z Y a.a.b a0,Z h a.b i,Z a2 a.g a3,Z a4 a.d a5,V a.f,V a.c],.map nV oG c a.h,.map nV oG d a.e,O o e f 127 Gr j,O u P Q 82 Gn S,O A U W 60 (List Gv) X,O D Y a0 65 Gi a1,O E h i 3 Int k,O H a4 a5 3 Int a6] [.els j a.a.a.a,.els S a.a.a.b,.els X a.a.c,.els a1 a.a.b,.els k a.b,.l a2 a3 a.g,.els a6 a.d])
def lQ (fu:Nat):List BA→Nat→(List Int)→(List Gv)→Int→Int→(List (BA × Int))→(List (BA × Int))→(List Gr)→(List Gn)→(List (List Gv))→(List Gi)→(List Int)→Option (Ld (List Int × List Gv × Int × Int × List (BA × Int) × List (BA × Int) × List Gr × List Gn × List (List Gv) × List Gi × List Int) (Int × Gc))
 | [],_,d,e,f,h,i,j,k,l,m,b,c=>some (.go (d,e,f,h,i,j,k,l,m,b,c))
 | p :: t,u,d,e,f,h,i,j,k,l,m,b,c=>
 (pR fu (⟨i,j,(⟨(⟨k,l⟩:jJ),m,b⟩:jW),c,e,d,f,h⟩:Gc) (⟨p,1,(-1),1,true,0,0⟩:Gv)).bind fun v=>
 iA v fun o a=>
 lQ fu t (u+1) a.d a.g a.f a.c a.h a.e a.a.a.a a.a.a.b a.a.c a.a.b a.b
def oW (fu:Nat)(b:Gc) (C:Int)(e:Gn):Option (Int × Gc):=
 if 4 < (e.b.length:Int) then
  some (5,(⟨b.h,b.e,b.a,b.b,b.g,b.d,b.f,e.c⟩:Gc))
 else
  (oh fu e.b).bind fun k=>
  if k=true then
   some (9,(⟨b.h,b.e,b.a,b.b,b.g,b.d,b.f,e.c⟩:Gc))
  else
   (lQ fu e.b 0 ([]:List Int) ([]:List Gv) C e.c b.h b.e b.a.a.a b.a.a.b b.a.c b.a.b b.b).bind fun D=>D.el (fun D=>
   iA D fun l D=>iA D fun m D=>iA D fun p D=>iA D fun t D=>iA D fun u D=>iA D fun v D=>iA D fun w D=>iA D fun x D=>iA D fun z D=>iA D fun f h=>
   (kY fu (⟨u,v,(⟨(⟨w,x⟩:jJ),z,f⟩:jW),h,m,l,p,t⟩:Gc) e.f).bind fun D=>
   iA D fun i D=>iA D fun c d=>
   if c≠0 then
    some (c,d)
   else
    (lC fu d 0).bind fun a=>
    (qM fu e.b).bind fun j=>
    (app a.a.a.b ([(⟨e.a,e.c,j,i⟩:Gn)]:List Gn)).bind fun A=>
    (app a.a.c ([a.g]:List (List Gv))).bind fun B=>
    some (0,(⟨a.h,a.e,(⟨(⟨a.a.a.a,A⟩:jJ),B,a.a.b⟩:jW),a.b,a.g,a.d,a.f,a.c⟩:Gc))
   ) (fun o=>some o)
theorem CG (fu:Nat):CE (oW fu):=by
 intro w0 cc H x1 I aX o p t u ar aD e j U aE c d W aF v x aa aG z A au aH av aw ab ac aI aJ ag ah ai aj R hP aA ap aq aB aC aW m
 unfold oW at m
 have a:=hP.bx
 clear hP
 generalize hG:lT _=G at a ⊢
 refine cf Try.func71 r (ma [(0,Pt aX),(1,V x1),(2,.agg #[T I.a,V I.c,Z ag I.b ah,Z ai I.f aj])] ⟨r,r,r,y⟩ fun cd=>q (g (tL a (yI r) fun w1 b1 a=>s (xi r) (n (q (g (s (mp r) (s (ET r) (s (l3 r (a.bk 0 r) r) (s (xn r) (s (Ed r) (lu (lW a 1 [V I.c] r pJ r r) fun w2 a=>n (q (q (g (s (zD r) (s (yF r (a.bk 0 r) r) (s (lg kL r) (s (vG r r) (n ?_))))))))))))))))))))
 rcases iv m with ⟨h3,m⟩|⟨h3,m⟩
 ·refine jH (bt h3) (q (g (s (xi r) (n (kP ?_)))))
  obtain rfl:=sm m
  exact jC r (kT r) (lw (⟨e,j,U,c,d,W,v,x,aa,av,aw,ab,ac,aI,r,(a.ad [1,2,3,4,5,6,7,8,9] [0,1,2,3,4,5,6])⟩))
 refine jI (bf h3) (wk (q (q (g (s (zD r) (s (yF r (a.bk 0 r) r) ?_))))))
 obtain ⟨bH,h4,m⟩:=bs m
 have hc:=(zQ fu) (a.pr [] [0,1,2,3,4,5,6,7,8,9] [7] r)  h4
 refine sc (ec QO r) hc ?_
 rintro _ w4 ⟨rfl,hK⟩
 replace a:=a.cn [] [0,1,2,3,4,5,6,7,8,9] hK
 refine n ?_
 rcases iv m with ⟨h5,m⟩|⟨h5,m⟩
 ·refine jH (cb h5) (q (g (s (xi r) (n (kP ?_)))))
  obtain rfl:=sm m
  exact jC r (kT r) (lw (⟨e,j,U,c,d,W,v,x,aa,av,aw,ab,ac,aI,r,(a.ad [1,2,3,4,5,6,7,8,9] [0,1,2,3,4,5,6])⟩))
 replace h5:=nt h5
 refine jI (cb h5) (wk (q (g (s (mp r) (s (mp r) (s (mp r) (s (mi r) (s (xn r) (s (O0 r) (lu (lW a 1 [V x1] r pJ r r) fun w6 a=>s (xn r) (s (Ac r) (lu (lW a 1 [sn] r Br r r) fun w7 a=>s (xn r) (s (BD r) (lu (lW a 1 [sn] r Er r r) fun w8 a=>n (q (q (g (s (zD r) (s (yF r (a.bk 0 r) r) (s (lg kL r) (s (mi r) (n ?_))))))))))))))))))))))
 replace a:=a.BQ Gv 59
 replace a:=a.BQ Int 3
 have bK:=(a.dl 9 r).bd
 obtain ⟨Y9,ax,m⟩:=bs m
 refine oC (fun f w=>∃ (a5:List Int) (X:OA)(Y:Nat)(a0:LV)(a6:List Gv) (a1:OA)(a2:Nat)(a3:LV)(al:Int)(am:Int)(an:List (BA × Int)) (ao:List (BA × Int)) (a7:List Gr) (a8:List Gn) (a9:List (List Gv)) (J:List Gi) (K:List Int),Has f [(0,Pt aX),(5,Pt b1)]∧Bx w0 w cc G [O w0.heap.size X Y 3 Int a0,O w0.heap.size a1 a2 59 Gv a3,.box b1 82 #[T I.a,V I.c,Z ag I.b ah,Z ai I.f aj],.box aX 107 #[.map (some o),.map (some p),Z t a7 u,Z e a8 j,Z c a9 d,Z v J x,Z z K A,Z a1 a6 a2,Z X a5 Y,V al,V am],.map nV oG o an,.map nV oG p ao,O aD t u 127 Gr ar,O aE e j 82 Gn U,O aF c d 60 (List Gv) W,O aG v x 65 Gi aa,O aH z A 3 Int au] [.els a0 a5,.els a3 a6,.els ar a7,.els U a8,.els W a9,.els aa J,.els au K,.l ag ah I.b,.l ai aj I.f]∧Ld.go (a5,a6,al,am,an,ao,a7,a8,a9,J,K)=Y9) (fun J9 bq=>?_) ?_
 ·refine nZ (kH (fun ce f w=>∃ (k9:Nat)(a5:List Int) (X:OA)(Y:Nat)(a0:LV)(a6:List Gv) (a1:OA)(a2:Nat)(a3:LV)(al:Int)(am:Int)(an:List (BA × Int)) (ao:List (BA × Int)) (a7:List Gr) (a8:List Gn) (a9:List (List Gv)) (J:List Gi) (K:List Int),ce=I.b.length - k9∧k9≤I.b.length∧Has f [(36,V (k9:Int)),(0,Pt aX),(5,Pt b1),(34,Z ag I.b ah),(35,V (I.b.length:Int))]∧Bx w0 w cc G [O w0.heap.size X Y 3 Int a0,O w0.heap.size a1 a2 59 Gv a3,.box b1 82 #[T I.a,V I.c,Z ag I.b ah,Z ai I.f aj],.box aX 107 #[.map (some o),.map (some p),Z t a7 u,Z e a8 j,Z c a9 d,Z v J x,Z z K A,Z a1 a6 a2,Z X a5 Y,V al,V am],.map nV oG o an,.map nV oG p ao,O aD t u 127 Gr ar,O aE e j 82 Gn U,O aF c d 60 (List Gv) W,O aG v x 65 Gi aa,O aH z A 3 Int au] [.els a0 a5,.els a3 a6,.els ar a7,.els U a8,.els W a9,.els aa J,.els au K,.l ag ah I.b,.l ai aj I.f]∧lQ fu (I.b.drop k9) k9 a5 a6 al am an ao a7 a8 a9 J K=some Y9) (I.b.length) ⟨0,([]:List Int),none,0,[],([]:List Gv),none,0,[],x1,I.c,H.h,H.e,H.a.a.a,H.a.a.b,H.a.c,H.a.b,H.b,r,Nat.zero_le _,⟨r,r,r,r,r,y⟩,(a.ad [0,1,2,3,4,5,6,7,8,9,10] [0,1,2,3,4,5,6,9,10]),ax⟩ ?_)
  clear a ax
  rintro ce f w ⟨k9,a5,X,Y,a0,a6,a1,a2,a3,al,am,an,ao,a7,a8,a9,J,K,rfl,bL,hf,a,ax⟩ K9 br
  obtain ⟨cd,rfl⟩:=gP _ _ hf
  clear hf
  rcases Nat.lt_or_ge k9 I.b.length with bj | bj
  ·obtain ⟨u9,b4⟩:=lL (l:=I.b) bj
   rw [mQ b4,lQ] at ax
   refine q (g (s (qK r r (by omega)) (n (q (jH r (wk (q (nZ (q (g (s (kZ kL pV r r r (a.dl 7 r) b4) (s (kz rH r r ((vo (ds:=[T u9]) (a.dl 7 r) b4 (fun _ h=>h)) 0 _ r)) (s (mZ r) (n (g (s (mp r) (s (lc r) (s (Gg r r r r r) ?_))))))))))))))))))
   obtain ⟨bu,D,bv,ax⟩:=lV ax
   have hc:=(BX fu) (a.pr [3,4,5,6,7,8,9,10,1,0] [2] [2,3,4,5,6,1,0] r) (a.le aA) (a.le ap) (a.le aq) (a.le aB) (a.le aC) a.rX.size a.rX.size bv
   refine sc (ec QF r) hc ?_
   rintro _ bN ⟨aK,aL,aM,aN,aO,aP,rfl,hK⟩
   replace a:=a.cn [3,4,5,6,7,8,9,10,1,0] [2] hK
   exact n (g (s (mg r r (by omega) (by omega)) (s (mi r) (n (br (I.b.length - (k9+1)) _ _ (by omega) ⟨k9+1,D.d,aN,aO,aP,D.g,aK,aL,aM,D.f,D.c,D.h,D.e,D.a.a.a,D.a.a.b,D.a.c,D.a.b,D.b,r,by omega,⟨r,r,r,r,r,y⟩,(a.ad [9,8,10,0,1,2,3,4,5,6,7] [6,5,0,1,2,3,4,14,15]),ax⟩)))))
  obtain rfl:k9=I.b.length:=by omega
  rw [lH,lQ] at ax
  exact q (g (s (qL r r (by omega)) (n (q (jI r (uW (bq _ _ ⟨a5,X,Y,a0,a6,a1,a2,a3,al,am,an,ao,a7,a8,a9,J,K,⟨r,r,y⟩,a,sm ax⟩)))))))
 clear a
 rintro f w ⟨a5,X,Y,a0,a6,a1,a2,a3,al,am,an,ao,a7,a8,a9,J,K,hf,a,bw⟩
 obtain ⟨cd,rfl⟩:=gP _ _ hf
 clear hf
 subst bw
 replace m:=gi m
 replace m:=pi (mf (mf (mf m)))
 refine q (g (s (mp r) (s (Av r) (s (FV r (a.bk 2 r) r) ?_))))
 obtain ⟨ay,bz,bA,bB,m⟩:=qG m
 have hc:=(FL fu) (a.pr [3,4,5,6,7,8,9,10,1,0] [2] [2,3,4,5,6,1,0,8] r) (a.le aA) (a.le ap) (a.le aq) (a.le aB) (a.le aC) a.rX.size a.rX.size bB
 refine sc (ec Re r) hc ?_
 rintro _ bO ⟨L,M,bg,N,Q,az,aQ,aR,b5,aS,aT,aU,rfl,hK⟩
 have b6:=a.rX.size
 replace a:=a.cn [3,4,5,6,7,8,9,10,1,0] [2] hK
 replace a:=a.rb 0 w0.heap.size r b6
 refine s pQ (s (jO r r) (s (jO r r) (s (nJ r) (s (xi r) (n (q (q (g (s (mi r) (s (mI r r) (n ?_)))))))))))
 rcases iv m with ⟨b7,m⟩|⟨b7,m⟩
 ·refine jH (bt b7) (q (g (s (mi r) (s (xi r) (n (kP ?_))))))
  replace a:=a.fz 9 6 r r
  replace a:=a.rb 9 aJ r aW
  obtain rfl:=sm m
  exact jC r (kT r) (lw (⟨e,j,U,c,d,W,N,Q,az,aQ,aR,aS,aT,aU,r,(a.ad [1,2,3,4,5,6,7,8,9] [2,3,4,5,6,0,7])⟩))
 refine jI (bf b7) (wk (q (g (s (mp r) ?_))))
 obtain ⟨b,bC,m⟩:=bs m
 have hc:=(yQ fu) (a.pr [1,2,3,4,5,6,7,8,9,10] [0,11] [1,2,3,4,5,6,7] r) (a.le aA) (a.le ap) (a.le aq) (a.le aB) (a.le aC) a.rX.size a.rX.size bC
 refine sc (ec Oa r) hc ?_
 rintro _ bP ⟨E,F,b8,ae,af,aV,rfl,hK⟩
 replace a:=a.cn [1,2,3,4,5,6,7,8,9,10] [0,11] hK
 refine n (q (g (s (zD r) (s (yF r (a.bk 11 r) r) ?_))))
 obtain ⟨ak,bD,m⟩:=bs m
 have hc:=(BO fu) (a.pr [] [0,1,2,3,4,5,6,7,8,9,10,11] [22] r)  bD
 refine sc (ec QX r) hc ?_
 rintro _ bQ ⟨B,C,bh,rfl,hK⟩
 have b6:=a.rX.size
 replace a:=a.cn [] [0,1,2,3,4,5,6,7,8,9,10,11] hK
 replace a:=a.rb 0 w0.heap.size r b6
 refine s (mD r) (s (zD r) (lu (lW a 12 [Z B ak C] r pO r r) fun bR a=>s (Av r) (lu (lW a 12 [Z L ay M] r yG r r) fun bS a=>n (q (Fa a [12] [] [1,12] [] [14] (by kernel_rfl) ?_)))))
 replace a:=a.drew
 have S:=(a.ad [12] [])
 have hu:=(a.ad [1,12] [])
 refine pL 0 r (mp r) S hu (pL 1 r (mp r) S hu (pL 2 r (xn r) S hu (pL 3 r (xK r) S hu (pL 4 r (zU r) S hu (pL 5 r (vS r) S hu (tS 1 6 r (fun _ hS=>Iq r (hS.bk 0 r) r) (mH S hu) (tU 7 r (fun _ hS=>mE [T I.a,V I.c,Z B ak C,Z L ay M] Bv mX r (hS.bk 0 r)) (mH S hu) ?_)))))))
 replace a:=a.fz 0 0 r r
 replace a:=a.fz 10 8 r r
 refine hO 8 (oo r r (jV a [[T I.a,V I.c,Z B ak C,Z L ay M]] ([(⟨I.a,I.c,ak,ay⟩:Gn)]:List Gn) (Gx r) r r (by decide) ⟨(kC.tQ ⟨B,C,L,M,r,(a.dl 1 r),(a.dl 0 r)⟩),y⟩) ?_)
 rintro _ bT ⟨bU,rfl,a⟩
 have S:=(a.ad [11] [])
 have hu:=(a.ad [1,11] [])
 refine ⟨(mH S hu),?_⟩
 obtain ⟨b9,bl,m⟩:=bs m
 refine hO 9 (oo r r (kS a 5 4 r r yR mX r (by decide) (by decide) ap r r (a.AJ 0 0 r r) bl) ?_)
 rintro _ bV ⟨b0,b2,bE,rfl,a⟩
 have S:=(a.ad [11] [])
 have hu:=(a.ad [1,11] [])
 refine ⟨(mH S hu),(pL 10 r (xn r) S hu (pL 11 r (xK r) S hu (pL 12 r (zU r) S hu (pL 13 r (vS r) S hu (hO 14 (os r r (lW a 1 [Z b0 b9 b2] r Qs r r) fun bW a=>?_))))))⟩
 have S:=(a.ad [11] [])
 refine ⟨(sy 14 S),(hD (q (Fa a [] [] [1] [] [15] (by kernel_rfl) ?_)))⟩
 replace a:=a.drew
 have S:=(a.ad [] [])
 have hu:=(a.ad [1] [])
 refine pL 0 r (mp r) S hu (pL 1 r (mp r) S hu (pL 2 r (xn r) S hu (pL 3 r (xK r) S hu (pL 4 r (vV r) S hu (tS 1 5 r (fun _ hS=>Ih r (hS.bk 0 r) r) (mH S hu) (pL 6 r (mp r) S hu (pL 7 r (xn r) S hu (pL 8 r (Ac r) S hu (tS 1 9 r (fun _ hS=>Qw r (hS.bk 0 r) r) (mH S hu) ?_)))))))))
 replace a:=a.fz 9 8 r r
 refine hO 10 (oo r r (jV a [[Z E b.g F]] ([b.g]:List (List Gv)) (KG r) r r (by decide) ⟨⟨E,F,r,(a.dl 0 r)⟩,y⟩) ?_)
 rintro _ bX ⟨bY,rfl,a⟩
 have S:=(a.ad [] [])
 have hu:=(a.ad [2] [])
 refine ⟨(mH S hu),?_⟩
 obtain ⟨bm,bn,m⟩:=bs m
 refine hO 11 (oo r r (kS a 7 7 r r Bd Br r (by decide) (by decide) aq r r (a.AJ 0 0 r r) bn) ?_)
 rintro _ bZ ⟨ba,bb,bF,rfl,a⟩
 have S:=(a.ad [] [])
 have hu:=(a.ad [2] [])
 refine ⟨(mH S hu),(pL 12 r (xn r) S hu (pL 13 r (xK r) S hu (pL 14 r (vV r) S hu (hO 15 (os r r (lW a 2 [Z ba bm bb] r Ry r r) fun c0 a=>?_)))))⟩
 have S:=(a.ad [] [])
 refine ⟨(sy 15 S),(hD (q (g (s (xi r) (n (kP ?_))))))⟩
 replace a:=a.rb 10 aJ r aW
 obtain rfl:=sm m
 exact jC r (kT r) (lw (⟨b0,b2,bE,ba,bb,bF,N,Q,az,E,F,ae,af,aV,r,(a.ad [2,3,4,5,6,7,8,9,10] [5,6,7,8,9,1,10])⟩))
def Dj (m:Gc→jJ→Option (Int × Gc)):Prop:=∀ {w0:World} {am:Nat→Prop} {b:Gc} {x1:jJ} {aj:Nat} {c:Nat} {d:Nat} {e:Option Addr} {f:Nat} {G:List (List Value)} {h:Nat} {i:Option Addr} {j:Nat} {H:List (List Value)} {k:Nat} {o:Option Addr} {p:Nat} {I:List (List Value)} {t:Nat} {u:Option Addr} {x:Nat} {J:List (List Value)} {z:Nat} {A:Option Addr} {B:Nat} {K:List (List Value)} {C:Nat} {L:Option Addr} {M:Nat} {D:Option Addr} {E:Nat} {N:List (List Value)} {F:Nat} {ae:Option Addr} {af:Nat} {ag:Option Addr} {ah:Nat} {R:Int × Gc},Pre w0 am [.box aj 107 #[.map (some c),.map (some d),Z e b.a.a.a f,Z i b.a.a.b j,Z o b.a.c p,Z u b.a.b x,Z A b.b B,Z L b.g M,Z D b.d E,V b.f,V b.c],.map nV oG c b.h,.map nV oG d b.e,O h e f 127 Gr G,O k i j 82 Gn H,O t o p 60 (List Gv) I,O z u x 65 Gi J,O C A B 3 Int K,O F D E 3 Int N] [.els G b.a.a.a,.els H b.a.a.b,.els I b.a.c,.els J b.a.b,.els K b.b,.l L M b.g,.els N b.d,.l ae af x1.a,.l ag ah x1.b]→h≤w0.heap.size→k≤w0.heap.size→t≤w0.heap.size→z≤w0.heap.size→C≤w0.heap.size→F≤w0.heap.size→m b x1=some R→
 Calls Try.prog 46 #[Pt aj,.agg #[Z ae x1.a af,Z ag x1.b ah]] w0 (rf fun v w=>iA R fun r0 a=>∃ (P:OA)(Q:Nat)(S:LV)(U:OA)(W:Nat)(X:LV)(Y:OA)(a0:Nat)(a1:LV)(a2:OA)(a3:Nat)(a4:LV)(a5:OA)(a6:Nat)(a7:LV)(a8:OA)(a9:Nat)(aa:OA)(ab:Nat)(ac:LV),v=V r0∧Bx w0 w am (lT [.box aj 107 #[.map (some c),.map (some d),Z e b.a.a.a f,Z i b.a.a.b j,Z o b.a.c p,Z u b.a.b x,Z A b.b B,Z L b.g M,Z D b.d E,V b.f,V b.c],.map nV oG c b.h,.map nV oG d b.e,O h e f 127 Gr G,O k i j 82 Gn H,O t o p 60 (List Gv) I,O z u x 65 Gi J,O C A B 3 Int K,O F D E 3 Int N]) [.box aj 107 #[.map (some c),.map (some d),Z P a.a.a.a Q,Z U a.a.a.b W,Z Y a.a.c a0,Z a2 a.a.b a3,Z a5 a.b a6,Z a8 a.g a9,Z aa a.d ab,V a.f,V a.c],.map nV oG c a.h,.map nV oG d a.e,O h P Q 127 Gr S,O k U W 82 Gn X,O t Y a0 60 (List Gv) a1,O z a2 a3 65 Gi a4,O C a5 a6 3 Int a7,O F aa ab 3 Int ac] [.els S a.a.a.a,.els X a.a.a.b,.els a1 a.a.c,.els a4 a.a.b,.els a7 a.b,.l a8 a9 a.g,.els ac a.d])
def l8 (fu:Nat)(a:Gc):List Gr→Nat→(List (BA × Int))→(List Gr)→Option (Ld (List (BA × Int) × List Gr) (Int × Gc))
 | [],_,b,c=>some (.go (b,c))
 | e :: j,h,b,c=>
 if 4≤(h:Int) then
  some (.out (5,(⟨b,a.e,(⟨(⟨c,a.a.a.b⟩:jJ),a.a.c,a.a.b⟩:jW),a.b,a.g,a.d,a.f,a.c⟩:Gc)))
 else
  if 4 < (e.b.length:Int) then
   some (.out (5,(⟨b,a.e,(⟨(⟨c,a.a.a.b⟩:jJ),a.a.c,a.a.b⟩:jW),a.b,a.g,a.d,a.f,a.c⟩:Gc)))
  else
   if (qa b e.a).isSome=true then
    some (.out (9,(⟨b,a.e,(⟨(⟨c,a.a.a.b⟩:jJ),a.a.c,a.a.b⟩:jW),a.b,a.g,a.d,a.f,a.c⟩:Gc)))
   else
    (oh fu e.b).bind fun f=>
    if f=true then
     some (.out (9,(⟨b,a.e,(⟨(⟨c,a.a.a.b⟩:jJ),a.a.c,a.a.b⟩:jW),a.b,a.g,a.d,a.f,a.c⟩:Gc)))
    else
     (qM fu e.b).bind fun d=>
     (app c ([(⟨e.a,d⟩:Gr)]:List Gr)).bind fun i=>
     l8 fu a j (h+1) (Cb b e.a (h:Int)) i
def lZ (fu:Nat)(c:Gc) (e:List (BA × Int)) (f:List Gr):List Gn→Nat→Int→(List (BA × Int))→(List Int)→Option (Ld (Int × List (BA × Int) × List Int) (Int × Gc))
 | [],_,h,a,b=>some (.go (h,a,b))
 | d :: j,i,h,a,b=>
 if 8≤(i:Int) then
  some (.out (5,(⟨e,a,(⟨(⟨f,c.a.a.b⟩:jJ),c.a.c,c.a.b⟩:jW),b,c.g,c.d,c.f,d.c⟩:Gc)))
 else
  if (qa a d.a).isSome=true then
   some (.out (9,(⟨e,a,(⟨(⟨f,c.a.a.b⟩:jJ),c.a.c,c.a.b⟩:jW),b,c.g,c.d,c.f,d.c⟩:Gc)))
  else
   (app b ([(d.b.length:Int)]:List Int)).bind fun k=>
   lZ fu c e f j (i+1) d.c (Cb a d.a (i:Int)) k
def l5 (fu:Nat):List Gn→Nat→(List Gv)→Int→Int→(List (BA × Int))→(List (BA × Int))→(List Gr)→(List Gn)→(List (List Gv))→(List Gi)→(List Int)→(List Int)→Option (Ld (List Gv × Int × Int × List (BA × Int) × List (BA × Int) × List Gr × List Gn × List (List Gv) × List Gi × List Int × List Int) (Int × Gc))
 | [],_,d,e,f,h,i,j,k,l,m,b,c=>some (.go (d,e,f,h,i,j,k,l,m,b,c))
 | t :: u,p,d,e,f,h,i,j,k,l,m,b,c=>
 (oW fu (⟨h,i,(⟨(⟨j,k⟩:jJ),l,m⟩:jW),b,d,c,e,f⟩:Gc) (p:Int) t).bind fun v=>
 iA v fun o a=>
 if o≠0 then
  some (.out (o,a))
 else
  l5 fu u (p+1) a.g a.f a.c a.h a.e a.a.a.a a.a.a.b a.a.c a.a.b a.b a.d
def qW (fu:Nat)(a:Gc) (x:jJ):Option (Int × Gc):=
 (l8 fu a x.a 0 a.h a.a.a.a).bind fun z=>z.el (fun z=>
 iA z fun d e=>
 (lZ fu a d e x.b 0 a.c a.e a.b).bind fun z=>z.el (fun z=>
 iA z fun f z=>iA z fun h i=>
 (l5 fu x.b 0 a.g a.f f d h e a.a.a.b a.a.c a.a.b i a.d).bind fun z=>z.el (fun z=>
 iA z fun j z=>iA z fun k z=>iA z fun l z=>iA z fun m z=>iA z fun p z=>iA z fun t z=>iA z fun u z=>iA z fun v z=>iA z fun w z=>iA z fun b c=>
 some (0,(⟨m,p,(⟨(⟨t,u⟩:jJ),v,w⟩:jW),b,j,c,k,l⟩:Gc))
 ) (fun o=>some o)
 ) (fun o=>some o)
 ) (fun o=>some o)
theorem DC (fu:Nat):Dj (qW fu):=by
 intro w0 dg h x1 aP I J bl bm bv aI p t K aJ v x L aK A B M aL a5 a6 aq aM F H C D N aN ar au a0 a1 R hP bn bC bD bE bo bF Q
 unfold qW at Q
 have a:=hP.bx
 clear hP
 generalize hG:lT _=G at a ⊢
 refine cf Try.func46 r (ma [(0,Pt aP),(1,.agg #[Z ar x1.a au,Z a0 x1.b a1])] ⟨r,r,y⟩ fun dh=>q (g (tL a (yI r) fun w1 b1 a=>s (xi r) (n (q (q (g (s (wE r) (s (JP r (a.bk 0 r) r) (s (lg AC r) (s (mi r) (n ?_))))))))))))
 have cE:=(a.dl 7 r).bd
 obtain ⟨Y2,S,Q⟩:=bs Q
 refine oC (fun f w=>∃ (am:List (BA × Int)) (Y:List Gr) (b:OA)(c:Nat)(e:LV),Has f [(0,Pt aP),(3,Pt b1)]∧Bx w0 w dg G [.box b1 26 #[Z ar x1.a au,Z a0 x1.b a1],.box aP 107 #[.map (some I),.map (some J),Z b Y c,Z p h.a.a.b t,Z v h.a.c x,Z A h.a.b B,Z a5 h.b a6,Z F h.g H,Z C h.d D,V h.f,V h.c],.map nV oG I am,.map nV oG J h.e,O aI b c 127 Gr e,O aJ p t 82 Gn K,O aK v x 60 (List Gv) L,O aL A B 65 Gi M,O aM a5 a6 3 Int aq,O aN C D 3 Int N] [.els e Y,.els K h.a.a.b,.els L h.a.c,.els M h.a.b,.els aq h.b,.l F H h.g,.els N h.d,.l ar au x1.a,.l a0 a1 x1.b]∧Ld.go (am,Y)=Y2) (fun J2 ch=>?_) ?_
 ·refine nZ (kH (fun di f w=>∃ (k2:Nat)(am:List (BA × Int)) (Y:List Gr) (b:OA)(c:Nat)(e:LV),di=x1.a.length - k2∧k2≤x1.a.length∧Has f [(19,V (k2:Int)),(0,Pt aP),(3,Pt b1),(17,Z ar x1.a au),(18,V (x1.a.length:Int))]∧Bx w0 w dg G [.box b1 26 #[Z ar x1.a au,Z a0 x1.b a1],.box aP 107 #[.map (some I),.map (some J),Z b Y c,Z p h.a.a.b t,Z v h.a.c x,Z A h.a.b B,Z a5 h.b a6,Z F h.g H,Z C h.d D,V h.f,V h.c],.map nV oG I am,.map nV oG J h.e,O aI b c 127 Gr e,O aJ p t 82 Gn K,O aK v x 60 (List Gv) L,O aL A B 65 Gi M,O aM a5 a6 3 Int aq,O aN C D 3 Int N] [.els e Y,.els K h.a.a.b,.els L h.a.c,.els M h.a.b,.els aq h.b,.l F H h.g,.els N h.d,.l ar au x1.a,.l a0 a1 x1.b]∧l8 fu h (x1.a.drop k2) k2 am Y=some Y2) (x1.a.length) ⟨0,h.h,h.a.a.a,bl,bm,bv,r,Nat.zero_le _,⟨r,r,r,r,r,y⟩,a,S⟩ ?_)
  clear a S
  rintro di f w ⟨k2,am,Y,b,c,e,rfl,cF,hf,a,S⟩ K2 ci
  obtain ⟨dh,rfl⟩:=gP _ _ hf
  clear hf
  rcases Nat.lt_or_ge k2 x1.a.length with bY | bY
  ·obtain ⟨u2,bK⟩:=lL (l:=x1.a) bY
   rw [mQ bK,l8] at S
   obtain ⟨cG,cj,a⟩:=a.nm 7 rfl bK
   obtain ⟨bq,br,rfl,bZ⟩:=kD.out cj
   replace a:=a.ku (d:=.l bq br u2.b) bZ
   refine q (g (s (qK r r (by omega)) (n (q (jH r (wk (q (nZ (q (g (s (mi r) (s (kZ AC tu r r r (a.dl 9 r) bK) (s (oL [T u2.a,Z bq u2.b br] Jj r tu r r (a.dc 1 r)) (tL a (ko tu) fun w4 b4 a=>s (xi r) (lu (nD a 0 [T u2.a,Z bq u2.b br] r tu r r) fun w5 a=>n (q (q (g (s (mi r) (s (Bi r r) (s (jZ r) ?_)))))))))))))))))))))
   rcases iv S with ⟨h6,S⟩|⟨h6,S⟩
   ·rw [decide_eq_true h6]
    refine jB r (jB r (jB r (jB r (s (jN r r) (n (jH r (q (g (s (xi r) (n (kP ?_)))))))))))
    obtain rfl:=sm S
    replace Q:=oi Q
    obtain rfl:=sm Q
    exact jC r (kT r) (lw (⟨b,c,e,p,t,K,v,x,L,A,B,M,a5,a6,aq,F,H,C,D,N,r,(a.ad [2,3,4,5,6,7,8,9,10] [2,3,4,5,6,7,8])⟩))
   rw [decide_eq_false h6]
   refine jQ r (s (wC r) (jQ r (s (yF r (a.bk 0 r) r) (jQ r (s (lg kL r) (jQ r (s (vG r r) (s (jX r r) (n ?_)))))))))
   rcases iv S with ⟨h7,S⟩|⟨h7,S⟩
   ·refine jH (bt h7) (q (g (s (xi r) (n (kP ?_)))))
    obtain rfl:=sm S
    replace Q:=oi Q
    obtain rfl:=sm Q
    exact jC r (kT r) (lw (⟨b,c,e,p,t,K,v,x,L,A,B,M,a5,a6,aq,F,H,C,D,N,r,(a.ad [2,3,4,5,6,7,8,9,10] [2,3,4,5,6,7,8])⟩))
   refine jI (bf h7) (wk (q (q (oJ a [0,2,3] [] [] (by kernel_rfl) ?_))))
   replace a:=a.drew
   have E:=(a.ad [0,2,3] [])
   refine pF 0 r (mp r) E (pF 1 r (xn r) E (pF 2 r (Ma r) E (uF 3 r (fun hS=>NF r (hS.bk 1 r) r) E (pF 4 r (Ci r) E (uF 5 r (fun hS=>l9 r (hS.bk 0 r) r) E (uF 6 r (fun hS=>Na (ek:=nV) (ev:=oG) (l:=am) (k:=u2.a) (z:=0) Fg (Cc rH) (KX pJ) (hS.mp 2 r) r r) E (pF 7 r (pQ) E (pF 8 r (jO r r) E (pF 9 r (jO r r) E (pF 10 r (xi r) E (pF 11 r (jU r) E (hD (q (g (s (jZ r) (s (jZ r) ?_))))))))))))))))
   rcases iv S with ⟨h8,S⟩|⟨h8,S⟩
   ·rw [h8]
    refine jB r (jB r (jB r (s (jN r r) (n (jH r (q (g (s (xi r) (n (kP ?_))))))))))
    obtain rfl:=sm S
    replace Q:=oi Q
    obtain rfl:=sm Q
    exact jC r (kT r) (lw (⟨b,c,e,p,t,K,v,x,L,A,B,M,a5,a6,aq,F,H,C,D,N,r,(a.ad [2,3,4,5,6,7,8,9,10] [2,3,4,5,6,7,8])⟩))
   replace h8:=nt h8
   rw [h8]
   refine jQ r (s (wC r) (jQ r (s (yF r (a.bk 0 r) r) ?_)))
   obtain ⟨cx,h9,S⟩:=bs S
   refine jQ r ?_
   have hc:=(zQ fu) (a.pr [] [0,1,2,3,4,5,6,7,8,9,10] [0] r)  h9
   refine sc (ec QO r) hc ?_
   rintro _ w9 ⟨rfl,hK⟩
   replace a:=a.cn [] [0,1,2,3,4,5,6,7,8,9,10] hK
   refine s (jX r r) (n ?_)
   rcases iv S with ⟨bw,S⟩|⟨bw,S⟩
   ·refine jH (cb bw) (q (g (s (xi r) (n (kP ?_)))))
    obtain rfl:=sm S
    replace Q:=oi Q
    obtain rfl:=sm Q
    exact jC r (kT r) (lw (⟨b,c,e,p,t,K,v,x,L,A,B,M,a5,a6,aq,F,H,C,D,N,r,(a.ad [2,3,4,5,6,7,8,9,10] [2,3,4,5,6,7,8])⟩))
   replace bw:=nt bw
   refine jI (cb bw) (wk (q (oJ a [0,2] [] [] (by kernel_rfl) ?_)))
   replace a:=a.drew
   have E:=(a.ad [0,2] [])
   refine pF 0 r (mp r) E (pF 1 r (xn r) E (pF 2 r (Ma r) E (uF 3 r (fun hS=>NF r (hS.bk 1 r) r) E (pF 4 r (Ci r) E (uF 5 r (fun hS=>l9 r (hS.bk 0 r) r) E (pF 6 r (mi r) E (hO 7 (os r r (Pj a 3 (ek:=nV) (ev:=oG) (l:=am) (k:=u2.a) (u:=(k2:Int)) r Fg (Cc rH) r r r) ?_))))))))
   intro cI a
   try dsimp only [List.set] at a
   have E:=(a.ad [0,2] [])
   refine ⟨(sF E),(hD (q (g (s (wC r) (s (yF r (a.bk 0 r) r) ?_)))))⟩
   obtain ⟨aR,cn,S⟩:=bs S
   have hc:=(BO fu) (a.pr [] [0,1,2,3,4,5,6,7,8,9,10] [0] r)  cn
   refine sc (ec QX r) hc ?_
   rintro _ cJ ⟨aA,aB,bX,rfl,hK⟩
   have co:=a.rX.size
   replace a:=a.cn [] [0,1,2,3,4,5,6,7,8,9,10] hK
   replace a:=a.rb 0 w0.heap.size r co
   refine s (wC r) (lu (lW a 1 [Z aA aR aB] r pO r r) fun cK a=>n (Fa a [1] [] [1,3] [] [14] (by kernel_rfl) ?_))
   replace a:=a.drew
   have E:=(a.ad [1] [])
   have hu:=(a.ad [1,3] [])
   refine pL 0 r (mp r) E hu (pL 1 r (mp r) E hu (pL 2 r (xn r) E hu (pL 3 r (xK r) E hu (pL 4 r (zU r) E hu (pL 5 r (wE r) E hu (tS 1 6 r (fun _ hS=>JP r (hS.bk 1 r) r) (mH E hu) (tU 7 r (fun _ hS=>mE [T u2.a,Z aA aR aB] Jj tu r (hS.bk 0 r)) (mH E hu) ?_)))))))
   replace a:=a.fz 0 0 r r
   refine hO 8 (oo r r (jV a [[T u2.a,Z aA aR aB]] ([(⟨u2.a,aR⟩:Gr)]:List Gr) (Gb r) r r (by decide) ⟨(kD.tQ ⟨aA,aB,r,(a.dl 0 r)⟩),y⟩) ?_)
   rintro _ cM ⟨cN,rfl,a⟩
   have E:=(a.ad [1] [])
   have hu:=(a.ad [1,3] [])
   refine ⟨(mH E hu),?_⟩
   obtain ⟨bL,c2,S⟩:=bs S
   refine hO 9 (oo r r (kS a 6 4 r r AC tu r (by decide) (by decide) bn r r (a.AJ 0 0 r r) c2) ?_)
   rintro _ cO ⟨bM,bN,cp,rfl,a⟩
   have E:=(a.ad [1] [])
   have hu:=(a.ad [1,3] [])
   refine ⟨(mH E hu),(pL 10 r (xn r) E hu (pL 11 r (xK r) E hu (pL 12 r (zU r) E hu (pL 13 r (wE r) E hu (hO 14 (os r r (lW a 3 [Z bM bL bN] r RI r r) fun cP a=>?_))))))⟩
   have E:=(a.ad [1] [])
   exact ⟨(sy 14 E),(hD (g (s (mg r r (by omega) (by omega)) (s (mi r) (n (ci (x1.a.length - (k2+1)) _ _ (by omega) ⟨k2+1,(Cb am u2.a (k2:Int)),bL,bM,bN,cp,r,by omega,⟨r,r,r,r,r,y⟩,(a.ad [2,3,4,5,6,7,8,9,10,11] [4,5,6,7,8,9,10,11,12]),S⟩))))))⟩
  obtain rfl:k2=x1.a.length:=by omega
  rw [lH,l8] at S
  exact q (g (s (qL r r (by omega)) (n (q (jI r (uW (ch _ _ ⟨am,Y,b,c,e,⟨r,r,y⟩,a,sm S⟩)))))))
 clear a
 rintro f w ⟨am,Y,b,c,e,hf,a,cq⟩
 obtain ⟨dh,rfl⟩:=gP _ _ hf
 clear hf
 subst cq
 replace Q:=gi Q
 replace Q:=pi Q
 refine q (q (g (s (vS r) (s (Iq r (a.bk 0 r) r) (s (lg yR r) (s (mi r) (n ?_)))))))
 have cy:=(a.dl 8 r).bd
 obtain ⟨c3,a4,Q⟩:=bs Q
 refine oC (fun f w=>∃ (aC:Int)(a7:List (BA × Int)) (a8:List Int) (j:OA)(m:Nat)(o:LV),Has f [(0,Pt aP),(3,Pt b1)]∧Bx w0 w dg G [.box b1 26 #[Z ar x1.a au,Z a0 x1.b a1],.box aP 107 #[.map (some I),.map (some J),Z b Y c,Z p h.a.a.b t,Z v h.a.c x,Z A h.a.b B,Z j a8 m,Z F h.g H,Z C h.d D,V h.f,V aC],.map nV oG I am,.map nV oG J a7,O aI b c 127 Gr e,O aJ p t 82 Gn K,O aK v x 60 (List Gv) L,O aL A B 65 Gi M,O aM j m 3 Int o,O aN C D 3 Int N] [.els e Y,.els K h.a.a.b,.els L h.a.c,.els M h.a.b,.els o a8,.l F H h.g,.els N h.d,.l ar au x1.a,.l a0 a1 x1.b]∧Ld.go (aC,a7,a8)=c3) (fun cQ c4=>?_) ?_
 ·refine nZ (kH (fun di f w=>∃ (aQ:Nat)(aC:Int)(a7:List (BA × Int)) (a8:List Int) (j:OA)(m:Nat)(o:LV),di=x1.b.length - aQ∧aQ≤x1.b.length∧Has f [(77,V (aQ:Int)),(0,Pt aP),(3,Pt b1),(75,Z a0 x1.b a1),(76,V (x1.b.length:Int))]∧Bx w0 w dg G [.box b1 26 #[Z ar x1.a au,Z a0 x1.b a1],.box aP 107 #[.map (some I),.map (some J),Z b Y c,Z p h.a.a.b t,Z v h.a.c x,Z A h.a.b B,Z j a8 m,Z F h.g H,Z C h.d D,V h.f,V aC],.map nV oG I am,.map nV oG J a7,O aI b c 127 Gr e,O aJ p t 82 Gn K,O aK v x 60 (List Gv) L,O aL A B 65 Gi M,O aM j m 3 Int o,O aN C D 3 Int N] [.els e Y,.els K h.a.a.b,.els L h.a.c,.els M h.a.b,.els o a8,.l F H h.g,.els N h.d,.l ar au x1.a,.l a0 a1 x1.b]∧lZ fu h am Y (x1.b.drop aQ) aQ aC a7 a8=some c3) (x1.b.length) ⟨0,h.c,h.e,h.b,a5,a6,aq,r,Nat.zero_le _,⟨r,r,r,r,r,y⟩,a,a4⟩ ?_)
  clear a a4
  rintro di f w ⟨aQ,aC,a7,a8,j,m,o,rfl,cz,hf,a,a4⟩ cR c5
  obtain ⟨dh,rfl⟩:=gP _ _ hf
  clear hf
  rcases Nat.lt_or_ge aQ x1.b.length with bH | bH
  ·obtain ⟨an,bz⟩:=lL (l:=x1.b) bH
   rw [mQ bz,lZ] at a4
   obtain ⟨cA,c6,a⟩:=a.nm 8 rfl bz
   obtain ⟨bg,bh,bi,bj,rfl,bO,bP⟩:=kC.out c6
   replace a:=a.ku (d:=.l bg bh an.b) bO
   replace a:=a.ku (d:=.l bi bj an.f) bP
   refine q (g (s (qK r r (by omega)) (n (q (jH r (wk (q (nZ (q (g (s (mi r) (s (kZ yR mX r r r (a.dl 11 r) bz) (s (oL [T an.a,V an.c,Z bg an.b bh,Z bi an.f bj] Bv r mX r r (a.dc 2 r)) (tL a (ko mX) fun cS cT a=>s (xi r) (lu (nD a 0 [T an.a,V an.c,Z bg an.b bh,Z bi an.f bj] r mX r r) fun cU a=>n (q (g (s (mp r) (s (ET r) (s (l3 r (a.bk 0 r) r) (s (xn r) (s (Ed r) (lu (lW a 2 [V an.c] r pJ r r) fun cV a=>n (q (q (g (s (mi r) (s (Bi r r) (n ?_)))))))))))))))))))))))))))))
   rcases iv a4 with ⟨bQ,a4⟩|⟨bQ,a4⟩
   ·refine jH (bt bQ) (q (g (s (xi r) (n (kP ?_)))))
    obtain rfl:=sm a4
    replace Q:=oi Q
    obtain rfl:=sm Q
    exact jC r (kT r) (lw (⟨b,c,e,p,t,K,v,x,L,A,B,M,j,m,o,F,H,C,D,N,r,(a.ad [2,3,4,5,6,7,8,9,10] [3,4,5,6,7,8,9])⟩))
   refine jI (bf bQ) (wk (q (q (oJ a [0,2,4] [] [] (by kernel_rfl) ?_))))
   replace a:=a.drew
   have E:=(a.ad [0,2,4] [])
   refine pF 0 r (mp r) E (pF 1 r (xn r) E (pF 2 r (LM r) E (uF 3 r (fun hS=>NF r (hS.bk 1 r) r) E (pF 4 r (CP r) E (uF 5 r (fun hS=>l9 r (hS.bk 0 r) r) E (uF 6 r (fun hS=>Na (ek:=nV) (ev:=oG) (l:=a7) (k:=an.a) (z:=0) Fg (Cc rH) (KX pJ) (hS.mp 2 r) r r) E (pF 7 r (pQ) E (pF 8 r (jO r r) E (pF 9 r (jO r r) E (pF 10 r (xi r) E (pF 11 r (jU r) E (hD (q (g (s (jZ r) (n ?_))))))))))))))))
   rcases iv a4 with ⟨bA,a4⟩|⟨bA,a4⟩
   ·refine jH (cb bA) (q (g (s (xi r) (n (kP ?_)))))
    obtain rfl:=sm a4
    replace Q:=oi Q
    obtain rfl:=sm Q
    exact jC r (kT r) (lw (⟨b,c,e,p,t,K,v,x,L,A,B,M,j,m,o,F,H,C,D,N,r,(a.ad [2,3,4,5,6,7,8,9,10] [3,4,5,6,7,8,9])⟩))
   replace bA:=nt bA
   refine jI (cb bA) (wk (q (oJ a [0,2] [] [] (by kernel_rfl) ?_)))
   replace a:=a.drew
   have E:=(a.ad [0,2] [])
   refine pF 0 r (mp r) E (pF 1 r (xn r) E (pF 2 r (LM r) E (uF 3 r (fun hS=>NF r (hS.bk 1 r) r) E (pF 4 r (CP r) E (uF 5 r (fun hS=>l9 r (hS.bk 0 r) r) E (pF 6 r (mi r) E (hO 7 (os r r (Pj a 4 (ek:=nV) (ev:=oG) (l:=a7) (k:=an.a) (u:=(aQ:Int)) r Fg (Cc rH) r r r) ?_))))))))
   intro cW a
   try dsimp only [List.set] at a
   have E:=(a.ad [0,2] [])
   refine ⟨(sF E),(hD (Fa a [0] [] [0,2] [] [12] (by kernel_rfl) ?_))⟩
   replace a:=a.drew
   have E:=(a.ad [0] [])
   have hu:=(a.ad [0,2] [])
   refine pL 0 r (mp r) E hu (pL 1 r (mp r) E hu (pL 2 r (xn r) E hu (pL 3 r (L9 r) E hu (tS 1 4 r (fun _ hS=>Ko r (hS.bk 1 r) r) (mH E hu) (pL 5 r (zD r) E hu (tU 6 r (fun _ hS=>yF r (hS.bk 0 r) r) (mH E hu) (pL 7 r (lg kL r) E hu (hO 8 (oo r r (jV a [[V (an.b.length:Int)]] ([(an.b.length:Int)]:List Int) (Cq r) r r (by decide) ⟨r,y⟩) ?_)))))))))
   rintro _ cX ⟨cY,rfl,a⟩
   have E:=(a.ad [1] [])
   have hu:=(a.ad [1,3] [])
   refine ⟨(mH E hu),?_⟩
   obtain ⟨bR,c7,a4⟩:=bs a4
   refine hO 9 (oo r r (kS a 10 8 r r vE pJ r (by decide) (by decide) bo r r (a.AJ 0 0 r r) c7) ?_)
   rintro _ cZ ⟨bS,bT,cr,rfl,a⟩
   have E:=(a.ad [1] [])
   have hu:=(a.ad [1,3] [])
   refine ⟨(mH E hu),(pL 10 r (xn r) E hu (pL 11 r (L9 r) E hu (hO 12 (os r r (lW a 3 [Z bS bR bT] r Er r r) fun d0 a=>?_))))⟩
   have E:=(a.ad [1] [])
   exact ⟨(sy 12 E),(hD (g (s (mg r r (by omega) (by omega)) (s (mi r) (n (c5 (x1.b.length - (aQ+1)) _ _ (by omega) ⟨aQ+1,an.c,(Cb a7 an.a (aQ:Int)),bR,bS,bT,cr,r,by omega,⟨r,r,r,r,r,y⟩,(a.ad [2,3,4,5,6,7,8,9,10,11] [4,5,6,7,8,9,10,11,12]),a4⟩))))))⟩
  obtain rfl:aQ=x1.b.length:=by omega
  rw [lH,lZ] at a4
  exact q (g (s (qL r r (by omega)) (n (q (jI r (uW (c4 _ _ ⟨aC,a7,a8,j,m,o,⟨r,r,y⟩,a,sm a4⟩)))))))
 clear a
 rintro f w ⟨aC,a7,a8,j,m,o,hf,a,c8⟩
 obtain ⟨dh,rfl⟩:=gP _ _ hf
 clear hf
 subst c8
 replace Q:=gi Q
 replace Q:=Ak Q
 refine q (q (g (s (vS r) (s (Iq r (a.bk 0 r) r) (s (lg yR r) (s (mi r) (n ?_)))))))
 have cB:=(a.dl 8 r).bd
 obtain ⟨c9,ao,Q⟩:=bs Q
 refine oC (fun f w=>∃ (av:List Gv) (aa:OA)(ab:Nat)(aE:Int)(aF:Int)(aG:List (BA × Int)) (aH:List (BA × Int)) (aw:List Gr) (ax:List Gn) (ac:OA)(ae:Nat)(af:LV)(ay:List (List Gv)) (ag:OA)(ah:Nat)(ai:LV)(az:List Gi) (aj:OA)(ak:Nat)(al:LV)(a2:List Int) (a3:List Int) (U:OA)(W:Nat)(X:LV),Has f []∧Bx w0 w dg G [.box aP 107 #[.map (some I),.map (some J),Z b aw c,Z ac ax ae,Z ag ay ah,Z aj az ak,Z j a2 m,Z aa av ab,Z U a3 W,V aE,V aF],.map nV oG I aG,.map nV oG J aH,O aI b c 127 Gr e,O aJ ac ae 82 Gn af,O aK ag ah 60 (List Gv) ai,O aL aj ak 65 Gi al,O aM j m 3 Int o,O aN U W 3 Int X] [.l aa ab av,.els e aw,.els af ax,.els ai ay,.els al az,.els o a2,.els X a3,.l a0 a1 x1.b]∧Ld.go (av,aE,aF,aG,aH,aw,ax,ay,az,a2,a3)=c9) (fun d1 cc=>?_) ?_
 ·refine nZ (kH (fun di f w=>∃ (bc:Nat)(av:List Gv) (aa:OA)(ab:Nat)(aE:Int)(aF:Int)(aG:List (BA × Int)) (aH:List (BA × Int)) (aw:List Gr) (ax:List Gn) (ac:OA)(ae:Nat)(af:LV)(ay:List (List Gv)) (ag:OA)(ah:Nat)(ai:LV)(az:List Gi) (aj:OA)(ak:Nat)(al:LV)(a2:List Int) (a3:List Int) (U:OA)(W:Nat)(X:LV),di=x1.b.length - bc∧bc≤x1.b.length∧Has f [(123,V (bc:Int)),(0,Pt aP),(121,Z a0 x1.b a1),(122,V (x1.b.length:Int))]∧Bx w0 w dg G [.box aP 107 #[.map (some I),.map (some J),Z b aw c,Z ac ax ae,Z ag ay ah,Z aj az ak,Z j a2 m,Z aa av ab,Z U a3 W,V aE,V aF],.map nV oG I aG,.map nV oG J aH,O aI b c 127 Gr e,O aJ ac ae 82 Gn af,O aK ag ah 60 (List Gv) ai,O aL aj ak 65 Gi al,O aM j m 3 Int o,O aN U W 3 Int X] [.l aa ab av,.els e aw,.els af ax,.els ai ay,.els al az,.els o a2,.els X a3,.l a0 a1 x1.b]∧l5 fu (x1.b.drop bc) bc av aE aF aG aH aw ax ay az a2 a3=some c9) (x1.b.length) ⟨0,h.g,F,H,h.f,aC,am,a7,Y,h.a.a.b,p,t,K,h.a.c,v,x,L,h.a.b,A,B,M,a8,h.d,C,D,N,r,Nat.zero_le _,⟨r,r,r,r,y⟩,(a.ad [1,2,3,4,5,6,7,8,9] [5,0,1,2,3,4,6,8]),ao⟩ ?_)
  clear a ao
  rintro di f w ⟨bc,av,aa,ab,aE,aF,aG,aH,aw,ax,ac,ae,af,ay,ag,ah,ai,az,aj,ak,al,a2,a3,U,W,X,rfl,cC,hf,a,ao⟩ d2 cd
  obtain ⟨dh,rfl⟩:=gP _ _ hf
  clear hf
  rcases Nat.lt_or_ge bc x1.b.length with bI | bI
  ·obtain ⟨aD,bB⟩:=lL (l:=x1.b) bI
   rw [mQ bB,l5] at ao
   obtain ⟨cD,ce,a⟩:=a.nm 7 rfl bB
   obtain ⟨aS,aT,aU,aV,rfl,bU,bV⟩:=kC.out ce
   replace a:=a.ku (d:=.l aS aT aD.b) bU
   replace a:=a.ku (d:=.l aU aV aD.f) bV
   refine q (g (s (qK r r (by omega)) (n (q (jH r (wk (q (nZ (q (g (s (mi r) (s (kZ yR mX r r r (a.dl 10 r) bB) (s (oL [T aD.a,V aD.c,Z aS aD.b aT,Z aU aD.f aV] Bv r mX r r (a.dc 2 r)) (tL a (ko mX) fun d3 d4 a=>s (xi r) (lu (nD a 0 [T aD.a,V aD.c,Z aS aD.b aT,Z aU aD.f aV] r mX r r) fun d5 a=>n (q (g (s (mp r) (s (mi r) (s (mE [T aD.a,V aD.c,Z aS aD.b aT,Z aU aD.f aV] Bv mX r (a.bk 0 r)) ?_))))))))))))))))))))
   obtain ⟨ct,ap,cu,ao⟩:=lV ao
   have hc:=(CG fu) (a.pr [1,2,3,4,5,6,7,8,9] [0] [4,5,6,7,8,3,9,1,0] r) (a.le bn) (a.le bC) (a.le bD) (a.le bE) (a.le bo) (a.le bF) cu
   refine sc (ec UB r) hc ?_
   rintro _ d6 ⟨aW,aX,aY,aZ,b0,b2,b3,b5,b6,b7,b8,b9,ba,bb,rfl,hK⟩
   replace a:=a.cn [1,2,3,4,5,6,7,8,9] [0] hK
   refine s (xi r) (n (q (g (s (mi r) (s (mI r r) (n ?_))))))
   rcases iv ao with ⟨bW,ao⟩|⟨bW,ao⟩
   ·refine jH (bt bW) (q (g (s (mi r) (s (xi r) (n (kP ?_))))))
    obtain rfl:=sm ao
    replace Q:=oi Q
    obtain rfl:=sm Q
    exact jC r (kT r) (lw (⟨b,c,e,aW,aX,aY,aZ,b0,b2,b3,b5,b6,j,m,o,b7,b8,b9,ba,bb,r,(a.ad [0,1,2,3,4,5,6,7,8] [0,1,2,3,4,5,6])⟩))
   exact jI (bf bW) (wk (g (s (mg r r (by omega) (by omega)) (s (mi r) (n (cd (x1.b.length - (bc+1)) _ _ (by omega) ⟨bc+1,ap.g,b7,b8,ap.f,ap.c,ap.h,ap.e,ap.a.a.a,ap.a.a.b,aW,aX,aY,ap.a.c,aZ,b0,b2,ap.a.b,b3,b5,b6,ap.b,ap.d,b9,ba,bb,r,by omega,⟨r,r,r,r,y⟩,(a.ad [0,1,2,3,4,5,6,7,8] [5,0,1,2,3,4,6,17]),ao⟩))))))
  obtain rfl:bc=x1.b.length:=by omega
  rw [lH,l5] at ao
  exact q (g (s (qL r r (by omega)) (n (q (jI r (uW (cc _ _ ⟨av,aa,ab,aE,aF,aG,aH,aw,ax,ac,ae,af,ay,ag,ah,ai,az,aj,ak,al,a2,a3,U,W,X,y,a,sm ao⟩)))))))
 clear a
 rintro f w ⟨av,aa,ab,aE,aF,aG,aH,aw,ax,ac,ae,af,ay,ag,ah,ai,az,aj,ak,al,a2,a3,U,W,X,hf,a,cg⟩
 obtain ⟨dh,rfl⟩:=gP _ _ hf
 clear hf
 subst cg
 replace Q:=gi Q
 replace Q:=pi (mf (mf (mf Q)))
 refine q (g (s (xi r) (n (kP ?_))))
 obtain rfl:=sm Q
 exact jC r (kT r) (lw (⟨b,c,e,ac,ae,af,ag,ah,ai,aj,ak,al,j,m,o,aa,ab,U,W,X,r,(a.dp [1,2,3,4,5,0,6])⟩))
def Ex (m:jJ→Option (jW × Int × Int)):Prop:=∀ {x:World} {B:Nat→Prop} {u:jJ} {a:Option Addr} {b:Nat} {c:Option Addr} {d:Nat} {R:jW × Int × Int},Pre x B [] [.l a b u.a,.l c d u.b]→m u=some R→
 Calls Try.prog 33 #[.agg #[Z a u.a b,Z c u.b d]] x (rf fun v w=>iA R fun t R=>iA R fun z A=>∃ (e:OA)(f:Nat)(h:OA)(i:Nat)(j:OA)(k:Nat)(o:OA)(p:Nat),v=.tuple #[.agg #[Z e t.a.a f,Z h t.a.b i,Z j t.c k,Z o t.b p],V z,V A]∧Bx x w B (lT []) [] [.l e f t.a.a,.l h i t.a.b,.l j k t.c,.l o p t.b])
def oF (fu:Nat)(c:jJ):Option (jW × Int × Int):=
 (qW fu (⟨([]:List (BA × Int)),([]:List (BA × Int)),(⟨(⟨([]:List Gr),([]:List Gn)⟩:jJ),([]:List (List Gv)),([]:List Gi)⟩:jW),([]:List Int),([]:List Gv),([]:List Int),0,0⟩:Gc) c).bind fun d=>
 iA d fun a b=>
 if a≠0 then
  some ((⟨(⟨([]:List Gr),([]:List Gn)⟩:jJ),([]:List (List Gv)),([]:List Gi)⟩:jW),b.c,a)
 else
  some (b.a,0,0)
theorem Bj (fu:Nat):Ex (oF fu):=by
 intro w0 ag Q t u v w R W x
 unfold oF at x
 have a:=W.bx
 clear W
 generalize hG:lT _=G at a ⊢
 refine cf Try.func33 r (ma [(0,.agg #[Z t Q.a u,Z v Q.b w])] ⟨r,y⟩ fun ah=>q (g (tL a (yI r) fun w1 b1 a=>tL a (ko zM) fun w2 b2 a=>s (xi r) (s (xi r) (n (q (g (qF (O4 a (κ:=BA) (ν:=Int) nV oG Fg) ?_))))))))
 rintro _ w3 ⟨b3,rfl,a⟩
 refine qF (O4 a (κ:=BA) (ν:=Int) nV oG Fg) ?_
 rintro _ w4 ⟨b4,rfl,a⟩
 refine s (Nz r r) (tL a (yI r) fun w5 b5 a=>s (PD r) (n (q (q (g (s (mp r) (s (mE [Z t Q.a u,Z v Q.b w] BJ uI r (a.bk 4 r)) ?_)))))))
 replace a:=a.BQ Gr 127
 replace a:=a.BQ Gn 82
 replace a:=a.BQ (List Gv) 60
 replace a:=a.BQ Gi 65
 replace a:=a.BQ Int 3
 replace a:=a.ku (d:=.l none 0 ([]:List Gv)) oP
 replace a:=a.BQ Int 3
 obtain ⟨S,b,U,x⟩:=lV x
 have hc:=(DC fu) (a.pr [6,8,7,5,4,3,2,1,0] [9,10] [6,5,4,3,2,1,0,7,8] r) a.rX.size a.rX.size a.rX.size a.rX.size a.rX.size a.rX.size U
 refine sc (ec UI r) hc ?_
 rintro _ Y ⟨c,e,A,f,h,B,j,m,C,o,p,D,E,F,H,I,J,K,L,M,rfl,hK⟩
 replace a:=a.cn [6,8,7,5,4,3,2,1,0] [9,10] hK
 refine s (xi r) (n (q (g (s (mi r) (s (mI r r) (n ?_))))))
 rcases iv x with ⟨N,x⟩|⟨N,x⟩
 ·refine jH (bt N) (q (oJ a [0] [] [] (by kernel_rfl) ?_))
  replace a:=a.drew
  have z:=(a.ad [0] [])
  refine pF 0 r (Q5) z (pF 1 r (mp r) z (pF 2 r (xn r) z (pF 3 r (Ed r) z (uF 4 r (fun hS=>l3 r (hS.bk 0 r) r) z (pF 5 r (mi r) z (hO 6 (os r r (nD a 9 [sn,sn,sn,sn] r zM r r) fun a1 a=>?_)))))))
  have z:=(a.ad [0] [])
  refine ⟨(sF z),(pF 7 r (xi r) z (pF 8 r (xi r) z (hD (kP ?_))))⟩
  replace a:=a.ku (d:=.l none 0 ([]:List Gr)) oP
  replace a:=a.ku (d:=.l none 0 ([]:List Gn)) oP
  replace a:=a.ku (d:=.l none 0 ([]:List (List Gv))) oP
  replace a:=a.ku (d:=.l none 0 ([]:List Gi)) oP
  obtain rfl:=sm x
  exact yJ r (uN r G6 r zM r (a.bk 9 r)) (kT r) (kT r) (lw (lw (⟨none,0,none,0,none,0,none,0,r,(a.ad [] [3,2,1,0])⟩)))
 refine jI (bf N) (wk (q (g (s (mp r) (s (xn r) (s (xK r) (s (oL [Z c b.a.a.a e,Z f b.a.a.b h,Z j b.a.c m,Z o b.a.b p] G6 r zM r r (Cells.part (a.bk 0 r).cells (o2:=2) r)) (lu (nD a 9 [Z c b.a.a.a e,Z f b.a.a.b h,Z j b.a.c m,Z o b.a.b p] r zM r r) fun a2 a=>s (xi r) (s (xi r) (n (kP ?_)))))))))))
 replace a:=a.fz 3 0 r r
 replace a:=a.fz 3 1 r r
 replace a:=a.fz 3 2 r r
 replace a:=a.fz 3 3 r r
 obtain rfl:=sm x
 exact yJ r (uN r G6 r zM r (a.bk 5 r)) (kT r) (kT r) (lw (lw (⟨c,e,f,h,j,m,o,p,r,(a.ad [] [3,2,1,0])⟩)))
end
end Go.Proofs.Ytfglbdkfnphjgaa
