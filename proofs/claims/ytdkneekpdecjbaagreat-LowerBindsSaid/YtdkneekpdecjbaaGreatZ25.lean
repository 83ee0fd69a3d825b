/- Contracts, printed by gen3.py. -/
import Derived.Test.YtdkneekpdecjbaaGreatZ5
import Derived.Test.YtdkneekpdecjbaaGreatLa
import Derived.Test.YtdkneekpdecjbaaGreatZ24
import Derived.Test.YtdkneekpdecjbaaGreatZ19
import Derived.Test.YtdkneekpdecjbaaGreatZ13
import Derived.Test.YtdkneekpdecjbaaGreatZ9
import Derived.Test.YtdkneekpdecjbaaGreatPf
set_option linter.unusedVariables false
set_option maxHeartbeats 12800000
set_option linter.unusedSimpArgs false
set_option maxRecDepth 4000
namespace Go.Proofs.YtdkneekpdecjbaaGreat
open Go.RowKit Go.Fw Go.Proofs.Tryz
noncomputable section
def LD (m:jR->Int->Int->Option (List Int)):Prop:=∀ {t:World}{A}{p:jR}{x z a b c d e f h i u},Pre t A [] [.l a b p.a.a,.l c d p.a.b,.l e f p.c,.l h i p.b]->m p x z=some u-> Calls prog 18 #[.agg #[Z a p.a.a b,Z c p.a.b d,Z e p.c f,Z h p.b i],V x,V z] t (tV fun v w=>∃ (j:OA)(k:Nat)(o:LV),v=Z j u k/\Bx t w A (mW []) [O t.heap.size j k 3 Int o] [.els o u])
def oz (fu:Nat)(b:Int):List Gv→Nat→(List Int)→Option (Ld (List Int) ((List Int)))
 | [],_,a=>some (.go a)
 | f :: d,c,a=>
 if f.e≤b then
  if b≤f.d then
   (app a ([(c:Int)]:List Int)).bind fun e=>
   oz fu b d (c+1) e
  else
   oz fu b d (c+1) a
 else
  oz fu b d (c+1) a
def rA (fu:Nat)(c:jR)(b d:Int):Option (List Int):=if b < 0 then some ([]:List Int) else if (c.c.length:Int)<=b then some ([]:List Int) else (ix c.c b).bind fun e=>(oz fu d e 0 ([]:List Int)).bind fun f=>f.el (fun a=>some a) (fun o=>some o)
theorem Kn (fu:Nat):LD (rA fu):=by
 intro S au U x1 W A B C D E F H I r0 hP p;unfold rA at p;have e:=hP.bx;clear hP;generalize hG:mW _=G at e ⊢;refine cf func18 r (lK [(0,.agg #[Z A U.a.a B,Z C U.a.b D,Z E U.c F,Z H U.b I]),(1,V x1),(2,V W)] ⟨r,r,r,y⟩ fun av=>q (g (sW e (uZ r) fun w1 b1 e=>s (nA r) (n (q (g (s (nA r) (n (q (q (g (s (mi r) (s (qV r r) (s (lJ r) ?_))))))))))))));rcases iv p with ⟨X,p⟩|⟨X,p⟩
 ·rw [vF X];refine jZ r (jZ r (jZ r (jZ r (jZ r (s (kT r r) (n (jM r (q (g (s (nA r) (n (lX ?_))))))))))));replace e:=e.EM Int 3;obtain rfl:=sm p;exact jN r (nH r) ⟨none,0,[],r,e.ad [0] [0]⟩
 rw [wm X];refine kI r (s (mi r) (kI r (s (Bt r) (kI r (s (RZ r (e.bk 0 r) r) (kI r (s (mV GU r) (kI r (s (GI r r) (s (kK r r) (n ?_)))))))))));rcases iv p with ⟨Y,p⟩|⟨Y,p⟩
 ·refine jM (bt Y) (q (g (s (nA r) (n (lX ?_)))));replace e:=e.EM Int 3;obtain rfl:=sm p;exact jN r (nH r) ⟨none,0,[],r,e.ad [0] [0]⟩
 refine jD (bf Y) (wk (q (q (g (s (Bt r) (s (RZ r (e.bk 0 r) r) (s (mi r) ?_)))))));obtain ⟨u,z,p⟩:=bs p;obtain ⟨k6,a0,z⟩:=kW z;obtain ⟨ab,a1,e⟩:=e.nm 2 rfl z;obtain ⟨v,x,rfl,N⟩:=a1;replace e:=e.jX (d:=.l v x u) N;refine s (kZ GU Em r r a0 (e.dl 4 r) z) (s (kC Bv r r ((e.dc 1 r) 0 _ r)) (s (mV Bv r) (s (mi r) (n ?_))));replace e:=e.EM Int 3;have ac:=(e.dl 1 r).bd;obtain ⟨Y8,m,p⟩:=bs p;refine qK (fun f w=>∃ j a b c,Has f [(7,Z a j b)]/\Bx S w au G [O S.heap.size a b 3 Int c] [.els c j,.l v x u]/\Ld.go j=Y8) (fun J8 a2=>?_) ?_
 ·refine pW (kG (fun aw f w=>∃ t j a b c,aw=u.length - t/\t<=u.length/\Has f [(25,V (t:Int)),(2,V W),(7,Z a j b),(23,Z v u x),(24,V (u.length:Int))]/\Bx S w au G [O S.heap.size a b 3 Int c] [.els c j,.l v x u]/\oz fu W (u.drop t) t j=some Y8) u.length ⟨0,([]:List Int),none,0,[],r,uN _,⟨r,r,r,r,r,y⟩,e.ad [0] [0,1],m⟩ ?_);clear e m;rintro aw f w ⟨t,j,a,b,c,rfl,ae,hf,e,m⟩ K8 J;obtain ⟨av,rfl⟩:=nP hf;rcases wz t u.length with Q | Q
  ·obtain ⟨o,K⟩:=mF (l:=u) Q;rw [l6 K,oz] at m;refine q (g (s (sD r r (by omega)) (n (q (jM r (wk (q (pW (q (g (s (mi r) (s (kZ Bv uo r r r (e.dl 1 r) K) (s (OQ [T o.c,V o.b,V o.f,V o.a,.bool o.g,V o.e,V o.d] Xw uo r (e.dl 1 r) K) (sW e (jQ uo) fun af ag e=>s (xi r) (lg (mQ e 0 [T o.c,V o.b,V o.f,V o.a,.bool o.g,V o.e,V o.d] r uo r r) fun ah e=>n (q (g (s (aac r) (s (l3 r (e.bk 0 r) r) (s (mi r) (s (O7 r r) (s (lJ r) ?_))))))))))))))))))))));rcases iv m with ⟨L,m⟩|⟨L,m⟩
   ·rw [vF L];refine kI r (s (mi r) (kI r (s (QU r) (kI r (s (l3 r (e.bk 0 r) r) (kI r (s (O7 r r) (s (kT r r) (n ?_)))))))));rcases iv m with ⟨M,m⟩|⟨M,m⟩
    ·refine jM (bt M) (g (s (oF r) (s (mi r) (qd (jL e [[V (t:Int)]] ([(t:Int)]:List Int) (Kl r) r r (by decide) ⟨r,y⟩) ?_))));rintro _ ai ⟨aj,rfl,e⟩;obtain ⟨a3,R,m⟩:=bs m;refine qd (ku e 2 1 r r BJ oW r (by decide) (by decide) (mO _) r r (e.Bo 0 0 r r) R) ?_;rintro _ ak ⟨a4,a5,a6,rfl,e⟩;exact s (nA r) (n (g (s (l7 r r (by omega) (by omega)) (s (mi r) (n (J (u.length - (t+1)) _ _ (by omega) ⟨t+1,a3,a4,a5,a6,r,by omega,⟨r,r,r,r,r,y⟩,e.ad [2] [1,2],m⟩))))))
    exact jD (bf M) (wk (g (s (l7 r r (by omega) (by omega)) (s (mi r) (n (J (u.length - (t+1)) _ _ (by omega) ⟨t+1,j,a,b,c,r,by omega,⟨r,r,r,r,r,y⟩,e.arr [1] r,m⟩))))))
   rw [wm L];exact jZ r (jZ r (jZ r (jZ r (s (kK r r) (n (jD r (wk (g (s (l7 r r (by omega) (by omega)) (s (mi r) (n (J (u.length - (t+1)) _ _ (by omega) ⟨t+1,j,a,b,c,r,by omega,⟨r,r,r,r,r,y⟩,e.arr [1] r,m⟩))))))))))))
  obtain rfl:t=u.length:=by omega
  rw [lT,oz] at m;exact q (g (s (su r r (by omega)) (n (q (jD r (uE (a2 _ _ ⟨j,a,b,c,⟨r,y⟩,e,sm m⟩)))))))
 clear e;rintro f w ⟨j,a,b,c,hf,e,a7⟩;obtain ⟨av,rfl⟩:=nP hf;subst a7;replace p:=gi p;refine q (g (s (oF r) (s (nA r) (n (lX ?_)))));obtain rfl:=sm p;exact jN r (nH r) ⟨a,b,c,r,e.dp [0]⟩
end
noncomputable section
def Hr (m:(List Int)->Option Bool):Prop:=∀ {c f d a b e},Pre c f [] [.l a b d]->m d=some e-> Calls prog 7 #[Z a d b] c (tV fun v w=>v=.bool e/\Bx c w f (mW []) [] [])
def mg (fu:Nat)(c b:Int):List qm→Nat→Int→Option (Ld (Int) (Bool))
 | [],_,a=>some (.go a)
 | f :: d,e,a=>
 if f.f=c then
  if f.c=b then
   mg fu c b d (e+1) (wr (a+1))
  else
   mg fu c b d (e+1) a
 else
  mg fu c b d (e+1) a
def pU (fu:Nat)(c:jR)(j:Nat)(b:(List qm))(d:Int):Nat→Int→Option (Ld (Int) (Bool))
 | 0,_=>none
 | h+1,a=>
 (ix c.c (j:Int)).bind fun i=>
 (ix i d).bind fun f=>
 if a < f.a then
  if f.b≠3 then
   (mg fu d a b 0 0).bind fun k=>k.el (fun e=>
   if e≠1 then
    some (.out false)
   else
    pU fu c j b d h (wr (a+1))
   ) (fun o=>some (.out o))
  else
   some (.go a)
 else
  some (.go a)
def oG (fu:Nat)(b:jR)(h:Nat)(a:(List qm)):List Int→Nat→Option (Ld (Unit) (Bool))
 | [],_=>some (.go ())
 | c :: d,e=>
 (pU fu b h a c fu 0).bind fun i=>i.el (fun f=>
 oG fu b h a d (e+1)
 ) (fun o=>some (.out o))
def nN (fu:Nat)(a:jR)(i:Nat)(b:mP):List qm→Nat→Option (Ld (Unit) (Bool))
 | [],_=>some (.go ())
 | f :: h,c=>
 if f.b≠19 then
  nN fu a i b h (c+1)
 else
  (sl b.c 0 (c:Int)).bind fun j=>
  (xC fu j).bind fun d=>
  (rA fu a (i:Int) f.N).bind fun e=>
  (oG fu a i d e 0).bind fun k=>k.el (fun _=>
  nN fu a i b h (c+1)
  ) (fun o=>some (.out o))
def oI (fu:Nat)(a:jR)(e:Nat):List mP→Nat→Option (Ld (Unit) (Bool))
 | [],_=>some (.go ())
 | b :: c,d=>
 (nN fu a e b b.c 0).bind fun f=>f.el (fun _=>
 oI fu a e c (d+1)
 ) (fun o=>some (.out o))
def oH (fu:Nat)(a:jR):List p8→Nat→Option (Ld (Unit) (Bool))
 | [],_=>some (.go ())
 | c :: d,b=>
 (oI fu a b c.b 0).bind fun e=>e.el (fun _=>
 oH fu a d (b+1)
 ) (fun o=>some (.out o))
def wK (fu:Nat)(h:(List Int)):Option Bool:=(xw fu h).bind fun i=>jy i fun a c=>if (!c)=true then (AA fu).bind fun d=>some d else (uS fu a).bind fun i=>jy i fun e f=>(oH fu a e.b 0).bind fun i=>i.el (fun _=>(AA fu).bind fun b=>some b) (fun o=>some o)
theorem H9 (fu:Nat):Hr (wK fu):=by
 intro w0 cX x0 aN aO r0 hP hM;unfold wK at hM;have C:=hP.bx;clear hP;generalize hG:mW _=G at C ⊢;refine cf func7 r (lK [(0,Z aN x0 aO)] ⟨r,y⟩ fun cY=>q (g (s (kH r) (n (q (g (s (oF r) ?_)))))));obtain ⟨b,bU,h1,hM⟩:=mq hM;refine sc (ec ae8 r) (Ka fu (C.pr [] [] [0] r) h1) ?_;rintro _ w1 ⟨j,m,o,p,t,u,v,x,rfl,hK⟩;replace C:=C.cn [] [] hK;refine s wQ (s (kE r r) (s (kE r r) (sW C (jQ zq) fun w2 b2 C=>lg (mQ C 0 [Z j b.a.a m,Z o b.a.b p,Z t b.c u,Z v b.b x] r zq r r) fun w3 C=>s (kH r) (n (q (q (g (s (lJ r) (s (Er r) (n ?_))))))))));rcases iv hM with ⟨h4,hM⟩|⟨h4,hM⟩
 ·refine jM (cb h4) (q (g ?_));obtain ⟨bV,h5,hM⟩:=bs hM;refine sc (ec aah r) (Hw fu (C.pr [] [0] [] r) h5) ?_;rintro _ w5 ⟨rfl,hK⟩;replace C:=C.cn [] [0] hK;refine s (kH r) (n (lX ?_));obtain rfl:=sm hM;exact jN r (nH r) ⟨r,C.ad [] []⟩
 replace h4:=nt h4;refine jD (cb h4) (wk (q (g (s (lI [Z j b.a.a m,Z o b.a.b p,Z t b.c u,Z v b.b x] Kg zq r (C.bk 0 r)) ?_))));obtain ⟨I,bW,h6,hM⟩:=mq hM;refine sc (ec aam r) (EK fu (C.pr [] [0] [0,1,2,3] r) h6) ?_;rintro _ w6 ⟨c,D,rfl,hK⟩;replace C:=C.cn [] [0] hK;refine s wQ (s (kE r r) (s (kE r r) (sW C (jQ Pd) fun w7 b7 C=>lg (mQ C 0 [Z c I.b D] r Pd r r) fun w8 C=>s (xi r) (n (q (q (g (s (Tt r) (s (l34 r (C.bk 0 r) r) (s (mV VP r) (s (mi r) (n ?_))))))))))));have ci:=(C.dl 0 r).bd;obtain ⟨Y9,al,hM⟩:=bs hM;refine qK (fun f w=>Has f []/\Bx w0 w cX G [.box b2 30 #[Z j b.a.a m,Z o b.a.b p,Z t b.c u,Z v b.b x]] [.l c D I.b,.l j m b.a.a,.l o p b.a.b,.l t u b.c,.l v x b.b]/\Ld.go ()=Y9) (fun J9 bI=>?_) ?_
 ·refine pW (kG (fun cZ f w=>∃ k9,cZ=I.b.length - k9/\k9<=I.b.length/\Has f [(36,V (k9:Int)),(3,Pt b2),(34,Z c I.b D),(35,V (I.b.length:Int))]/\Bx w0 w cX G [.box b2 30 #[Z j b.a.a m,Z o b.a.b p,Z t b.c u,Z v b.b x]] [.l c D I.b,.l j m b.a.a,.l o p b.a.b,.l t u b.c,.l v x b.b]/\oH fu b (I.b.drop k9) k9=some Y9) I.b.length ⟨0,r,uN _,⟨r,r,r,r,y⟩,C.ad [1] [0,1,2,3,4],al⟩ ?_);clear C al;rintro cZ f w ⟨k9,rfl,cj,hf,C,al⟩ K9 bJ;obtain ⟨cY,rfl⟩:=lu _ _ hf;clear hf;rcases wz k9 I.b.length with bc | bc
  ·obtain ⟨S,aP⟩:=mF (l:=I.b) bc;rw [l6 aP,oH] at al;obtain ⟨bY,bg,C⟩:=C.nm 0 rfl aP;obtain ⟨e,H,W,X,Y,a0,rfl,aQ,aR,aS⟩:=p8.out bg;replace C:=C.jX (d:=.l e H S.b) aQ;replace C:=C.jX (d:=.l W X S.c) aR;replace C:=C.jX (d:=.l Y a0 S.d) aS;refine q (g (s (sD r r (by omega)) (n (q (jM r (wk (q (pW (q (g (s (mi r) (s (kZ VP QG r r r (C.dl 4 r) aP) (s (nT [V S.a,Z e S.b H,Z W S.c X,Z Y S.d a0] afT r QG r r (C.dc 3 r)) (sW C (jQ QG) fun ck cm C=>s (xi r) (lg (mQ C 0 [V S.a,Z e S.b H,Z W S.c X,Z Y S.d a0] r QG r r) fun cn C=>n (q (g (s (WV r) (s (l48 r (C.bk 0 r) r) (s (mV Vb r) (s (mi r) (n ?_))))))))))))))))))))));have bZ:=(C.dl 2 r).bd;obtain ⟨bh,ag,al⟩:=bs al;refine qK (fun f w=>Has f [(3,Pt b2),(34,Z c I.b D),(35,V (I.b.length:Int)),(36,V (k9:Int))]/\Bx w0 w cX G [.box b2 30 #[Z j b.a.a m,Z o b.a.b p,Z t b.c u,Z v b.b x]] [.l Y a0 S.d,.l W X S.c,.l e H S.b,.at (mU c) (nS c+k9 * sz p8) [V S.a,Z e S.b H,Z W S.c X,Z Y S.d a0],.l c D I.b,.l j m b.a.a,.l o p b.a.b,.l t u b.c,.l v x b.b]/\Ld.go ()=bh) (fun co bi=>?_) ?_
   ·refine pW (kG (fun cZ f w=>∃ ab,cZ=S.b.length - ab/\ab<=S.b.length/\Has f [(44,V (ab:Int)),(3,Pt b2),(7,V (k9:Int)),(34,Z c I.b D),(35,V (I.b.length:Int)),(36,V (k9:Int)),(42,Z e S.b H),(43,V (S.b.length:Int))]/\Bx w0 w cX G [.box b2 30 #[Z j b.a.a m,Z o b.a.b p,Z t b.c u,Z v b.b x]] [.l Y a0 S.d,.l W X S.c,.l e H S.b,.at (mU c) (nS c+k9 * sz p8) [V S.a,Z e S.b H,Z W S.c X,Z Y S.d a0],.l c D I.b,.l j m b.a.a,.l o p b.a.b,.l t u b.c,.l v x b.b]/\oI fu b k9 (S.b.drop ab) ab=some bh) S.b.length ⟨0,r,uN _,⟨r,r,r,r,r,r,r,r,y⟩,C.arr [1] r,ag⟩ ?_);clear C ag;rintro cZ f w ⟨ab,rfl,c0,hf,C,ag⟩ cp bj;obtain ⟨cY,rfl⟩:=lu _ _ hf;clear hf;rcases wz ab S.b.length with aD | aD
    ·obtain ⟨a,ay⟩:=mF (l:=S.b) aD;rw [l6 ay,oI] at ag;obtain ⟨c1,bl,C⟩:=C.nm 2 rfl ay;obtain ⟨E,F,J,K,L,M,Q,R,rfl,aT,aU,aV,aW⟩:=mP.out bl;replace C:=C.jX (d:=.l E F a.c) aT;replace C:=C.jX (d:=.l J K a.b.a) aU;replace C:=C.jX (d:=.l L M a.b.d.a.a) aV;replace C:=C.jX (d:=.l Q R a.b.d.b.a) aW;refine q (g (s (sD r r (by omega)) (n (q (jM r (wk (q (pW (q (g (s (kZ Vb Oz r r r (C.dl 7 r) ay) (s (nT [V a.a,Z E a.c F,V a.b.b,V a.b.A,V a.b.N,Z J a.b.a K,V a.b.d.a.b,Z L a.b.d.a.a M,V a.b.d.b.b,Z Q a.b.d.b.a R] afE r Oz r r (C.dc 4 r)) (sW C (jQ Oz) fun cq ak C=>lg (mQ C 0 [V a.a,Z E a.c F,V a.b.b,V a.b.A,V a.b.N,Z J a.b.a K,V a.b.d.a.b,Z L a.b.d.a.a M,V a.b.d.b.b,Z Q a.b.d.b.a R] r Oz r r) fun cr C=>n (q (g (s (XI r) (s (l62 r (C.bk 0 r) r) (s (mV vE r) (s (mi r) (n ?_))))))))))))))))))));have c2:=(C.dl 3 r).bd;obtain ⟨bm,aa,ag⟩:=bs ag;refine qK (fun f w=>Has f [(3,Pt b2),(7,V (k9:Int)),(34,Z c I.b D),(35,V (I.b.length:Int)),(36,V (k9:Int)),(42,Z e S.b H),(43,V (S.b.length:Int)),(44,V (ab:Int))]/\Bx w0 w cX G [.box ak 69 #[V a.a,Z E a.c F,V a.b.b,V a.b.A,V a.b.N,Z J a.b.a K,V a.b.d.a.b,Z L a.b.d.a.a M,V a.b.d.b.b,Z Q a.b.d.b.a R],.box b2 30 #[Z j b.a.a m,Z o b.a.b p,Z t b.c u,Z v b.b x]] [.l Q R a.b.d.b.a,.l L M a.b.d.a.a,.l J K a.b.a,.l E F a.c,.at (mU e) (nS e+ab * sz mP) [V a.a,Z E a.c F,V a.b.b,V a.b.A,V a.b.N,Z J a.b.a K,V a.b.d.a.b,Z L a.b.d.a.a M,V a.b.d.b.b,Z Q a.b.d.b.a R],.l Y a0 S.d,.l W X S.c,.l e H S.b,.at (mU c) (nS c+k9 * sz p8) [V S.a,Z e S.b H,Z W S.c X,Z Y S.d a0],.l c D I.b,.l j m b.a.a,.l o p b.a.b,.l t u b.c,.l v x b.b]/\Ld.go ()=bm) (fun ct bn=>?_) ?_
     ·refine pW (kG (fun cZ f w=>∃ aj,cZ=a.c.length - aj/\aj<=a.c.length/\Has f [(51,V (aj:Int)),(3,Pt b2),(7,V (k9:Int)),(10,Pt ak),(34,Z c I.b D),(35,V (I.b.length:Int)),(36,V (k9:Int)),(42,Z e S.b H),(43,V (S.b.length:Int)),(44,V (ab:Int)),(49,Z E a.c F),(50,V (a.c.length:Int))]/\Bx w0 w cX G [.box ak 69 #[V a.a,Z E a.c F,V a.b.b,V a.b.A,V a.b.N,Z J a.b.a K,V a.b.d.a.b,Z L a.b.d.a.a M,V a.b.d.b.b,Z Q a.b.d.b.a R],.box b2 30 #[Z j b.a.a m,Z o b.a.b p,Z t b.c u,Z v b.b x]] [.l Q R a.b.d.b.a,.l L M a.b.d.a.a,.l J K a.b.a,.l E F a.c,.at (mU e) (nS e+ab * sz mP) [V a.a,Z E a.c F,V a.b.b,V a.b.A,V a.b.N,Z J a.b.a K,V a.b.d.a.b,Z L a.b.d.a.a M,V a.b.d.b.b,Z Q a.b.d.b.a R],.l Y a0 S.d,.l W X S.c,.l e H S.b,.at (mU c) (nS c+k9 * sz p8) [V S.a,Z e S.b H,Z W S.c X,Z Y S.d a0],.l c D I.b,.l j m b.a.a,.l o p b.a.b,.l t u b.c,.l v x b.b]/\nN fu b k9 a (a.c.drop aj) aj=some bm) a.c.length ⟨0,r,uN _,⟨r,r,r,r,r,r,r,r,r,r,r,r,y⟩,C,aa⟩ ?_);clear C aa;rintro cZ f w ⟨aj,rfl,c3,hf,C,aa⟩ cu aE;obtain ⟨cY,rfl⟩:=lu _ _ hf;clear hf;rcases wz aj a.c.length with aF | aF
      ·obtain ⟨a5,az⟩:=mF (l:=a.c) aF;rw [l6 az,nN] at aa;refine q (g (s (sD r r (by omega)) (n (q (jM r (wk (q (pW (q (g (s (mi r) (s (kZ vE rZ r r r (C.dl 3 r) az) (s (OQ [V a5.b,V a5.e,V a5.A,V a5.B,V a5.N,V a5.d,V a5.f,V a5.c,V a5.a.b,V a5.a.a,V a5.a.c] NS rZ r (C.dl 3 r) az) (sW C (jQ rZ) fun cv cw C=>s (xi r) (lg (mQ C 0 [V a5.b,V a5.e,V a5.A,V a5.B,V a5.N,V a5.d,V a5.f,V a5.c,V a5.a.b,V a5.a.a,V a5.a.c] r rZ r r) fun cx C=>n (q (q (g (s (ZV r) (s (l3 r (C.bk 0 r) r) (s (sj r r) (n ?_))))))))))))))))))))));rcases iv aa with ⟨aX,aa⟩|⟨aX,aa⟩
       ·exact jM (bt aX) (uE (g (s (l7 r r (by omega) (by omega)) (s (mi r) (n (aE (a.c.length - (aj+1)) _ _ (by omega) ⟨aj+1,r,by omega,⟨r,r,r,r,r,r,r,r,r,r,r,r,y⟩,C.arr [1,2] r,aa⟩))))))
       refine jD (bf aX) (wk (q (g (s (XI r) (s (l62 r (C.bk 1 r) r) (s (mi r) ?_))))));obtain ⟨aY,bo,aa⟩:=bs aa;obtain ⟨bK,bp,c4,bq,bL,aG,aH⟩:=wX bo;obtain rfl:bK=0:=by omega
       have aZ:aY.length=bp:=by rw [<-aH,wI,Cy];omega
       replace C:=C.jX (d:=.l E F aY) (by have d0:=(C.dl 3 r).head aG;rw [aH] at d0;exact d0);refine s (show Yl _ _ _ _ _ _ _ _ _ (.slice E aY.length F) from (congrArg (fun z=>Value.slice E z F) aZ).symm ▸ xU bp vE rZ r r bq (rE aG (C.dl 4 r).cap)) ?_;obtain ⟨U,bM,aa⟩:=bs aa;refine sc (ec aez r) (KD fu (C.pr [] [0,1,2] [0] r) bM) ?_;rintro _ cy ⟨a2,a3,rfl,hK⟩;replace C:=C.cn [] [0,1,2] hK;refine s (nA r) (n (q (g (s (lI [Z j b.a.a m,Z o b.a.b p,Z t b.c u,Z v b.b x] Kg zq r (C.bk 2 r)) (s (mi r) (s (aea r) (s (l3 r (C.bk 0 r) r) ?_)))))));obtain ⟨a1,bN,aa⟩:=bs aa;refine sc (ec adZ r) (Kn fu (C.pr [] [0,1,2] [12,13,14,15] r) bN) ?_;rintro _ cz ⟨a7,a8,a4,rfl,hK⟩;have bO:=C.tQ.size;replace C:=C.cn [] [0,1,2] hK;replace C:=C.rb 0 w0.heap.size r bO;refine s (mV BJ r) (s (mi r) (n ?_));have c5:=(C.vw 0 0 r r).bd;obtain ⟨br,ah,aa⟩:=bs aa;refine qK (fun f w=>Has f [(3,Pt b2),(7,V (k9:Int)),(10,Pt ak),(34,Z c I.b D),(35,V (I.b.length:Int)),(36,V (k9:Int)),(42,Z e S.b H),(43,V (S.b.length:Int)),(44,V (ab:Int)),(49,Z E a.c F),(50,V (a.c.length:Int)),(51,V (aj:Int))]/\Bx w0 w cX G [O w0.heap.size a7 a8 3 Int a4,.box ak 69 #[V a.a,Z E a.c F,V a.b.b,V a.b.A,V a.b.N,Z J a.b.a K,V a.b.d.a.b,Z L a.b.d.a.a M,V a.b.d.b.b,Z Q a.b.d.b.a R],.box b2 30 #[Z j b.a.a m,Z o b.a.b p,Z t b.c u,Z v b.b x]] [.els a4 a1,.l a2 a3 U,.l Q R a.b.d.b.a,.l L M a.b.d.a.a,.l J K a.b.a,.l E F a.c,.at (mU e) (nS e+ab * sz mP) [V a.a,Z E a.c F,V a.b.b,V a.b.A,V a.b.N,Z J a.b.a K,V a.b.d.a.b,Z L a.b.d.a.a M,V a.b.d.b.b,Z Q a.b.d.b.a R],.l Y a0 S.d,.l W X S.c,.l e H S.b,.at (mU c) (nS c+k9 * sz p8) [V S.a,Z e S.b H,Z W S.c X,Z Y S.d a0],.l c D I.b,.l j m b.a.a,.l o p b.a.b,.l t u b.c,.l v x b.b]/\Ld.go ()=br) (fun cA bu=>?_) ?_
       ·refine pW (kG (fun cZ f w=>∃ am,cZ=a1.length - am/\am<=a1.length/\Has f [(70,V (am:Int)),(3,Pt b2),(7,V (k9:Int)),(10,Pt ak),(13,Z a2 U a3),(34,Z c I.b D),(35,V (I.b.length:Int)),(36,V (k9:Int)),(42,Z e S.b H),(43,V (S.b.length:Int)),(44,V (ab:Int)),(49,Z E a.c F),(50,V (a.c.length:Int)),(51,V (aj:Int)),(68,Z a7 a1 a8),(69,V (a1.length:Int))]/\Bx w0 w cX G [O w0.heap.size a7 a8 3 Int a4,.box ak 69 #[V a.a,Z E a.c F,V a.b.b,V a.b.A,V a.b.N,Z J a.b.a K,V a.b.d.a.b,Z L a.b.d.a.a M,V a.b.d.b.b,Z Q a.b.d.b.a R],.box b2 30 #[Z j b.a.a m,Z o b.a.b p,Z t b.c u,Z v b.b x]] [.els a4 a1,.l a2 a3 U,.l Q R a.b.d.b.a,.l L M a.b.d.a.a,.l J K a.b.a,.l E F a.c,.at (mU e) (nS e+ab * sz mP) [V a.a,Z E a.c F,V a.b.b,V a.b.A,V a.b.N,Z J a.b.a K,V a.b.d.a.b,Z L a.b.d.a.a M,V a.b.d.b.b,Z Q a.b.d.b.a R],.l Y a0 S.d,.l W X S.c,.l e H S.b,.at (mU c) (nS c+k9 * sz p8) [V S.a,Z e S.b H,Z W S.c X,Z Y S.d a0],.l c D I.b,.l j m b.a.a,.l o p b.a.b,.l t u b.c,.l v x b.b]/\oG fu b k9 U (a1.drop am) am=some br) a1.length ⟨0,r,uN _,⟨r,r,r,r,r,r,r,r,r,r,r,r,r,r,r,r,y⟩,C.ad [0,2,3] [0,1,3,4,5,6,7,8,9,10,11,12,13,14,15,16],ah⟩ ?_);clear C ah;rintro cZ f w ⟨am,rfl,c6,hf,C,ah⟩ cB bv;obtain ⟨cY,rfl⟩:=lu _ _ hf;clear hf;rcases wz am a1.length with aI | aI
        ·obtain ⟨aw,aA⟩:=mF (l:=a1) aI;rw [l6 aA,oG] at ah;refine q (g (s (sD r r (by omega)) (n (q (jM r (wk (q (pW (q (g (s (kZ BJ oW r r r (C.vw 0 0 r r) aA) (s (kC M7 r r ((vD (ds:=[V aw]) (C.vw 0 0 r r) aA (fun _ h=>h)) 0 _ r)) (s (xi r) (n (q (g (s (xi r) (n ?_))))))))))))))))));obtain ⟨bw,a9,ah⟩:=bs ah;refine qK (fun f w=>∃ ac,Has f [(3,Pt b2),(7,V (k9:Int)),(10,Pt ak),(13,Z a2 U a3),(34,Z c I.b D),(35,V (I.b.length:Int)),(36,V (k9:Int)),(42,Z e S.b H),(43,V (S.b.length:Int)),(44,V (ab:Int)),(49,Z E a.c F),(50,V (a.c.length:Int)),(51,V (aj:Int)),(68,Z a7 a1 a8),(69,V (a1.length:Int)),(70,V (am:Int))]/\Bx w0 w cX G [O w0.heap.size a7 a8 3 Int a4,.box ak 69 #[V a.a,Z E a.c F,V a.b.b,V a.b.A,V a.b.N,Z J a.b.a K,V a.b.d.a.b,Z L a.b.d.a.a M,V a.b.d.b.b,Z Q a.b.d.b.a R],.box b2 30 #[Z j b.a.a m,Z o b.a.b p,Z t b.c u,Z v b.b x]] [.els a4 a1,.l a2 a3 U,.l Q R a.b.d.b.a,.l L M a.b.d.a.a,.l J K a.b.a,.l E F a.c,.at (mU e) (nS e+ab * sz mP) [V a.a,Z E a.c F,V a.b.b,V a.b.A,V a.b.N,Z J a.b.a K,V a.b.d.a.b,Z L a.b.d.a.a M,V a.b.d.b.b,Z Q a.b.d.b.a R],.l Y a0 S.d,.l W X S.c,.l e H S.b,.at (mU c) (nS c+k9 * sz p8) [V S.a,Z e S.b H,Z W S.c X,Z Y S.d a0],.l c D I.b,.l j m b.a.a,.l o p b.a.b,.l t u b.c,.l v x b.b]/\Ld.go ac=bw) (fun cC aJ=>?_) ?_
         ·refine pW (kG (fun cZ f w=>∃ ac,Has f [(3,Pt b2),(7,V (k9:Int)),(10,Pt ak),(13,Z a2 U a3),(15,V aw),(16,V ac),(34,Z c I.b D),(35,V (I.b.length:Int)),(36,V (k9:Int)),(42,Z e S.b H),(43,V (S.b.length:Int)),(44,V (ab:Int)),(49,Z E a.c F),(50,V (a.c.length:Int)),(51,V (aj:Int)),(68,Z a7 a1 a8),(69,V (a1.length:Int)),(70,V (am:Int))]/\Bx w0 w cX G [O w0.heap.size a7 a8 3 Int a4,.box ak 69 #[V a.a,Z E a.c F,V a.b.b,V a.b.A,V a.b.N,Z J a.b.a K,V a.b.d.a.b,Z L a.b.d.a.a M,V a.b.d.b.b,Z Q a.b.d.b.a R],.box b2 30 #[Z j b.a.a m,Z o b.a.b p,Z t b.c u,Z v b.b x]] [.els a4 a1,.l a2 a3 U,.l Q R a.b.d.b.a,.l L M a.b.d.a.a,.l J K a.b.a,.l E F a.c,.at (mU e) (nS e+ab * sz mP) [V a.a,Z E a.c F,V a.b.b,V a.b.A,V a.b.N,Z J a.b.a K,V a.b.d.a.b,Z L a.b.d.a.a M,V a.b.d.b.b,Z Q a.b.d.b.a R],.l Y a0 S.d,.l W X S.c,.l e H S.b,.at (mU c) (nS c+k9 * sz p8) [V S.a,Z e S.b H,Z W S.c X,Z Y S.d a0],.l c D I.b,.l j m b.a.a,.l o p b.a.b,.l t u b.c,.l v x b.b]/\pU fu b k9 U aw cZ ac=some bw) fu ⟨0,⟨r,r,r,r,r,r,r,r,r,r,r,r,r,r,r,r,r,r,y⟩,C,a9⟩ ?_);clear C a9;rintro b0 f w ⟨ac,hf,C,a9⟩ cD bz;obtain ⟨cY,rfl⟩:=lu _ _ hf;clear hf;cases b0 with
          | zero=>exact nn a9
          | succ b0=>
           rw [pU] at a9;refine q (q (g (s (mi r) (s (Bt r) (s (RZ r (C.bk 2 r) r) (s (mi r) ?_))))));obtain ⟨bP,av,a9⟩:=bs a9;obtain ⟨cE,aK,av⟩:=kW av;obtain ⟨c7,bA,C⟩:=C.nm 14 rfl av;obtain ⟨b1,b3,rfl,b4⟩:=bA;replace C:=C.jX (d:=.l b1 b3 bP) b4;refine s (kZ GU Em r r aK (C.dl 16 r) av) (s (kC Bv r r ((C.dc 1 r) 0 _ r)) (s (mi r) ?_));obtain ⟨an,ar,a9⟩:=bs a9;obtain ⟨cF,aL,ar⟩:=kW ar;refine s (kZ Bv uo r r aL (C.dl 0 r) ar) (s (X8 r) (s (kC M7 r r ((vD (ds:=[T an.c,V an.b,V an.f,V an.a,.bool an.g,V an.e,V an.d]) (C.dl 0 r) ar (fun _ h=>h)) 3 _ r)) (s (qV r r) (s (lJ r) ?_))));rcases iv a9 with ⟨b5,a9⟩|⟨b5,a9⟩
           ·rw [IX b5];refine kI r (s (Bt r) (kI r (s (RZ r (C.bk 2 r) r) (kI r (s (mi r) (kI r (s (kZ GU Em r r aK (C.dl 16 r) av) (kI r (s (kC Bv r r ((C.dc 1 r) 0 _ r)) (kI r (s (mi r) (kI r (s (kZ Bv uo r r aL (C.dl 0 r) ar) (kI r (s (TN r) (kI r (s (kC M7 r r ((vD (ds:=[T an.c,V an.b,V an.f,V an.a,.bool an.g,V an.e,V an.d]) (C.dl 0 r) ar (fun _ h=>h)) 1 _ r)) (kI r (s (sj r r) (s (kT r r) (n ?_)))))))))))))))))))));rcases iv a9 with ⟨b6,a9⟩|⟨b6,a9⟩
            ·refine jM (bt b6) (wk (q (pW (q (g (s (xi r) (n (q (q (g (s (oF r) (s (mV vE r) (s (mi r) (n ?_))))))))))))));have c8:=(C.dl 3 r).bd;obtain ⟨bB,ae,a9⟩:=bs a9;refine qK (fun f w=>∃ af,Has f [(3,Pt b2),(7,V (k9:Int)),(10,Pt ak),(13,Z a2 U a3),(15,V aw),(16,V ac),(17,V af),(34,Z c I.b D),(35,V (I.b.length:Int)),(36,V (k9:Int)),(42,Z e S.b H),(43,V (S.b.length:Int)),(44,V (ab:Int)),(49,Z E a.c F),(50,V (a.c.length:Int)),(51,V (aj:Int)),(68,Z a7 a1 a8),(69,V (a1.length:Int)),(70,V (am:Int))]/\Bx w0 w cX G [O w0.heap.size a7 a8 3 Int a4,.box ak 69 #[V a.a,Z E a.c F,V a.b.b,V a.b.A,V a.b.N,Z J a.b.a K,V a.b.d.a.b,Z L a.b.d.a.a M,V a.b.d.b.b,Z Q a.b.d.b.a R],.box b2 30 #[Z j b.a.a m,Z o b.a.b p,Z t b.c u,Z v b.b x]] [.els a4 a1,.l a2 a3 U,.l Q R a.b.d.b.a,.l L M a.b.d.a.a,.l J K a.b.a,.l E F a.c,.at (mU e) (nS e+ab * sz mP) [V a.a,Z E a.c F,V a.b.b,V a.b.A,V a.b.N,Z J a.b.a K,V a.b.d.a.b,Z L a.b.d.a.a M,V a.b.d.b.b,Z Q a.b.d.b.a R],.l Y a0 S.d,.l W X S.c,.l e H S.b,.at (mU c) (nS c+k9 * sz p8) [V S.a,Z e S.b H,Z W S.c X,Z Y S.d a0],.l c D I.b,.l j m b.a.a,.l o p b.a.b,.l t u b.c,.l v x b.b]/\Ld.go af=bB) (fun cG bC=>?_) ?_
             ·refine pW (kG (fun cZ f w=>∃ ao af,cZ=U.length - ao/\ao<=U.length/\Has f [(101,V (ao:Int)),(3,Pt b2),(7,V (k9:Int)),(10,Pt ak),(13,Z a2 U a3),(15,V aw),(16,V ac),(17,V af),(34,Z c I.b D),(35,V (I.b.length:Int)),(36,V (k9:Int)),(42,Z e S.b H),(43,V (S.b.length:Int)),(44,V (ab:Int)),(49,Z E a.c F),(50,V (a.c.length:Int)),(51,V (aj:Int)),(68,Z a7 a1 a8),(69,V (a1.length:Int)),(70,V (am:Int)),(99,Z a2 U a3),(100,V (U.length:Int))]/\Bx w0 w cX G [O w0.heap.size a7 a8 3 Int a4,.box ak 69 #[V a.a,Z E a.c F,V a.b.b,V a.b.A,V a.b.N,Z J a.b.a K,V a.b.d.a.b,Z L a.b.d.a.a M,V a.b.d.b.b,Z Q a.b.d.b.a R],.box b2 30 #[Z j b.a.a m,Z o b.a.b p,Z t b.c u,Z v b.b x]] [.els a4 a1,.l a2 a3 U,.l Q R a.b.d.b.a,.l L M a.b.d.a.a,.l J K a.b.a,.l E F a.c,.at (mU e) (nS e+ab * sz mP) [V a.a,Z E a.c F,V a.b.b,V a.b.A,V a.b.N,Z J a.b.a K,V a.b.d.a.b,Z L a.b.d.a.a M,V a.b.d.b.b,Z Q a.b.d.b.a R],.l Y a0 S.d,.l W X S.c,.l e H S.b,.at (mU c) (nS c+k9 * sz p8) [V S.a,Z e S.b H,Z W S.c X,Z Y S.d a0],.l c D I.b,.l j m b.a.a,.l o p b.a.b,.l t u b.c,.l v x b.b]/\mg fu aw ac (U.drop ao) ao af=some bB) U.length ⟨0,0,r,uN _,⟨r,r,r,r,r,r,r,r,r,r,r,r,r,r,r,r,r,r,r,r,r,r,y⟩,C.dp [2,3,4,5,6,7,8,9,10,11,12,13,14,15,16,17],ae⟩ ?_);clear C ae;rintro cZ f w ⟨ao,af,rfl,c9,hf,C,ae⟩ cH aB;obtain ⟨cY,rfl⟩:=lu _ _ hf;clear hf;rcases wz ao U.length with aM | aM
              ·obtain ⟨a6,aC⟩:=mF (l:=U) aM;rw [l6 aC,mg] at ae;refine q (g (s (sD r r (by omega)) (n (q (jM r (wk (q (pW (q (g (s (kZ vE rZ r r r (C.dl 1 r) aC) (s (OQ [V a6.b,V a6.e,V a6.A,V a6.B,V a6.N,V a6.d,V a6.f,V a6.c,V a6.a.b,V a6.a.a,V a6.a.c] NS rZ r (C.dl 1 r) aC) (sW C (jQ rZ) fun cI cJ C=>lg (mQ C 0 [V a6.b,V a6.e,V a6.A,V a6.B,V a6.N,V a6.d,V a6.f,V a6.c,V a6.a.b,V a6.a.a,V a6.a.c] r rZ r r) fun cK C=>n (q (g (s (Qj r) (s (l3 r (C.bk 0 r) r) (s (mi r) (s (kM r r) (s (lJ r) ?_))))))))))))))))))));rcases iv ae with ⟨b8,ae⟩|⟨b8,ae⟩
               ·rw [IX b8];refine kI r (s (Ws r) (kI r (s (l3 r (C.bk 0 r) r) (kI r (s (mi r) (kI r (s (kM r r) (s (kT r r) (n ?_)))))))));rcases iv ae with ⟨b9,ae⟩|⟨b9,ae⟩
                ·exact jM (bt b9) (g (s (mi r) (s (kP r r) (s (xi r) (n (g (s (l7 r r (by omega) (by omega)) (s (mi r) (n (aB (U.length - (ao+1)) _ _ (by omega) ⟨ao+1,wr (af+1),r,by omega,⟨r,r,r,r,r,r,r,r,r,r,r,r,r,r,r,r,r,r,r,r,r,r,y⟩,C.arr [1,2,3] r,ae⟩))))))))))
                exact jD (bf b9) (wk (g (s (l7 r r (by omega) (by omega)) (s (mi r) (n (aB (U.length - (ao+1)) _ _ (by omega) ⟨ao+1,af,r,by omega,⟨r,r,r,r,r,r,r,r,r,r,r,r,r,r,r,r,r,r,r,r,r,r,y⟩,C.arr [1,2,3] r,ae⟩))))))
               rw [Ja b8];exact jZ r (jZ r (jZ r (jZ r (s (kK r r) (n (jD r (wk (g (s (l7 r r (by omega) (by omega)) (s (mi r) (n (aB (U.length - (ao+1)) _ _ (by omega) ⟨ao+1,af,r,by omega,⟨r,r,r,r,r,r,r,r,r,r,r,r,r,r,r,r,r,r,r,r,r,r,y⟩,C.arr [1,2,3] r,ae⟩))))))))))))
              obtain rfl:ao=U.length:=by omega
              rw [lT,mg] at ae;exact q (g (s (su r r (by omega)) (n (q (jD r (uE (bC _ _ ⟨af,⟨r,r,r,r,r,r,r,r,r,r,r,r,r,r,r,r,r,r,r,y⟩,C,sm ae⟩)))))))
             clear C;rintro f w ⟨af,hf,C,bD⟩;obtain ⟨cY,rfl⟩:=lu _ _ hf;clear hf;subst bD;replace a9:=gi a9;refine q (g (s (mi r) (s (sj r r) (n ?_))));rcases iv a9 with ⟨ba,a9⟩|⟨ba,a9⟩
             ·refine jM (bt ba) (q (g (s (kH r) (n (lX ?_)))));obtain rfl:=sm a9;replace ah:=oi ah;obtain rfl:=sm ah;replace aa:=oi aa;obtain rfl:=sm aa;replace ag:=oi ag;obtain rfl:=sm ag;replace al:=oi al;obtain rfl:=sm al;replace hM:=oi hM;obtain rfl:=sm hM;exact jN r (nH r) ⟨r,C.ad [] []⟩
             exact jD (bf ba) (wk (g (s (mi r) (s (kP r r) (s (xi r) (n (bz b0 _ _ (Es _) ⟨wr (ac+1),⟨r,r,r,r,r,r,r,r,r,r,r,r,r,r,r,r,r,r,y⟩,C,a9⟩)))))))
            exact jD (bf b6) (uE (aJ _ _ ⟨ac,⟨r,r,r,r,r,r,r,r,r,r,r,r,r,r,r,r,y⟩,C.dp [2,3,4,5,6,7,8,9,10,11,12,13,14,15,16,17],sm a9⟩))
           rw [Ja b5];exact jZ r (jZ r (jZ r (jZ r (jZ r (jZ r (jZ r (jZ r (jZ r (jZ r (s (kK r r) (n (jD r (uE (aJ _ _ ⟨ac,⟨r,r,r,r,r,r,r,r,r,r,r,r,r,r,r,r,y⟩,C.dp [2,3,4,5,6,7,8,9,10,11,12,13,14,15,16,17],sm a9⟩))))))))))))))
         clear C;rintro f w ⟨ac,hf,C,bE⟩;obtain ⟨cY,rfl⟩:=lu _ _ hf;clear hf;subst bE;replace ah:=gi ah;exact g (s (l7 r r (by omega) (by omega)) (s (mi r) (n (bv (a1.length - (am+1)) _ _ (by omega) ⟨am+1,r,by omega,⟨r,r,r,r,r,r,r,r,r,r,r,r,r,r,r,r,y⟩,C,ah⟩))))
        obtain rfl:am=a1.length:=by omega
        rw [lT,oG] at ah;exact q (g (s (su r r (by omega)) (n (q (jD r (uE (bu _ _ ⟨⟨r,r,r,r,r,r,r,r,r,r,r,r,y⟩,C,sm ah⟩)))))))
       clear C;rintro f w ⟨hf,C,bF⟩;obtain ⟨cY,rfl⟩:=lu _ _ hf;clear hf;subst bF;replace aa:=gi aa;exact g (s (l7 r r (by omega) (by omega)) (s (mi r) (n (aE (a.c.length - (aj+1)) _ _ (by omega) ⟨aj+1,r,by omega,⟨r,r,r,r,r,r,r,r,r,r,r,r,y⟩,C.ad [1,2] [2,3,4,5,6,7,8,9,10,11,12,13,14,15],aa⟩))))
      obtain rfl:aj=a.c.length:=by omega
      rw [lT,nN] at aa;exact q (g (s (su r r (by omega)) (n (q (jD r (uE (bn _ _ ⟨⟨r,r,r,r,r,r,r,r,y⟩,C,sm aa⟩)))))))
     clear C;rintro f w ⟨hf,C,bG⟩;obtain ⟨cY,rfl⟩:=lu _ _ hf;clear hf;subst bG;replace ag:=gi ag;exact g (s (l7 r r (by omega) (by omega)) (s (mi r) (n (bj (S.b.length - (ab+1)) _ _ (by omega) ⟨ab+1,r,by omega,⟨r,r,r,r,r,r,r,r,y⟩,C.ad [1] [5,6,7,8,9,10,11,12,13],ag⟩))))
    obtain rfl:ab=S.b.length:=by omega
    rw [lT,oI] at ag;exact q (g (s (su r r (by omega)) (n (q (jD r (uE (bi _ _ ⟨⟨r,r,r,r,y⟩,C,sm ag⟩)))))))
   clear C;rintro f w ⟨hf,C,bH⟩;obtain ⟨cY,rfl⟩:=lu _ _ hf;clear hf;subst bH;replace al:=gi al;exact g (s (l7 r r (by omega) (by omega)) (s (mi r) (n (bJ (I.b.length - (k9+1)) _ _ (by omega) ⟨k9+1,r,by omega,⟨r,r,r,r,y⟩,C.dp [4,5,6,7,8],al⟩))))
  obtain rfl:k9=I.b.length:=by omega
  rw [lT,oH] at al;exact q (g (s (su r r (by omega)) (n (q (jD r (uE (bI _ _ ⟨y,C,sm al⟩)))))))
 clear C;rintro f w ⟨hf,C,bQ⟩;obtain ⟨cY,rfl⟩:=lu _ _ hf;clear hf;subst bQ;replace hM:=gi hM;refine q (g ?_);obtain ⟨bR,bS,hM⟩:=bs hM;refine sc (ec aah r) (Hw fu (C.pr [] [0] [] r) bS) ?_;rintro _ cL ⟨rfl,hK⟩;replace C:=C.cn [] [0] hK;refine s (kH r) (n (lX ?_));obtain rfl:=sm hM;exact jN r (nH r) ⟨r,C.ad [] []⟩
end
def VO (R:List kg)(v:gP):Prop:=(v.b=1/\v.a=1)\/(v.b=2/\∃ r,ix R v.f=some r/\v.a=r.a.length)\/(v.b=3/\0 < v.a/\v.a<=8)
def Vr (V V':List gP):Prop:=∀ (i:Nat)(v:gP),V[i]?=some v->∃ v',V'[i]?=some v'/\v'.b=v.b/\v'.f=v.f/\v'.a=v.a/\v'.e=v.e
theorem Vr.rfl' {V:List gP}:Vr V V:=fun i v h=>⟨v,h,rfl,rfl,rfl,rfl⟩
theorem Vr.trans {V V1 V2:List gP}(h:Vr V V1)(k:Vr V1 V2):Vr V V2:=fun i v hv=>by obtain ⟨v1,h1,a1,a2,a3,a4⟩:=h i v hv;obtain ⟨v2,h2,b1,b2,b3,b4⟩:=k i v1 h1;exact ⟨v2,h2,b1.trans a1,b2.trans a2,b3.trans a3,b4.trans a4⟩
theorem Uv {V V':List gP}(h:Vr V V'){i:Int}{v:gP}(hv:ix V i=some v):∃ v',ix V' i=some v'/\v'.b=v.b/\v'.f=v.f/\v'.a=v.a/\v'.e=v.e:=by obtain ⟨k,rfl,hk⟩:=kW hv;obtain ⟨v',h1,h2⟩:=h k v hk;exact ⟨v',by unfold Go.Fw.ix;rw [lD (by omega),FJ,h1],h2⟩
inductive RX (V:List gP):jB→Prop
 | mk {e:jB} (h:e.e=1\/e.e=2\/e.e=3->∃ v,ix V e.f=some v/\v.b=e.e/\(e.e=2->0<=e.d/\e.d < v.a)) (k:∀ y ∈ e.a,RX V y):RX V e
theorem RX.mono {V V':List gP}(hv:Vr V V'){e:jB}(h:RX V e):RX V' e:=by
 induction h with
 | mk h k ih=>
  refine .mk (fun z=>?_) ih;obtain ⟨v,h1,h2,h3⟩:=h z;obtain ⟨v',a1,a2,a3,a4,a5⟩:=Uv hv h1;exact ⟨v',a1,a2.trans h2,fun z=>by rw [a4];exact h3 z⟩
inductive SW (K:List jT)(V:List gP)(Ps:List Nat)(f:Int):List jA→Nat→Nat→Prop
 | nil {a:Nat}:SW K V Ps f [] a a
 | cons {x:jA} {l:List jA} {a c d b:Nat} (id:x.n=a) (kd:K[a]?=some ⟨f,x.b,x.g⟩) (tg:∀ y ∈ x.e,RX V y) (ar:∀ y ∈ x.a,RX V y) (de:x.b=1→∃ v,ix V x.f=some v)
  (tr:x.b=8->∃ v,ix V x.f=some v/\v.b=1/\v.e=(c:Int)) (ca:x.k≠be->ix Ps x.i=some x.a.length) (ct:∀ y ∈ x.e,(x.b=3->y.e=1)/\1<=y.e/\y.e<=3)
  (bo:SW K V Ps f x.d (a+1) c) (el:SW K V Ps f x.h c d) (nx:SW K V Ps f l d b):SW K V Ps f (x :: l) a b
theorem SW.mono {K K':List jT}{V V':List gP}{Ps:List Nat}{f:Int}(hk:K <+: K')(hv:Vr V V'){l:List jA}{a b:Nat}(h:SW K V Ps f l a b):SW K' V' Ps f l a b:=by
 induction h with
 | nil=>exact .nil
 | cons id kd tg ar de tr ca ct _ _ _ ih1 ih2 ih3=>
  obtain ⟨t,rfl⟩:=hk;refine .cons id (by rw [AL (ko kd)];exact kd) (fun y hy=>(tg y hy).mono hv) (fun y hy=>(ar y hy).mono hv) (fun z=>?_) (fun z=>?_) ca ct ih1 ih2 ih3
  · obtain ⟨v,h1⟩:=de z;obtain ⟨v',h2,_⟩:=Uv hv h1;exact ⟨v',h2⟩
  · obtain ⟨v,h1,h3,h4⟩:=tr z;obtain ⟨v',h2,a1,a2,a3,a4⟩:=Uv hv h1;exact ⟨v',h2,a1.trans h3,a4.trans h4⟩
theorem SW.le {K:List jT}{V:List gP}{Ps:List Nat}{f:Int}{l:List jA}{a b:Nat}(h:SW K V Ps f l a b):a<=b:=by
 induction h with
 | nil=>exact mO _
 | cons _ _ _ _ _ _ _ _ _ _ _ h1 h2 h3=>omega
theorem SW.app {K:List jT}{V:List gP}{Ps:List Nat}{f:Int}{l m:List jA}{a b c:Nat}(h:SW K V Ps f l a b)(k:SW K V Ps f m b c):SW K V Ps f (l ++ m) a c:=by
 induction h with
 | nil=>exact k
 | cons id kd tg ar de tr ca ct bo el _ _ _ ih=>exact .cons id kd tg ar de tr ca ct bo el (ih k)
structure Up (S:fV)(V:List gP)(S':fV)(V':List gP):Prop where
 e:S.e=0
 f:S'.f=S.f
 pg:S'.a.a=S.a.a
 k:S.a.b <+: S'.a.b
 v:ix S'.a.c S.f=some V'
 vs:∀ i:Nat,(i:Int)≠S.f->S'.a.c[i]?=S.a.c[i]?
 vl:S'.a.c.length=S.a.c.length
 vr:Vr V V'
 vo:∀ x ∈ V',VO S.a.a.a x
structure Wd (S:fV)(V:List gP):Prop where
 v:ix S.a.c S.f=some V
 vo:∀ x ∈ V,VO S.a.a.a x
theorem Up.wd {S S':fV}{V V':List gP}(h:Up S V S' V'):Wd S' V':=⟨by rw [h.f];exact h.v,by rw [h.pg];exact h.vo⟩
theorem Up.rfl' {S:fV}{V:List gP}(h:Wd S V)(e:S.e=0):Up S V S V:=⟨e,rfl,rfl,Qk,h.v,fun _ _=>rfl,rfl,.rfl',h.vo⟩
theorem Up.trans {S S1 S2:fV}{V V1 V2:List gP}(h:Up S V S1 V1)(k:Up S1 V1 S2 V2):Up S V S2 V2:=
 ⟨h.e,k.f.trans h.f,k.pg.trans h.pg,h.k.trans k.k,by rw [<-h.f];exact k.v,fun i hi=>(k.vs i (by rw [h.f];exact hi)).trans (h.vs i hi),k.vl.trans h.vl,h.vr.trans k.vr,by rw [<-h.pg];exact k.vo⟩
structure Nk (S S':fV):Prop where
 out:S'.a=S.a
 f:S'.f=S.f
 op:S'.b=S.b
 e:S'.e=0->S.e=0
theorem Nk.rfl' {S:fV}:Nk S S:=⟨rfl,rfl,rfl,id⟩
theorem Nk.trans {S S1 S2:fV}(h:Nk S S1)(k:Nk S1 S2):Nk S S2:=⟨k.out.trans h.out,k.f.trans h.f,k.op.trans h.op,fun z=>h.e (k.e z)⟩
theorem Nk.up {S S':fV}{V:List gP}(k:Nk S S')(h:Wd S V)(e:S'.e=0):Up S V S' V:=⟨k.e e,k.f,by rw [k.out],by rw [k.out];exact Qk,by rw [k.out];exact h.v,fun i _=>by rw [k.out],by rw [k.out],.rfl',h.vo⟩
theorem Nk.wd {S S':fV}{V:List gP}(k:Nk S S')(h:Wd S V):Wd S' V:=⟨by rw [k.out,k.f];exact h.v,by rw [k.out];exact h.vo⟩
theorem tY {fu:Nat}{S S':fV}{ln e:Int}(he:e≠0)(h:mH fu S ln e=some S'):Nk S S'/\S'.e≠0:=by
 unfold mH at h;rcases jH h with ⟨c,h⟩|⟨c,h⟩
 · cases h;exact ⟨⟨rfl,rfl,rfl,fun z=>absurd z he⟩,he⟩
 · cases h;exact ⟨.rfl',c⟩
section
variable {fu:Nat}{f:fV->jB->Int->Option (jB × fV)}{g:fV->List jB->Int->Option (List jB × fV)}
def Xe (f:fV->jB->Int->Option (jB × fV)):Prop:=∀ S x ln x' S' V,f S x ln=some (x',S')->Wd S V->Nk S S'/\x'.e=x.e/\(S'.e=0->RX V x')
def Xes (g:fV->List jB->Int->Option (List jB × fV)):Prop:=∀ S l ln l' S' V,g S l ln=some (l',S')->Wd S V->Nk S S'/\l'.map jB.e=l.map jB.e/\(S'.e=0->∀ y ∈ l',RX V y)
theorem aaW {x:jB}{b:Nat}:∀ (l:List ByteArray)(k:Nat)(a n:Int),nZ fu g f x l k a=some (.go n)→k+l.length≤b→a < b→n < b
 | [],_,a,n,h,_,ha=>by cases h;exact ha
 | u :: r,k,a,n,h,hk,ha=>by
  rw [uK] at hk;rw [nZ] at h;rcases jH h with ⟨_,h⟩|⟨_,h⟩
  · exact aaW r _ _ n h (by omega) (by omega)
  · exact aaW r _ _ n h (by omega) ha
theorem afg {S:fV}{x:jB}{ln:Int}{V:List gP}{d c:Int}{a1:List kg}{a2 a3 a4:Int}{a5:List kN}{a6:List (List gP)}{a7:List jT}{a8:List Int}(hw:Wd S V)(h:o9 fu g f S x ln=some (.go (d,c,a1,a2,a3,a4,a5,a6,a7,a8))):Nk S ⟨⟨⟨a1,a5⟩,a6,a7⟩,a2,a8,a3,a4⟩/\(a4=0->x.e=1\/x.e=2\/x.e=3->∃ v,ix V c=some v/\v.b=x.e/\(x.e=2->0<=d/\d < v.a)):=by
 unfold o9 at h;obtain ⟨v,hv,h⟩:=bs h;cases v with
 | out o=>cases h
 | go b=>
  have hb:b=true ↔ (x.e=1\/x.e=2\/x.e=3):=by
    unfold tK at hv;rcases jH hv with ⟨h1,hv⟩|⟨h1,hv⟩
    · cases hv;simp [h1]
    · rcases jH hv with ⟨h2,hv⟩|⟨h2,hv⟩
      · cases hv;simp [h2]
      · cases hv;simp [h1,h2]
  replace h:=gi h;rcases jH h with ⟨h1,h⟩|⟨h1,h⟩
  · have hop:=hb.1 h1;obtain ⟨⟨c',i⟩,_,h⟩:=bs h;replace h:=pi h;rcases jH h with ⟨_,h⟩|⟨_,h⟩
    · obtain ⟨j,_,h⟩:=bs h;cases h
    · obtain ⟨t,ht,h⟩:=bs h;rw [hw.v] at ht;cases ht;obtain ⟨m,hm,h⟩:=bs h;rcases jH h with ⟨_,h⟩|⟨hk,h⟩
      · obtain ⟨k,_,h⟩:=bs h;cases h
      · have hk:m.b=x.e:=by have e1:wr (1+x.e)=1+x.e:=mo (by omega) (by omega);rw [e1,mo (by omega) (by omega)] at hk;have:=Decidable.not_not.1 hk;omega
        rcases jH h with ⟨h2,h⟩|⟨h2,h⟩
        · obtain ⟨u,hu,h⟩:=bs h;obtain ⟨v,hv2,h⟩:=bs h;cases v with
          | out o=>cases h
          | go d'=>
           replace h:=gi h;have hlt:=aaW (b:=u.a.length) _ 0 _ _ hv2 (by omega) (by omega);rcases jH h with ⟨_,h⟩|⟨h3,h⟩
           · obtain ⟨a,ha,h⟩:=bs h;cases h;obtain ⟨k1,k2⟩:=tY (by decide) ha;exact ⟨k1,fun z=>absurd z k2⟩
           · cases h;refine ⟨.rfl',fun _ _=>⟨m,hm,hk,fun _=>⟨by omega,?_⟩⟩⟩;obtain ⟨q,rfl,hq⟩:=kW hm;rcases hw.vo m (vM hq) with ⟨h5,_⟩|⟨_,r,h5,h6⟩|⟨h5,_⟩
             · omega
             · rw [hu] at h5;cases h5;rw [h6];exact hlt
             · omega
        · cases h;exact ⟨.rfl',fun _ _=>⟨m,hm,hk,fun z=>absurd z h2⟩⟩
  · cases h;exact ⟨.rfl',fun _ z=>absurd (hb.2 z) h1⟩
theorem adh {S:fV}{x:jB}{ln:Int}{V:List gP}{x':jB}{S':fV}(h:o9 fu g f S x ln=some (.out (x',S'))):Nk S S'/\x'=x/\S'.e≠0:=by
 unfold o9 at h;obtain ⟨v,hv,h⟩:=bs h;cases v with
 | out o=>
  unfold tK at hv;rcases jH hv with ⟨_,hv⟩|⟨_,hv⟩
  · cases hv
  · rcases jH hv with ⟨_,hv⟩|⟨_,hv⟩ <;> cases hv
 | go b=>
  replace h:=gi h;rcases jH h with ⟨_,h⟩|⟨_,h⟩
  · obtain ⟨⟨c,i⟩,_,h⟩:=bs h;replace h:=pi h;rcases jH h with ⟨_,h⟩|⟨_,h⟩
    · obtain ⟨j,hj,h⟩:=bs h;cases h;have k:=tY (by decide) hj;exact ⟨k.1,rfl,k.2⟩
    · obtain ⟨t,_,h⟩:=bs h;obtain ⟨m,_,h⟩:=bs h;rcases jH h with ⟨_,h⟩|⟨_,h⟩
      · obtain ⟨k,hk,h⟩:=bs h;cases h;have k:=tY (by decide) hk;exact ⟨k.1,rfl,k.2⟩
      · rcases jH h with ⟨_,h⟩|⟨_,h⟩
        · obtain ⟨u,_,h⟩:=bs h;obtain ⟨v,hv,h⟩:=bs h;cases v with
          | out o=>exact (Yn _ _ _ _ hv).elim
          | go d=>
           replace h:=gi h;rcases jH h with ⟨_,h⟩|⟨_,h⟩
           · obtain ⟨a,_,h⟩:=bs h;cases h
           · cases h
        · cases h
  · cases h
theorem abk (hg:Xes g):Xe (uD fu g f):=by
 intro S x ln x' S' V h hw;unfold uD at h;rcases jH h with ⟨c,h⟩|⟨_,h⟩
 · cases h;exact ⟨.rfl',rfl,fun z=>absurd z c⟩
 · obtain ⟨v,hv,h⟩:=bs h;cases v with
   | out o=>
    cases h;obtain ⟨k1,rfl,k2⟩:=adh (V:=V) hv;exact ⟨k1,rfl,fun z=>absurd z k2⟩
   | go s=>
    obtain ⟨a1,a2,a3,a4,a5,a6,a7,a8,a9,a10⟩:=s;replace h:=gi h;simp only [pl] at h;obtain ⟨⟨l',S1⟩,h1,h⟩:=bs h;rw [pl] at h;cases h;obtain ⟨k1,k2⟩:=afg hw hv;obtain ⟨k3,k4,k5⟩:=hg _ _ _ _ _ V h1 (k1.wd hw);exact ⟨k1.trans k3,rfl,fun z=>.mk (k2 (k3.e z)) (k5 z)⟩
theorem Lv (hf:Xe f){ln:Int}{V:List gP}{S0:fV}(hw:Wd S0 V):∀ (l:List jB)(k:Nat)(out:List jB)(S:fV)(v:Ld (List jB × List kg × Int × Int × Int × List kN × List (List gP) × List jT × List Int) (List jB × fV)),Nk S0 S→
  nY fu g f ln l k out S.a.a.a S.f S.c S.e S.a.a.b S.a.c S.a.b S.b=some v->(S.e=0->∀ y ∈ out,RX V y)->∃ o a1 a2 a3 a4 a5 a6 a7 a8,v=.go (o,a1,a2,a3,a4,a5,a6,a7,a8)/\Nk S0 ⟨⟨⟨a1,a5⟩,a6,a7⟩,a2,a8,a3,a4⟩/\o.map jB.e=out.map jB.e ++ l.map jB.e/\(a4=0->∀ y ∈ o,RX V y)
 | [],_,out,S,v,hS,h,ho=>by cases h;exact ⟨_,_,_,_,_,_,_,_,_,rfl,hS,by rw [List.map_nil,ER],ho⟩
 | u :: r,k,out,S,v,hS,h,ho=>by rw [nY] at h;obtain ⟨⟨x,S1⟩,h1,h⟩:=bs h;rw [pl] at h;obtain ⟨w,hw',h⟩:=bs h;obtain ⟨_,rfl⟩:=qy hw';obtain ⟨k1,k2,k3⟩:=hf _ _ _ _ _ V h1 (hS.wd hw);obtain ⟨o,a1,a2,a3,a4,a5,a6,a7,a8,e,h2,h3,h4⟩:=Lv hf hw r _ _ S1 v (hS.trans k1) h (fun z=>oQ (ho (k1.e z)) (k3 z));exact ⟨o,a1,a2,a3,a4,a5,a6,a7,a8,e,h2,by rw [h3,List.map_append,Fh,List.map_cons,List.map_cons,k2];rfl,h4⟩
theorem Zt (hf:Xe f):Xes (sJ fu g f):=by intro S l ln l' S' V h hw;unfold sJ at h;obtain ⟨v,hv,h⟩:=bs h;obtain ⟨o,a1,a2,a3,a4,a5,a6,a7,a8,rfl,h2,h3,h4⟩:=Lv hf hw l _ _ S v .rfl' hv (fun _ y hy=>by cases hy);replace h:=gi h;simp only [pl] at h;cases h;exact ⟨h2,h3,h4⟩
end
theorem I6:∀ fu:Nat,Xe (zC fu)∧Xes (sK fu)
 | 0=>⟨fun _ _ _ _ _ _ h=>(by cases h),fun _ _ _ _ _ _ h=>(by cases h)⟩
 | fu+1=>⟨abk (I6 fu).2,Zt (I6 fu).1⟩
end Go.Proofs.YtdkneekpdecjbaaGreat
namespace Go.Fw
theorem kS.of' {α:Type}{x:Option α}{P:α->Prop}{v:α}(h:kS x P)(e:x=some v):P v:=by obtain ⟨u,h1,h2⟩:=h;rw [e] at h1;cases h1;exact h2
end Go.Fw
namespace Go.Proofs.YtdkneekpdecjbaaGreat
open Go.RowKit Go.Fw Go.Proofs.Tryz
section
variable {fu:Nat}
theorem abp {p:fV}{t:kg}{u:Nat}:∀ (o:Nat){b:Int}{c:List kg}{d h i:Int}{j:List kN}{k:List (List gP)}{l:List jT}{m:List Int}{r:Int × List kg × Int × Int × Int × List kN × List (List gP) × List jT × List Int},
  pJ fu p t u o b c d h i j k l m=some (.go r)->r.2.2.2.2.1=0->i=0
 | 0,_,_,_,_,_,_,_,_,_,_,z,_=>by cases z
 | o+1,_,_,_,_,_,_,_,_,_,_,z,e=>by
  rw [pJ] at z;rcases jH z with ⟨_,z⟩|⟨_,z⟩
  · obtain ⟨_,_,z⟩:=bs z;rcases jH z with ⟨_,z⟩|⟨_,z⟩
    · obtain ⟨_,ha,z⟩:=bs z;exact (tY (by decide) ha).1.e (abp o z e)
    · exact abp o z e
  · cases z;exact e
theorem aaS {t:kg}{u:ByteArray}{p:Nat}:∀ (o:Nat){b:Int}{c:List kg}{d h i:Int}{j:List kN}{k:List (List gP)}{l:List jT}{m:List Int}{r:Int × List kg × Int × Int × Int × List kN × List (List gP) × List jT × List Int},
  pz fu t u p o b c d h i j k l m=some (.go r)->r.2.2.2.2.1=0->i=0
 | 0,_,_,_,_,_,_,_,_,_,_,z,_=>by cases z
 | o+1,_,_,_,_,_,_,_,_,_,_,z,e=>by
  rw [pz] at z;rcases jH z with ⟨_,z⟩|⟨_,z⟩
  · obtain ⟨_,_,z⟩:=bs z;rcases jH z with ⟨_,z⟩|⟨_,z⟩
    · obtain ⟨_,ha,z⟩:=bs z;exact (tY (by decide) ha).1.e (aaS o z e)
    · exact aaS o z e
  · cases z;exact e
theorem acw {d:Int}{p:kN}:∀ (o:Nat){b:Int}{h:List kg}{i j k:Int}{c:List kN}{l:List (List gP)}{m:List jT}{q:List Int}{r:Int × List kg × Int × Int × Int × List kN × List (List gP) × List jT × List Int},
  pI fu d p o b h i j k c l m q=some (.go r)->r.2.2.2.2.1=0->k=0
 | 0,_,_,_,_,_,_,_,_,_,_,z,_=>by cases z
 | o+1,_,_,_,_,_,_,_,_,_,_,z,e=>by
  rw [pI] at z;rcases jH z with ⟨_,z⟩|⟨_,z⟩
  · obtain ⟨_,_,z⟩:=bs z;rcases jH z with ⟨_,z⟩|⟨_,z⟩
    · obtain ⟨_,ha,z⟩:=bs z;exact (tY (by decide) ha).1.e (acw o z e)
    · exact acw o z e
  · cases z;exact e
theorem adJ {B:kg}:∀ (x:List ByteArray){w:Nat}{a:List kg}{b c d:Int}{e:List kN}{f:List (List gP)}{h:List jT}{i:List Int}{r:List kg × Int × Int × Int × List kN × List (List gP) × List jT × List Int},
  pq fu B x w a b c d e f h i=some (.go r)->r.2.2.2.1=0->d=0
 | [],_,_,_,_,_,_,_,_,_,_,z,y=>by cases z;exact y
 | x :: xs,_,_,_,_,_,_,_,_,_,_,z,y=>by
  rw [pq] at z;obtain ⟨v,hv,z⟩:=bs z;cases v with
  | out o=>cases z
  | go s=>
   obtain ⟨a1,a2,a3,a4,a5,a6,a7,a8,a9⟩:=s;replace z:=gi z;simp only [pl] at z;exact aaS _ hv (adJ xs z y)
theorem ac2 {R:fV}:∀ (x:List kg){w:Nat}{a:List kg}{b c d:Int}{e:List kN}{f:List (List gP)}{h:List jT}{i:List Int}{r:List kg × Int × Int × Int × List kN × List (List gP) × List jT × List Int},
  pE fu R x w a b c d e f h i=some (.go r)->r.2.2.2.1=0->d=0/\∀ u ∈ x,u.a.length<=4
 | [],_,_,_,_,_,_,_,_,_,_,z,y=>by cases z;exact ⟨y,fun u hu=>by cases hu⟩
 | x :: xs,_,_,_,_,d,_,_,_,_,_,z,y=>by
  rw [pE] at z;obtain ⟨v,hv,z⟩:=bs z;cases v with
  | out o=>cases z
  | go s=>
   obtain ⟨a1,a2,a3,a4,a5,a6,a7,a8⟩:=s;replace z:=gi z;simp only [pl] at z;obtain ⟨v,hv3,z⟩:=bs z;cases v with
   | out o=>cases z
   | go s=>
    obtain ⟨b1,b2,b3,b4,b5,b6,b7,b8,b9⟩:=s;replace z:=gi z;simp only [pl] at z;obtain ⟨v,hv4,z⟩:=bs z;cases v with
    | out o=>cases z
    | go s=>
     obtain ⟨c1,c2,c3,c4,c5,c6,c7,c8⟩:=s;replace z:=gi z;simp only [pl] at z;obtain ⟨k1,k2⟩:=ac2 xs z y;have k3:=abp _ hv3 (adJ _ hv4 k1);unfold vR at hv;obtain ⟨v,hj,hv⟩:=bs hv;cases v with
     | out o=>cases hv
     | go q=>
      replace hv:=gi hv;rcases jH hv with ⟨_,hv⟩|⟨c,hv⟩
      · obtain ⟨_,ha,hv⟩:=bs hv;cases hv;exact absurd k3 (tY (by decide) ha).2
      · cases hv;refine ⟨k3,fun u hu=>?_⟩;rcases oM.1 hu with rfl | hu
        · unfold vJ at hj;rcases jH hj with ⟨_,hj⟩|⟨_,hj⟩
          · cases hj;exact absurd rfl c
          · cases hj;have:¬ (4:Int) < (u.a.length:Int):=fun z=>c (IX z);omega
        · exact k2 u hu
theorem ac9 {k:List kN}:∀ (o:Nat){a:Int}{c:List kg}{d e f:Int}{b:List kN}{h:List (List gP)}{i:List jT}{j:List Int}{r:Int × List kg × Int × Int × Int × List kN × List (List gP) × List jT × List Int},
  qD fu k o a c d e f b h i j=some (.go r)->r.2.2.2.2.1=0->f=0
 | 0,_,_,_,_,_,_,_,_,_,_,z,_=>by cases z
 | o+1,_,_,_,_,_,_,_,_,_,_,z,y=>by
  rw [qD] at z;rcases jH z with ⟨_,z⟩|⟨_,z⟩
  · obtain ⟨_,_,z⟩:=bs z;obtain ⟨v,hv,z⟩:=bs z;cases v with
    | out o=>cases z
    | go s=>
     obtain ⟨a1,a2,a3,a4,a5,a6,a7,a8⟩:=s;replace z:=gi z;simp only [pl] at z;obtain ⟨v,hv3,z⟩:=bs z;cases v with
     | out o=>cases z
     | go s=>
      obtain ⟨b1,b2,b3,b4,b5,b6,b7,b8,b9⟩:=s;replace z:=gi z;simp only [pl] at z;have k3:=acw _ hv3 (ac9 o z y);unfold wh at hv;rcases jH hv with ⟨_,hv⟩|⟨c,hv⟩
      · obtain ⟨_,ha,hv⟩:=bs hv;cases hv;exact absurd k3 (tY (by decide) ha).2
      · cases hv;exact k3
  · cases z;exact y
theorem YZ (hf:5002<=fu){S S':fV}(h1:S.a.a.a.length<=5000)(h2:∀ u ∈ S.a.a.a,u.a.length<=5000)(h3:S.a.a.b.length<=5000)(h:vI fu S=some S')(e:S'.e=0):∀ u ∈ S.a.a.a,u.a.length<=4:=by
 unfold vI at h;obtain ⟨v,hv,h⟩:=bs h;have k0:=(Gq (O:=fun _=>False) hf h1 _ 0 S (by omega) h2 .rfl').of' hv;cases v with
 | out o=>exact k0.elim
 | go s=>
  obtain ⟨a1,a2,a3,a4,a5,a6,a7,a8⟩:=s;replace k0:Ew S ⟨⟨⟨a1,a5⟩,a6,a7⟩,a2,a8,a3,a4⟩:=k0;replace h:=gi h;simp only [pl] at h;obtain ⟨v,hv2,h⟩:=bs h;have hfs:a5=S.a.a.b:=congrArg (fun z=>z.a.b) k0.out;cases v with
  | out o=>
   subst hfs;exact ((Gy (O:=fun _=>False) hf h3 fu 0 ⟨⟨⟨a1,_⟩,a6,a7⟩,a2,a8,a3,a4⟩ (vk _) (by omega) (by omega) k0).of' hv2).elim
  | go s=>
   obtain ⟨b1,b2,b3,b4,b5,b6,b7,b8,b9⟩:=s;replace h:=gi h;simp only [pl] at h;cases h;exact (ac2 _ hv (ac9 _ hv2 e)).2
end
end Go.Proofs.YtdkneekpdecjbaaGreat
