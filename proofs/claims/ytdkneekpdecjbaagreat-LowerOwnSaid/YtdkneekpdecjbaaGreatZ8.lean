/- Contracts, printed by gen3.py. -/
import Derived.Test.YtdkneekpdecjbaaGreatZ5
import Derived.Test.YtdkneekpdecjbaaGreatLa
import Derived.Test.YtdkneekpdecjbaaGreatZ6
set_option linter.unusedVariables false
set_option maxHeartbeats 12800000
set_option linter.unusedSimpArgs false
set_option maxRecDepth 4000
namespace Go.Proofs.YtdkneekpdecjbaaGreat
open Go.RowKit Go.Fw Go.Proofs.Tryz
noncomputable section
def LH (m:pR->pR->Option Bool):Prop:=∀ {c e}{a b:pR}{d},Pre c e [] []->m a b=some d-> Calls prog 32 #[.agg #[V a.b,V a.e,V a.A,V a.B,V a.N,V a.d,V a.f,V a.c,V a.a.b,V a.a.a,V a.a.c],.agg #[V b.b,V b.e,V b.A,V b.B,V b.N,V b.d,V b.f,V b.c,V b.a.b,V b.a.a,V b.a.c]] c (tN fun v w=>v=.bool d/\Bx c w e (mV []) [] [])
def wh (fu:Nat)(a b:pR):Option Bool:=if a.d≠b.d then some (decide (a.d < b.d)) else if a.f≠b.f then some (decide (a.f < b.f)) else some (decide (a.c < b.c))
theorem FH (fu:Nat):LH (wh fu):=by
 intro j v b c l h d;unfold wh at d;have a:=h.bx;clear h;generalize m:mV _=G at a ⊢;refine cf func32 r (lH [(0,.agg #[V b.b,V b.e,V b.A,V b.B,V b.N,V b.d,V b.f,V b.c,V b.a.b,V b.a.a,V b.a.c]),(1,.agg #[V c.b,V c.e,V c.A,V c.B,V c.N,V c.d,V c.f,V c.c,V c.a.b,V c.a.a,V c.a.c])] ⟨r,r,y⟩ fun w=>q (g (tq a (uV r) fun o p a=>tq a (uV r) fun t u a=>s (kC r) (n (q (q (g (s (TJ r) (s (l3 r (a.bk 1 r) r) (s (TJ r) (s (l3 r (a.bk 0 r) r) (s (rP r r) (n ?_)))))))))))));rcases iv d with ⟨e,d⟩|⟨e,d⟩
 ·refine jK (bt e) (q (g (s (TJ r) (s (l3 r (a.bk 1 r) r) (s (TJ r) (s (l3 r (a.bk 0 r) r) (s (qP r r) (s (kC r) (n (lT ?_))))))))));obtain rfl:=sm d;exact jL r (nD r) ⟨r,a.arr [] r⟩
 refine jD (bf e) (wk (q (q (g (s (Ti r) (s (l3 r (a.bk 1 r) r) (s (Ti r) (s (l3 r (a.bk 0 r) r) (s (rP r r) (n ?_))))))))));rcases iv d with ⟨f,d⟩|⟨f,d⟩
 ·refine jK (bt f) (q (g (s (Ti r) (s (l3 r (a.bk 1 r) r) (s (Ti r) (s (l3 r (a.bk 0 r) r) (s (qP r r) (s (kC r) (n (lT ?_))))))))));obtain rfl:=sm d;exact jL r (nD r) ⟨r,a.arr [] r⟩
 refine jD (bf f) (wk (q (g (s (Ze r) (s (l3 r (a.bk 1 r) r) (s (Ze r) (s (l3 r (a.bk 0 r) r) (s (qP r r) (s (kC r) (n (lT ?_)))))))))));obtain rfl:=sm d;exact jL r (nD r) ⟨r,a.arr [] r⟩
def KF (m:(List pR)->Option (List pR)):Prop:=∀ {e i f a b h},Pre e i [] [.l a b f]->m f=some h-> Calls prog 17 #[Z a f b] e (tN fun v w=>∃ (c:OA)(d:Nat),v=Z c h d/\Bx e w i (mV []) [] [.l c d h])
def rz (fu:Nat)(b:List pR)(d:pR):Nat→Int→Option (Ld (Int) ((List pR)))
 | 0,_=>none
 | e+1,a=>
 if a < (b.length:Int) then
  (ix b a).bind fun f=>
  (wh fu f d).bind fun c=>
  if c=true then
   rz fu b d e (wr (a+1))
  else
   some (.go a)
 else
  some (.go a)
def zG (fu:Nat)(a:List pR)(c:Int)(b:Bool)(d:List pR):Option (Ld (List pR) (List pR)):=if (!b)=true then (sl a (wr (c+1)) (a.length:Int)).bind fun e=>some (.go e) else some (.go d)
def lQ (fu:Nat):List pR→Nat→(List pR)→Option (Ld (List pR) ((List pR)))
 | [],_,a=>some (.go a)
 | e :: f,h,a=>
 if e.b≠21 then
  lQ fu f (h+1) a
 else
  (rz fu a e fu 0).bind fun z=>z.el (fun b=>
  if b < (a.length:Int) then
   (ix a b).bind fun i=>
   (wh fu e i).bind fun c=>
   (sl a b (a.length:Int)).bind fun j=>
   (zG fu a b c j).bind fun z=>z.el (fun d=>
   (sl a 0 b).bind fun k=>
   (app ([]:List pR) k).bind fun l=>
   (app l ([e]:List pR)).bind fun m=>
   (app m d).bind fun p=>
   lQ fu f (h+1) p
   ) (fun o=>some (.out o))
  else
   (sl a b (a.length:Int)).bind fun t=>
   (sl a 0 b).bind fun u=>
   (app ([]:List pR) u).bind fun v=>
   (app v ([e]:List pR)).bind fun w=>
   (app w t).bind fun x=>
   lQ fu f (h+1) x
  ) (fun o=>some (.out o))
def wX (fu:Nat)(b:(List pR)):Option (List pR):=(lQ fu b 0 ([]:List pR)).bind fun c=>c.el (fun a=>some a) (fun o=>some o)
theorem Kw (fu:Nat):KF (wX fu):=by
 intro w0 cQ x o p r0 hP hM;unfold wX at hM;have a:=hP.bx;clear hP;generalize hG:mV _=G at a ⊢;refine cf func17 r (lH [(0,Z o x p)] ⟨r,y⟩ fun cR=>q (g (s (nK r) (n (q (g ?_))))));replace a:=a.jX (d:=.l none 0 ([]:List pR)) oK;refine s (nK r) (n (q (q (g (s (nY r) (s (mO uP r) (s (mi r) (n ?_))))))));have c7:=(a.dl 1 r).bd;obtain ⟨Y2,k,hM⟩:=bs hM;refine qM (fun f w=>∃ m c e,Has f [(3,Z c m e)]/\Bx w0 w cQ G [] [.l c e m,.l o p x]/\Ld.go m=Y2) (fun J2 bE=>?_) ?_
 ·refine pW (kG (fun cS f w=>∃ K m c e,cS=x.length - K/\K<=x.length/\Has f [(11,V (K:Int)),(3,Z c m e),(9,Z o x p),(10,V (x.length:Int))]/\Bx w0 w cQ G [] [.l c e m,.l o p x]/\lQ fu (x.drop K) K m=some Y2) x.length ⟨0,([]:List pR),none,0,r,uW _,⟨r,r,r,r,y⟩,a,k⟩ ?_);clear a k;rintro cS f w ⟨K,m,c,e,rfl,c8,hf,a,k⟩ K2 ay;obtain ⟨cR,rfl⟩:=kZ _ _ hf;clear hf;rcases wU K x.length with aR | aR
  ·obtain ⟨b,az⟩:=mI (l:=x) aR;rw [l5 az,lQ] at k;refine q (g (s (sW r r (by omega)) (n (q (jK r (wk (q (pW (q (g (s (lg uP sD r r r (a.dl 1 r) az) (s (Q0 [V b.b,V b.e,V b.A,V b.B,V b.N,V b.d,V b.f,V b.c,V b.a.b,V b.a.a,V b.a.c] Qn sD r (a.dl 1 r) az) (tq a (jP sD) fun w3 b3 a=>kY (mM a 0 [V b.b,V b.e,V b.A,V b.B,V b.N,V b.d,V b.f,V b.c,V b.a.b,V b.a.a,V b.a.c] r sD r r) fun w4 a=>n (q (q (g (s (Tc r) (s (l3 r (a.bk 0 r) r) (s (rP r r) (n ?_))))))))))))))))))));rcases iv k with ⟨h5,k⟩|⟨h5,k⟩
   ·exact jK (bt h5) (uL (g (s (mE r r (by omega) (by omega)) (s (mi r) (n (ay (x.length - (K+1)) _ _ (by omega) ⟨K+1,m,c,e,r,by omega,⟨r,r,r,r,y⟩,a.arr [] r,k⟩))))))
   refine jD (bf h5) (wk (q (g (s (xi r) (n (q ?_))))));obtain ⟨Y6,u,k⟩:=bs k;refine qM (fun f w=>∃ v,Has f [(3,Z c m e),(5,Pt b3),(6,V v),(9,Z o x p),(10,V (x.length:Int)),(11,V (K:Int))]/\Bx w0 w cQ G [.box b3 73 #[V b.b,V b.e,V b.A,V b.B,V b.N,V b.d,V b.f,V b.c,V b.a.b,V b.a.a,V b.a.c]] [.l c e m,.l o p x]/\Ld.go v=Y6) (fun J6 aS=>?_) ?_
   ·refine pW (kG (fun cS f w=>∃ v,Has f [(3,Z c m e),(5,Pt b3),(6,V v),(9,Z o x p),(10,V (x.length:Int)),(11,V (K:Int))]/\Bx w0 w cQ G [.box b3 73 #[V b.b,V b.e,V b.A,V b.B,V b.N,V b.d,V b.f,V b.c,V b.a.b,V b.a.a,V b.a.c]] [.l c e m,.l o p x]/\rz fu m b cS v=some Y6) fu ⟨0,⟨r,r,r,r,r,r,y⟩,a,u⟩ ?_);clear a u;rintro n6 f w ⟨v,hf,a,u⟩ K6 bH;obtain ⟨cR,rfl⟩:=kZ _ _ hf;clear hf;cases n6 with
    | zero=>exact nn u
    | succ n6=>
     rw [rz] at u;refine q (q (qp a [0] [0] [] (by kernel_rfl) ?_));replace a:=a.drew;have j:=a.dp [0];refine pF 0 r (mi r) j (pF 1 r (nY r) j (pF 2 r (mO uP r) j (pF 3 r (qP r r) j (pF 4 r (lD r) j ?_))));rcases iv u with ⟨h7,u⟩|⟨h7,u⟩
     ·rw [Gd h7];have j:=a.dp [0];refine pF 5 r (nY r) j (pF 6 r (mi r) j ?_);obtain ⟨E,ab,u⟩:=bs u;obtain ⟨k8,bJ,ab⟩:=kW ab;refine pF 7 r (lg uP sD r r bJ (a.dl 0 r) ab) j (uF 8 r (fun hS=>Q0 [V E.b,V E.e,V E.A,V E.B,V E.N,V E.d,V E.f,V E.c,V E.a.b,V E.a.a,V E.a.c] Qn sD r (hS.dl 0 r) ab) j (uF 9 r (fun hS=>lu [V b.b,V b.e,V b.A,V b.B,V b.N,V b.d,V b.f,V b.c,V b.a.b,V b.a.a,V b.a.c] Qn sD r (hS.bk 0 r)) j ?_));obtain ⟨c1,h9,u⟩:=bs u;refine hO 10 (oc r r (ec Zr r) (FH fu (a.pr [] [0] [] r) h9) ?_);rintro _ w9 ⟨rfl,hK⟩;replace a:=a.cn [] [0] hK;have j:=a.dp [0];refine ⟨sF j,pF 11 r (kR r r) j (hD ?_)⟩;rcases iv u with ⟨a0,u⟩|⟨a0,u⟩
      ·exact jK (cb a0) (wk (pW (g (s (mi r) (s (kL r r) (s (xi r) (n (bH n6 _ _ (D9 _) ⟨wr (v+1),⟨r,r,r,r,r,r,y⟩,a,u⟩))))))))
      replace a0:=nt a0;exact jD (cb a0) (uL (aS _ _ ⟨v,⟨r,r,r,r,r,r,y⟩,a,sm u⟩))
     rw [Ga h7];have j:=a.dp [0];exact pU 5 r (by kernel_rfl) r (sF j) (pU 6 r (by kernel_rfl) r (sF j) (pU 7 r (by kernel_rfl) r (sF j) (pU 8 r (by kernel_rfl) r (sF j) (pU 9 r (by kernel_rfl) r (sF j) (pU 10 r (by kernel_rfl) r (sF j) (pF 11 r (kH r r) j (hD (jD r (uL (aS _ _ ⟨v,⟨r,r,r,r,r,r,y⟩,a,sm u⟩))))))))))
   clear a;rintro f w ⟨v,hf,a,bM⟩;obtain ⟨cR,rfl⟩:=kZ _ _ hf;clear hf;subst bM;replace k:=gi k;refine q (qp a [0] [0] [] (by kernel_rfl) ?_);replace a:=a.drew;have j:=a.dp [0];refine pF 0 r (mi r) j (pF 1 r (nY r) j (pF 2 r (mO uP r) j (pF 3 r (qP r r) j (pF 4 r (lD r) j ?_))));rcases iv k with ⟨aA,k⟩|⟨aA,k⟩
   ·rw [Gd aA];have j:=a.dp [0];refine uF 5 r (fun hS=>lu [V b.b,V b.e,V b.A,V b.B,V b.N,V b.d,V b.f,V b.c,V b.a.b,V b.a.a,V b.a.c] Qn sD r (hS.bk 0 r)) j (pF 6 r (nY r) j (pF 7 r (mi r) j ?_));obtain ⟨t,Y,k⟩:=bs k;obtain ⟨cc,aT,Y⟩:=kW Y;refine pF 8 r (lg uP sD r r aT (a.dl 0 r) Y) j (uF 9 r (fun hS=>Q0 [V t.b,V t.e,V t.A,V t.B,V t.N,V t.d,V t.f,V t.c,V t.a.b,V t.a.a,V t.a.c] Qn sD r (hS.dl 0 r) Y) j ?_);obtain ⟨bN,bO,k⟩:=bs k;refine hO 10 (oc r r (ec Zr r) (FH fu (a.pr [] [0] [] r) bO) ?_);rintro _ cd ⟨rfl,hK⟩;replace a:=a.cn [] [0] hK;have j:=a.dp [0];refine ⟨sF j,pF 11 r (Ee r) j (pF 12 r (kR r r) j (pF 13 r (kC r) j (hD (q (g (s (nY r) (s (mi r) ?_)))))))⟩;obtain ⟨a1,aU,k⟩:=bs k;obtain ⟨L,bP,aV,c2,aB,aW,ai⟩:=yO aU;have aC:a1.length=bP - L:=by rw [<-ai,vT,Ck];omega
    obtain ⟨ac,aj⟩:∃ A,(if e=L then c else c.map (·.add (L * sz pR)))=A:=⟨_,rfl⟩;obtain ⟨ae,ak⟩:∃ C,(e - L)=C:=⟨_,rfl⟩;replace a:=a.jX (d:=.l ac ae a1) (by have cT:=(a.dl 0 r).part aB aW;rw [ai,aj,ak] at cT;exact cT);have aX:Value.slice (if e=L then c else c.map (·.add (L * sz pR))) (m.length - L) (e - L)=Value.slice ac a1.length ae:=by rw [aC,<-aj,<-ak];simp;try omega
    refine s (show Yl _ _ _ _ _ _ _ _ _ (.slice ac a1.length ae) from aX ▸ Td L uP sD r r aV (by omega)) (s (nK r) (n (q ?_)));obtain ⟨bQ,D,k⟩:=bs k;refine qM (fun f w=>∃ M Q R,Has f [(3,Z c m e),(5,Pt b3),(6,V v),(8,Z Q M R),(9,Z o x p),(10,V (x.length:Int)),(11,V (K:Int))]/\Bx w0 w cQ G [.box b3 73 #[V b.b,V b.e,V b.A,V b.B,V b.N,V b.d,V b.f,V b.c,V b.a.b,V b.a.a,V b.a.c]] [.l Q R M,.l c e m,.l o p x]/\Ld.go M=bQ) (fun ce al=>?_) ?_
    ·unfold zG at D;refine q (g (s (lD r) (n ?_)));rcases iv D with ⟨a2,D⟩|⟨a2,D⟩
     ·refine jK (cb a2) (g (s (nY r) (s (mi r) (s (kL r r) ?_))));obtain ⟨a3,aY,D⟩:=bs D;obtain ⟨S,bR,aZ,c3,aD,b0,am⟩:=yO aY;have aE:a3.length=bR - S:=by rw [<-am,vT,Ck];omega
      obtain ⟨af,an⟩:∃ A,(if e=S then c else c.map (·.add (S * sz pR)))=A:=⟨_,rfl⟩;obtain ⟨ag,ao⟩:∃ C,(e - S)=C:=⟨_,rfl⟩;replace a:=a.jX (d:=.l af ag a3) (by have cT:=(a.dl 1 r).part aD b0;rw [am,an,ao] at cT;exact cT);have b1:Value.slice (if e=S then c else c.map (·.add (S * sz pR))) (m.length - S) (e - S)=Value.slice af a3.length ag:=by rw [aE,<-an,<-ao];simp;try omega
      exact s (show Yl _ _ _ _ _ _ _ _ _ (.slice af a3.length ag) from b1 ▸ Td S uP sD r r aZ (by omega)) (s (nK r) (n (al _ _ ⟨a3,af,ag,⟨r,r,r,r,r,r,r,y⟩,a.dp [0,2,3],sm D⟩)))
     replace a2:=nt a2;exact jD (cb a2) (wk (al _ _ ⟨a1,ac,ae,⟨r,r,r,r,r,r,r,y⟩,a,sm D⟩))
    clear a;rintro f w ⟨M,Q,R,hf,a,b2⟩;obtain ⟨cR,rfl⟩:=kZ _ _ hf;clear hf;subst b2;replace k:=gi k;obtain ⟨aF,b4,k⟩:=bs k;obtain ⟨bS,b5,c4,b6,bT,ap,aq⟩:=yO b4;obtain rfl:bS=0:=by omega
    have aG:aF.length=b5:=by rw [<-aq,vT,Ck];omega
    obtain ⟨cg,a4,k⟩:=bs k;obtain ⟨ch,a5,k⟩:=bs k;obtain ⟨aH,a6,k⟩:=bs k;refine qM (fun f w=>∃ F H U,Has f [(3,Z F aH H),(9,Z o x p),(10,V (x.length:Int)),(11,V (K:Int))]/\Bx w0 w cQ G [O w0.heap.size F H 73 pR U] [.l o p x,.els U aH]) (fun Jd hJd=>?_) ?_
    ·refine qp a [0] [] [] (by kernel_rfl) ?_;replace a:=a.drew;have j:=a.dp [];refine pF 1 r (nY r) j (pF 2 r (mi r) j ?_);replace a:=a.jX (d:=.l c e aF) (by have cT:=(a.dl 1 r).head ap;rw [aq] at cT;exact cT);refine tP 3 r (fun _=>show Yl _ _ _ _ _ _ _ _ _ (.slice c aF.length e) from (congrArg (fun z=>Value.slice c z e) aG).symm ▸ xS b5 uP sD r r b6 (rT ap (a.dl 2 r).cap)) (sF j) (uF 5 r (fun hS=>lu [.int .i64 b.b,.int .i64 b.e,.int .i64 b.A,.int .i64 b.B,.int .i64 b.N,.int .i64 b.d,.int .i64 b.f,.int .i64 b.c,.int .i64 b.a.b,.int .i64 b.a.a,.int .i64 b.a.c] Qn sD r (hS.bk 0 r)) j (pF 8 r (nY r) j (mP 0 [6] (by kernel_rfl) (jH ?_ (jH ?_ lU)))))
     ·refine oo r r (jJ a [] ([]:List pR) GJ r r (by decide) y) ?_;rintro _ ci ⟨cj,rfl,a⟩;have j:=a.ad [1] [];refine ⟨sF j,mP 4 [6] (by kernel_rfl) (jH ?_ (jH ?_ lU))⟩
      ·refine oo r r (ko a 0 0 r r uP sD r (by decide) (by decide) (ng _) r r (a.QG 1 r) a4) ?_;rintro _ b7 ⟨b8,b9,ba,rfl,a⟩;have j:=a.ad [1] [];refine ⟨sF j,hO 6 (oo r r (jJ a [[V b.b,V b.e,V b.A,V b.B,V b.N,V b.d,V b.f,V b.c,V b.a.b,V b.a.a,V b.a.c]] ([b]:List pR) (Dk r) r r (by decide) ⟨r,y⟩) ?_)⟩;rintro _ ck ⟨cm,rfl,a⟩;have j:=a.ad [2] [];refine ⟨sF j,hO 7 (oo r r (ko a 1 1 r r uP sD r (by decide) (by decide) (ng _) r r (a.Bc 0 0 r r) a5) ?_)⟩;rintro _ bb ⟨bc,bg,bh,rfl,a⟩;have j:=a.ad [2] [];refine ⟨sF j,hO 9 (oo r r (ko a 1 1 r r uP sD r (by decide) (by decide) (ng _) r r (a.QG 3 r) a6) ?_)⟩;rintro _ bi ⟨F,H,U,rfl,a⟩;have j:=a.ad [2] [];exact ⟨sF j,pF 10 r (nK r) j (hD (hJd _ _ ⟨F,H,U,⟨r,r,r,r,y⟩,a.ad [1] [5,1]⟩))⟩
      refine oo r r (jJ a [[V b.b,V b.e,V b.A,V b.B,V b.N,V b.d,V b.f,V b.c,V b.a.b,V b.a.a,V b.a.c]] ([b]:List pR) (Dk r) r r (by decide) ⟨r,y⟩) ?_;rintro _ cn ⟨co,rfl,a⟩;have j:=a.ad [2] [];refine ⟨sF j,hO 4 (oo r r (ko a 1 1 r r uP sD r (by decide) (by decide) (ng _) r r (a.QG 2 r) a4) ?_)⟩;rintro _ b7 ⟨b8,b9,ba,rfl,a⟩;have j:=a.ad [2] [];refine ⟨sF j,hO 7 (oo r r (ko a 1 1 r r uP sD r (by decide) (by decide) (ng _) r r (a.Bc 0 0 r r) a5) ?_)⟩;rintro _ bb ⟨bc,bg,bh,rfl,a⟩;have j:=a.ad [2] [];refine ⟨sF j,hO 9 (oo r r (ko a 1 1 r r uP sD r (by decide) (by decide) (ng _) r r (a.QG 3 r) a6) ?_)⟩;rintro _ bi ⟨F,H,U,rfl,a⟩;have j:=a.ad [2] [];exact ⟨sF j,pF 10 r (nK r) j (hD (hJd _ _ ⟨F,H,U,⟨r,r,r,r,y⟩,a.ad [1] [5,1]⟩))⟩
     refine oo r r (jJ a [[V b.b,V b.e,V b.A,V b.B,V b.N,V b.d,V b.f,V b.c,V b.a.b,V b.a.a,V b.a.c]] ([b]:List pR) (Dk r) r r (by decide) ⟨r,y⟩) ?_;rintro _ cp ⟨cq,rfl,a⟩;have j:=a.ad [1] [];refine ⟨sF j,hO 0 (oo r r (jJ a [] ([]:List pR) GJ r r (by decide) y) ?_)⟩;rintro _ cr ⟨ct,rfl,a⟩;have j:=a.ad [2] [];refine ⟨sF j,hO 4 (oo r r (ko a 0 0 r r uP sD r (by decide) (by decide) (ng _) r r (a.QG 2 r) a4) ?_)⟩;rintro _ b7 ⟨b8,b9,ba,rfl,a⟩;have j:=a.ad [2] [];refine ⟨sF j,hO 7 (oo r r (ko a 0 0 r r uP sD r (by decide) (by decide) (ng _) r r (a.Bc 1 1 r r) a5) ?_)⟩;rintro _ bb ⟨bc,bg,bh,rfl,a⟩;have j:=a.ad [2] [];refine ⟨sF j,hO 9 (oo r r (ko a 0 0 r r uP sD r (by decide) (by decide) (ng _) r r (a.QG 3 r) a6) ?_)⟩;rintro _ bi ⟨F,H,U,rfl,a⟩;have j:=a.ad [2] [];exact ⟨sF j,pF 10 r (nK r) j (hD (hJd _ _ ⟨F,H,U,⟨r,r,r,r,y⟩,a.ad [0] [5,0]⟩))⟩
    clear a;rintro f w ⟨F,H,U,hf,a⟩;obtain ⟨cR,rfl⟩:=kZ _ _ hf;clear hf;refine g (s (mE r r (by omega) (by omega)) (s (mi r) (n ?_)));replace a:=a.fz 0 1 r r;exact ay (x.length - (K+1)) _ _ (by omega) ⟨K+1,aH,F,H,r,by omega,⟨r,r,r,r,y⟩,a,k⟩
   rw [Ga aA];have j:=a.dp [0];refine pU 5 r (by kernel_rfl) r (sF j) (pU 6 r (by kernel_rfl) r (sF j) (pU 7 r (by kernel_rfl) r (sF j) (pU 8 r (by kernel_rfl) r (sF j) (pU 9 r (by kernel_rfl) r (sF j) (pU 10 r (by kernel_rfl) r (sF j) (pU 11 r (by kernel_rfl) r (sF j) (pF 12 r (kH r r) j (pF 13 r (kC r) j (hD (q (g (s (nY r) (s (mi r) ?_)))))))))))));obtain ⟨ah,bj,k⟩:=bs k;obtain ⟨W,bU,bl,c5,aI,bm,ar⟩:=yO bj;have aJ:ah.length=bU - W:=by rw [<-ar,vT,Ck];omega
   obtain ⟨aK,au⟩:∃ A,(if e=W then c else c.map (·.add (W * sz pR)))=A:=⟨_,rfl⟩;obtain ⟨aL,av⟩:∃ C,(e - W)=C:=⟨_,rfl⟩;replace a:=a.jX (d:=.l aK aL ah) (by have cT:=(a.dl 0 r).part aI bm;rw [ar,au,av] at cT;exact cT);have bn:Value.slice (if e=W then c else c.map (·.add (W * sz pR))) (m.length - W) (e - W)=Value.slice aK ah.length aL:=by rw [aJ,<-au,<-av];simp;try omega
   refine s (show Yl _ _ _ _ _ _ _ _ _ (.slice aK ah.length aL) from bn ▸ Td W uP sD r r bl (by omega)) (s (nK r) (n (q (q (g (s (lD r) (n (jD r (wk ?_)))))))));obtain ⟨aM,bo,k⟩:=bs k;obtain ⟨bV,bp,c6,bq,bW,aw,ax⟩:=yO bo;obtain rfl:bV=0:=by omega
   have aN:aM.length=bp:=by rw [<-ax,vT,Ck];omega
   obtain ⟨cu,a7,k⟩:=bs k;obtain ⟨cv,a8,k⟩:=bs k;obtain ⟨aO,a9,k⟩:=bs k;refine qM (fun f w=>∃ I J X,Has f [(3,Z I aO J),(9,Z o x p),(10,V (x.length:Int)),(11,V (K:Int))]/\Bx w0 w cQ G [O w0.heap.size I J 73 pR X] [.l o p x,.els X aO]) (fun Jd hJd=>?_) ?_
   ·refine qp a [0] [] [] (by kernel_rfl) ?_;replace a:=a.drew;have j:=a.dp [];refine pF 1 r (nY r) j (pF 2 r (mi r) j ?_);replace a:=a.jX (d:=.l c e aM) (by have cT:=(a.dl 1 r).head aw;rw [ax] at cT;exact cT);refine tP 3 r (fun _=>show Yl _ _ _ _ _ _ _ _ _ (.slice c aM.length e) from (congrArg (fun z=>Value.slice c z e) aN).symm ▸ xS bp uP sD r r bq (rT aw (a.dl 2 r).cap)) (sF j) (uF 5 r (fun hS=>lu [.int .i64 b.b,.int .i64 b.e,.int .i64 b.A,.int .i64 b.B,.int .i64 b.N,.int .i64 b.d,.int .i64 b.f,.int .i64 b.c,.int .i64 b.a.b,.int .i64 b.a.a,.int .i64 b.a.c] Qn sD r (hS.bk 0 r)) j (pF 8 r (nY r) j (mP 0 [6] (by kernel_rfl) (jH ?_ (jH ?_ lU)))))
    ·refine oo r r (jJ a [] ([]:List pR) GJ r r (by decide) y) ?_;rintro _ cw ⟨cx,rfl,a⟩;have j:=a.ad [1] [];refine ⟨sF j,mP 4 [6] (by kernel_rfl) (jH ?_ (jH ?_ lU))⟩
     ·refine oo r r (ko a 0 0 r r uP sD r (by decide) (by decide) (ng _) r r (a.QG 1 r) a7) ?_;rintro _ br ⟨bu,bv,bw,rfl,a⟩;have j:=a.ad [1] [];refine ⟨sF j,hO 6 (oo r r (jJ a [[V b.b,V b.e,V b.A,V b.B,V b.N,V b.d,V b.f,V b.c,V b.a.b,V b.a.a,V b.a.c]] ([b]:List pR) (Dk r) r r (by decide) ⟨r,y⟩) ?_)⟩;rintro _ cy ⟨cz,rfl,a⟩;have j:=a.ad [2] [];refine ⟨sF j,hO 7 (oo r r (ko a 1 1 r r uP sD r (by decide) (by decide) (ng _) r r (a.Bc 0 0 r r) a8) ?_)⟩;rintro _ bz ⟨bA,bB,bC,rfl,a⟩;have j:=a.ad [2] [];refine ⟨sF j,hO 9 (oo r r (ko a 1 1 r r uP sD r (by decide) (by decide) (ng _) r r (a.QG 3 r) a9) ?_)⟩;rintro _ bD ⟨I,J,X,rfl,a⟩;have j:=a.ad [2] [];exact ⟨sF j,pF 10 r (nK r) j (hD (hJd _ _ ⟨I,J,X,⟨r,r,r,r,y⟩,a.ad [1] [5,1]⟩))⟩
     refine oo r r (jJ a [[V b.b,V b.e,V b.A,V b.B,V b.N,V b.d,V b.f,V b.c,V b.a.b,V b.a.a,V b.a.c]] ([b]:List pR) (Dk r) r r (by decide) ⟨r,y⟩) ?_;rintro _ cA ⟨cB,rfl,a⟩;have j:=a.ad [2] [];refine ⟨sF j,hO 4 (oo r r (ko a 1 1 r r uP sD r (by decide) (by decide) (ng _) r r (a.QG 2 r) a7) ?_)⟩;rintro _ br ⟨bu,bv,bw,rfl,a⟩;have j:=a.ad [2] [];refine ⟨sF j,hO 7 (oo r r (ko a 1 1 r r uP sD r (by decide) (by decide) (ng _) r r (a.Bc 0 0 r r) a8) ?_)⟩;rintro _ bz ⟨bA,bB,bC,rfl,a⟩;have j:=a.ad [2] [];refine ⟨sF j,hO 9 (oo r r (ko a 1 1 r r uP sD r (by decide) (by decide) (ng _) r r (a.QG 3 r) a9) ?_)⟩;rintro _ bD ⟨I,J,X,rfl,a⟩;have j:=a.ad [2] [];exact ⟨sF j,pF 10 r (nK r) j (hD (hJd _ _ ⟨I,J,X,⟨r,r,r,r,y⟩,a.ad [1] [5,1]⟩))⟩
    refine oo r r (jJ a [[V b.b,V b.e,V b.A,V b.B,V b.N,V b.d,V b.f,V b.c,V b.a.b,V b.a.a,V b.a.c]] ([b]:List pR) (Dk r) r r (by decide) ⟨r,y⟩) ?_;rintro _ cC ⟨cD,rfl,a⟩;have j:=a.ad [1] [];refine ⟨sF j,hO 0 (oo r r (jJ a [] ([]:List pR) GJ r r (by decide) y) ?_)⟩;rintro _ cE ⟨cF,rfl,a⟩;have j:=a.ad [2] [];refine ⟨sF j,hO 4 (oo r r (ko a 0 0 r r uP sD r (by decide) (by decide) (ng _) r r (a.QG 2 r) a7) ?_)⟩;rintro _ br ⟨bu,bv,bw,rfl,a⟩;have j:=a.ad [2] [];refine ⟨sF j,hO 7 (oo r r (ko a 0 0 r r uP sD r (by decide) (by decide) (ng _) r r (a.Bc 1 1 r r) a8) ?_)⟩;rintro _ bz ⟨bA,bB,bC,rfl,a⟩;have j:=a.ad [2] [];refine ⟨sF j,hO 9 (oo r r (ko a 0 0 r r uP sD r (by decide) (by decide) (ng _) r r (a.QG 3 r) a9) ?_)⟩;rintro _ bD ⟨I,J,X,rfl,a⟩;have j:=a.ad [2] [];exact ⟨sF j,pF 10 r (nK r) j (hD (hJd _ _ ⟨I,J,X,⟨r,r,r,r,y⟩,a.ad [0] [5,0]⟩))⟩
   clear a;rintro f w ⟨I,J,X,hf,a⟩;obtain ⟨cR,rfl⟩:=kZ _ _ hf;clear hf;refine g (s (mE r r (by omega) (by omega)) (s (mi r) (n ?_)));replace a:=a.fz 0 1 r r;exact ay (x.length - (K+1)) _ _ (by omega) ⟨K+1,aO,I,J,r,by omega,⟨r,r,r,r,y⟩,a,k⟩
  obtain rfl:K=x.length:=by omega
  rw [lV,lQ] at k;exact q (g (s (sZ r r (by omega)) (n (q (jD r (uL (bE _ _ ⟨m,c,e,⟨r,y⟩,a,sm k⟩)))))))
 clear a;rintro f w ⟨m,c,e,hf,a,bX⟩;obtain ⟨cR,rfl⟩:=kZ _ _ hf;clear hf;subst bX;replace hM:=gi hM;refine q (g (s (nY r) (s (nK r) (n (lT ?_)))));obtain rfl:=sm hM;exact jL r (nD r) ⟨c,e,r,a.dp [0]⟩
end
def kO (o:pR):Pc:=(o.f,o.c)
def kl (a b:pR):Prop:=a.f < b.f\/a.f=b.f/\a.c < b.c
theorem ML {fu:Nat}{a b:pR}(ha:a.d=0)(hb:b.d=0):∃ t:Bool,wh fu a b=some t/\(t=true ↔ kl a b):=by
 unfold wh kl;rw [lW (by rw [ha,hb];simp)];by_cases c:a.f≠b.f
 · rw [lX c];exact ⟨_,rfl,by rw [decide_eq_true_iff];omega⟩
 · rw [lW c];exact ⟨_,rfl,by rw [decide_eq_true_iff];omega⟩
theorem Ry {a b:pR}(h:kl a b):kO a≠kO b:=fun c=>by have h1:a.f=b.f:=congrArg Prod.fst c;have h2:a.c=b.c:=congrArg Prod.snd c;unfold kl at h;omega
theorem aap {a b:pR}(h:¬ kl a b)(k:¬ kl b a):kO a=kO b:=by unfold kl at h k;exact Prod.ext (by show a.f=b.f;omega) (by show a.c=b.c;omega)
theorem Zy {a b c:pR}(h:kl a b)(k:kl b c):kl a c:=by
 unfold kl at *
 omega
theorem aci {a b c:pR}(h:kO a=kO b):kl a c ↔ kl b c:=by have h1:a.f=b.f:=congrArg Prod.fst h;have h2:a.c=b.c:=congrArg Prod.snd h;unfold kl;rw [h1,h2]
structure Ya (pre out:List pR):Prop where
 so:out.Pairwise kl
 el:∀ o ∈ out,o.d=0/\q9 (FV pre) (kO o)=some o.a.a
 al:∀ p v,q9 (FV pre) p=some v->∃ o ∈ out,kO o=p
 ln:out.length<=pre.length
theorem Vd {fu:Nat}{out:List pR}{o:pR}(ho:o.d=0)(hc:∀ x ∈ out,x.d=0)(hl:out.length≤1000000):∀ (n k:Nat),k≤out.length→out.length < n+k→(∀ x ∈ out.take k,kl x o)→
  ∃ j:Nat,rz fu out o n k=some (.go (j:Int))/\j<=out.length/\(∀ x ∈ out.take j,kl x o)/\∀ x,out[j]?=some x->¬ kl x o
 | 0,k,h1,h2,_=>by omega
 | n+1,k,h1,h2,h3=>by
  rw [rz];by_cases c:(k:Int) < ((out.length:Nat):Int)
  · rw [lX c];obtain ⟨x,hx⟩:=mI (l:=out) (k:=k) (by omega);have hix:ix out (k:Int)=some x:=by unfold ix;rw [lW (by omega),Ii];exact hx
    obtain ⟨t,ht,htk⟩:=ML (fu:=fu) (hc x (xu hx)) ho;rw [hix,Option.bind_some,ht,Option.bind_some];by_cases d:t=true
    · rw [lX d,I6 (by omega) (by omega)];refine Vd ho hc hl n (k+1) (by omega) (by omega) fun y hy=>?_;rw [List.take_add_one,hx] at hy;rcases qN.1 hy with hy | hy
      · exact h3 y hy
      · obtain rfl:=List.mem_singleton.1 hy;exact htk.1 d
    · rw [lW d];exact ⟨k,rfl,h1,h3,fun y hy=>by rw [hx] at hy;cases hy;exact fun q=>d (htk.2 q)⟩
  · rw [lW c];exact ⟨k,rfl,h1,h3,fun y hy=>by have:=(List.getElem?_eq_some_iff.1 hy).1;omega⟩
theorem QT {α:Type}{l:List α}{k:Nat}(h:k<=l.length):sl l (k:Int) ((l.length:Nat):Int)=some (l.drop k):=by unfold sl;rw [lX ⟨by omega,by omega,by omega⟩,List.take_of_length_le (by rw [Ck];omega),Ii]
theorem Tt {α:Type}{l:List α}{k:Nat}(h:k<=l.length):sl l (0:Int) (k:Int)=some (l.take k):=by unfold sl;rw [lX ⟨by omega,by omega,by omega⟩];simp
theorem KL {α:Type}{a b:List α}(h:a.length+b.length<=1000000000):app a b=some (a ++ b):=by unfold app;rw [lX h]
theorem Ya.step {pre out:List pR}{o:pR}{j d:Nat}(h:Ya pre out)(hk:o.b=21)(ho:o.d=0)(hj:j<=out.length)(h1:∀ x ∈ out.take j,kl x o)(h2:∀ x ∈ out.drop d,kl o x)(hd:d=j\/d=j+1/\∃ x,out[j]?=some x/\kO x=kO o):Ya (pre ++ [o]) (out.take j ++ [o] ++ out.drop d):=by
 have hlat:FV (pre ++ [o])=Ay (FV pre) (kO o) o.a.a:=by rw [EZ,VY,lX hk];rfl
 have hm:∀ x ∈ out.take j ++ [o] ++ out.drop d,x=o\/x ∈ out/\kO x≠kO o:=fun x hx=>by
   rcases qN.1 hx with hx | hx
   · rcases qN.1 hx with hx | hx
     · exact .inr ⟨List.mem_of_mem_take hx,Ry (h1 x hx)⟩
     · exact .inl (List.mem_singleton.1 hx)
   · exact .inr ⟨List.mem_of_mem_drop hx,(Ry (h2 x hx)).symm⟩
 refine ⟨?_,fun x hx=>?_,fun p v hp=>?_,?_⟩
 · refine List.pairwise_append.2 ⟨List.pairwise_append.2 ⟨h.so.sublist (List.take_sublist ..),List.pairwise_singleton ..,fun a ha b hb=>?_⟩,h.so.sublist (List.drop_sublist ..),fun a ha b hb=>?_⟩
   · rw [List.mem_singleton.1 hb];exact h1 a ha
   · rcases qN.1 ha with ha | ha
     · exact Zy (h1 a ha) (h2 b hb)
     · rw [List.mem_singleton.1 ha];exact h2 b hb
 · rcases hm x hx with rfl | ⟨hx,hne⟩
   · exact ⟨ho,by rw [hlat,Dl,lX rfl]⟩
   · exact ⟨(h.el x hx).1,by rw [hlat,Dl,lW hne];exact (h.el x hx).2⟩
 · rw [hlat,Dl] at hp;by_cases c:p=kO o
   · exact ⟨o,by simp,c.symm⟩
   · rw [lW c] at hp;obtain ⟨x,hx,hxp⟩:=h.al p v hp;refine ⟨x,?_,hxp⟩;rw [<-List.take_append_drop j out] at hx;rcases qN.1 hx with hx | hx
     · simp [hx]
     · rcases hd with rfl | ⟨rfl,y,hy,hyo⟩
       · simp [hx]
       · rw [l5 hy] at hx;rcases qg.1 hx with rfl | hx
         · exact absurd (hxp.symm.trans hyo) c
         · simp [hx]
 · have:=h.ln;simp;rcases hd with rfl | ⟨rfl,_⟩ <;> omega
theorem ade {fu k:Nat}{pre out l:List pR}{o:pR}(h:Ya pre out)(hk:o.b=21)(ho:o.d=0)(hl:pre.length<=10000)(hf:10000 < fu):∃ r,Ya (pre ++ [o]) r/\lQ fu (o :: l) k out=lQ fu l (k+1) r:=by
 have hln:=h.ln;have hcx:∀ x ∈ out,x.d=0:=fun x hx=>(h.el x hx).1;obtain ⟨j,e1,hj,h1,h2⟩:=Vd (fu:=fu) ho hcx (by omega) fu 0 (uW _) (by omega) (by simp);rw [lQ,lW (by simp [hk]),show (0:Int)=((0:Nat):Int) from rfl,e1,Option.bind_some,Ld.el];have fin:∀ d,out.length<=10000->((sl out ((0:Nat):Int) (j:Int)).bind fun k1=>(app ([]:List pR) k1).bind fun l1=>(app l1 ([o]:List pR)).bind fun m1=>(app m1 (out.drop d)).bind fun p=>lQ fu l (k+1) p)=lQ fu l (k+1) (out.take j ++ [o] ++ out.drop d):=fun d hd=>by rw [show ((0:Nat):Int)=0 from rfl,Tt hj,Option.bind_some,KL (by simp;omega),Option.bind_some,E8,KL (by simp;omega),Option.bind_some,KL (by simp;omega),Option.bind_some]
 by_cases c2:(j:Int) < ((out.length:Nat):Int)
 · rw [lX c2];obtain ⟨y,hy⟩:=mI (l:=out) (k:=j) (by omega);have hix:ix out (j:Int)=some y:=by unfold ix;rw [lW (by omega),Ii];exact hy
   have hcy:=hcx y (xu hy);obtain ⟨t,ht,htk⟩:=ML (fu:=fu) ho hcy;have hso:(y :: out.drop (j+1)).Pairwise kl:=by rw [<-l5 hy];exact h.so.sublist (List.drop_sublist ..)
   have hyr:=(Dn.1 hso).1;rw [hix,Option.bind_some,ht,Option.bind_some,QT hj,Option.bind_some];unfold zG;cases t with
   | true=>
    have hoy:=htk.1 rfl;refine ⟨_,h.step (d:=j) hk ho hj h1 (fun x hx=>?_) (.inl rfl),fin j (by omega)⟩;rw [l5 hy] at hx;rcases qg.1 hx with rfl | hx
    · exact hoy
    · exact Zy hoy (hyr x hx)
   | false=>
    have hoy:¬ kl o y:=fun q=>by cases htk.2 q
    have he:=aap (h2 y hy) hoy;refine ⟨_,h.step (d:=j+1) hk ho hj h1 (fun x hx=>(aci he).1 (hyr x hx)) (.inr ⟨rfl,y,hy,he⟩),?_⟩;rw [lX (show (!false)=true from rfl),I6 (by omega) (by omega),show (j:Int)+1=((j+1:Nat):Int) from rfl,QT (by omega)];exact fin (j+1) (by omega)
 · rw [lW c2,QT hj,Option.bind_some];have hje:j=out.length:=by omega
   refine ⟨_,h.step (d:=j) hk ho hj h1 (fun x hx=>?_) (.inl rfl),fin j (by omega)⟩;rw [hje,List.drop_length] at hx;cases hx
theorem QX {fu:Nat}:∀ (l pre out:List pR)(k:Nat),Ya pre out→(∀ o ∈ l,o.b=21→o.d=0)→pre.length+l.length≤10000→10000 < fu→∃ r,lQ fu l k out=some (.go r)∧Ya (pre ++ l) r
 | [],pre,out,k,h,_,_,_=>⟨out,rfl,by rw [FU];exact h⟩
 | o :: l,pre,out,k,h,hc,hl,hf=>by
  simp only [uX] at hl;rw [show pre ++ o :: l=(pre ++ [o]) ++ l by simp];have hc':∀ x ∈ l,x.b=21->x.d=0:=fun x hx=>hc x (xQ _ hx);by_cases c:o.b≠21
  · rw [lQ,lX c];refine QX l _ out _ ?_ hc' (by simp;omega) hf;have hlat:FV (pre ++ [o])=FV pre:=by rw [EZ,VY,lW c]
    exact ⟨h.so,by rw [hlat];exact h.el,by rw [hlat];exact h.al,by have:=h.ln;simp;omega⟩
  have hk:o.b=21:=by omega
  obtain ⟨r,hr,e⟩:=ade (fu:=fu) (k:=k) (l:=l) h hk (hc o (zH ..) hk) (by omega) hf;rw [e];exact QX l _ r _ hr hc' (by simp;omega) hf
theorem aaD {fu:Nat}{ops:List pR}(hB:∀ o ∈ ops,o.b=21->o.d=0)(hl:ops.length<=10000)(hf:10000 < fu):∃ r,wX fu ops=some r/\Ya ops r:=by obtain ⟨r,hr,h⟩:=QX (fu:=fu) ops [] [] 0 ⟨.nil,by simp,(fun p v hp=>by cases hp),ng _⟩ hB (by simp;omega) hf;unfold wX;rw [hr];exact ⟨r,rfl,h⟩
end Go.Proofs.YtdkneekpdecjbaaGreat
