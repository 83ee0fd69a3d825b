/- Lemmas. -/
import Derived.Test.YtdkneekpdecjbaaGreatZ3
import Derived.Test.YtdkneekpdecjbaaGreatZ4
set_option linter.all false
set_option maxHeartbeats 12800000
set_option maxRecDepth 4000
namespace Go.Proofs.YtdkneekpdecjbaaGreat
open Go.RowKit Go.Fw Go.Proofs.Tryz
noncomputable section
abbrev zT:=jD->Int->Option (BA)
def Dt (m:Ge->Int->Option BA):Prop:=∀ {d h}{c:Ge}{e a b f},Pre d h [] [.l a b c.a]->m c e=some f-> Calls prog 90 #[.agg #[V c.e,V c.d,V c.f,T c.c,T c.b,Z a c.a b],V e] d (rV fun v w=>v=T f/\Bx d w h (mD []) [] [])
def AL (fu:Nat)(Ax:zT)(a:Ge):Option (Ld Bool BA):=if a.e=3 then some (.go (decide (0 < (a.a.length:Int)))) else some (.go false)
def z8 (fu:Nat)(Ax:zT)(b:Ge)(a:Int):Option (Ld Bool BA):=if a=5 then some (.go (decide (0 < (b.a.length:Int)))) else some (.go false)
def AY (fu:Nat)(Ax:zT)(a:Int):Option (Ld Int BA):=if a=1 then some (.go 2) else some (.go a)
def Av (fu:Nat)(Ax:zT)(a:Ge)(b:Int):Option (Ld BA BA):=if a.e=0 then (tC fu a.d).bind fun j=>some (.go j) else if a.e=2 then (cat a.c (⟨#[46]⟩:BA)).bind fun F=>(cat F a.b).bind fun G=>some (.go G) else (AL fu Ax a).bind fun H=>H.el (fun k=>if k=true then (ix a.a 0).bind fun l=>(cat a.c (⟨#[91]⟩:BA)).bind fun m=>(Ax l 1).bind fun c=>(cat m c).bind fun p=>(cat p (⟨#[93]⟩:BA)).bind fun t=>some (.go t) else (z8 fu Ax a b).bind fun H=>H.el (fun d=>if d=true then (ix a.a 0).bind fun u=>(ix ([(⟨#[45]⟩:BA),(⟨#[33]⟩:BA)]:List BA) (wr (a.e - 4))).bind fun v=>(Ax u 5).bind fun e=>(cat v e).bind fun w=>some (.go w) else if b < 5 then if 1 < (a.a.length:Int) then (AY fu Ax b).bind fun H=>H.el (fun f=>(ix a.a 0).bind fun x=>(ix a.a 1).bind fun z=>(ix ([(⟨#[43]⟩:BA),(⟨#[45]⟩:BA),(⟨#[42]⟩:BA),(⟨#[47]⟩:BA),(⟨#[37]⟩:BA),(⟨#[38]⟩:BA),(⟨#[124]⟩:BA),(⟨#[94]⟩:BA),(⟨#[60]⟩:BA),(⟨#[60,61]⟩:BA),(⟨#[61,61]⟩:BA),(⟨#[33,61]⟩:BA)]:List BA) (wr (a.e - 6))).bind fun A=>(Ax x f).bind fun h=>(cat h (⟨#[32]⟩:BA)).bind fun B=>(cat B A).bind fun C=>(cat C (⟨#[32]⟩:BA)).bind fun D=>(Ax z (wr (b+1))).bind fun i=>(cat D i).bind fun E=>some (.go E)) (fun o=>some (.out o)) else some (.go a.c) else some (.go a.c)) (fun o=>some (.out o))) (fun o=>some (.out o))
def CO (fu:Nat)(Ax:zT)(e:Ge)(f:Int):Option BA:=(Ck fu e.e).bind fun a=>(Av fu Ax e a).bind fun h=>h.el (fun b=>if a < f then (cat (⟨#[40]⟩:BA) b).bind fun c=>(cat c (⟨#[41]⟩:BA)).bind fun d=>some d else some b) (fun o=>some o)
def IG:Nat→(Ge→Int→Option (BA))
 | 0=>(fun _ _=>none)
 | fu+1=>CO fu (IG fu)
def qC (fu:Nat):=(IG fu)
theorem QG (fu:Nat)(Ax:zT)(H_r03_Expr:Dt Ax):Dt (CO fu Ax):=by
 intro w0 bU e x1 j m r0 hP v;unfold CO at v;have b:=hP.bx;clear hP;generalize hG:mD _=G at b ⊢;refine cf func90 r (q (g (qZ b (rD r) fun w1 b1 b=>s (pz r) (n (q (g (s (Fj r) (s (l3 r (b.bk 0 r) r) ?_))))))));obtain ⟨p,h2,v⟩:=bs v;refine sc (ec (vT func136) r) (QX fu (b.pr [] [0] [] r) h2) ?_;rintro _ w2 ⟨rfl,x⟩;replace b:=b.cn [] [0] x;refine s (xi r) (n (q (g (s (Us r) (s (l9 r (b.bk 0 r) r) (s (pz r) (n (q ?_))))))));obtain ⟨Y3,a,v⟩:=bs v;refine qQ (fun f w=>∃ N,Has f [(1,V x1),(5,V p),(6,T N)]/\Bx w0 w bU G [] []/\Ld.go N=Y3) (fun J3 z=>?_) ?_
 ·unfold Av at a;refine oN (q (g (s (Fj r) (s (l3 r (b.bk 0 r) r) (s (kI r r) (s (lM r) (n ?_)))))));obtain ⟨h4,a⟩|⟨h4,a⟩:=iv a
  ·refine jQ (bt h4) (g (s (PK r) (s (l3 r (b.bk 0 r) r) ?_)));obtain ⟨ao,h5,a⟩:=bs a;refine sc (ec Og r) (DR fu (b.pr [] [0] [] r) h5) ?_;rintro _ w5 ⟨rfl,x⟩;replace b:=b.cn [] [0] x;exact s (pz r) (n (z _ _ ⟨ao,jA,b.ad [] [],sm a⟩))
  refine jM (bf h4) (q (g (s (Fj r) (s (l3 r (b.bk 0 r) r) (s (kI r r) (s (lM r) (n ?_)))))));obtain ⟨h6,a⟩|⟨h6,a⟩:=iv a
  ·refine jQ (bt h6) (g (s (Us r) (s (l9 r (b.bk 0 r) r) ?_)));obtain ⟨g7,aR,a⟩:=bs a;refine s (mE r r aR) (s (XH r) (s (l9 r (b.bk 0 r) r) ?_));obtain ⟨g8,aS,a⟩:=bs a;exact s (mE r r aS) (s (pz r) (n (z _ _ ⟨g8,jA,b.ad [] [],sm a⟩)))
  refine jM (bf h6) (q ?_);obtain ⟨Y9,M,a⟩:=bs a;refine Kn b (fun B f w=>∃ Q,Has f [(1,V x1),(2,Pt b1),(5,V p),(6,T e.c),(31,.bool Q)]/\B w/\Ld.go Q=Y9) (fun J9 ap=>?_) ?_
  ·unfold AL at M;refine g (s (Fj r) (s (l3 r (b.bk 0 r) r) (s (kI r r) (s (mh r) ?_))));obtain ⟨a8,M⟩|⟨a8,M⟩:=iv M
   ·rw [wu a8];refine goC b ?_;exact ap _ _ ⟨decide (0 < (e.a.length:Int)),jA,b,sm M⟩
   rw [wZ a8];refine go ?_;exact ap _ _ ⟨false,jA,b,sm M⟩
  clear b;rintro f w ⟨Q,hf,b,aT⟩;obtain ⟨bV,rfl⟩:=nS hf;subst aT;replace a:=gi a;obtain ⟨R,a⟩|⟨R,a⟩:=iv a
  ·refine jQ (cb R) ?_;obtain ⟨A,H,a⟩:=bs a;obtain ⟨bl,aq,H⟩:=kU H;obtain ⟨b9,ar,b⟩:=b.nm 0 rfl H;obtain ⟨S,U,rfl,a9⟩:=jD.out ar;replace b:=b.ko (d:=.l S U A.a) a9;refine rz b [0] [0,1,2] [] (by kernel_rfl) ?_;replace b:=b.drew;have c:=b;refine G9 c ?_;obtain ⟨bm,au,a⟩:=bs a;refine pF 2 r (mE r r au) c ?_;refine G9 c ?_;refine pF 5 r (kR xg jZ r r aq (b.dl 2 r) H) c ?_;refine uF 6 r (fun hS=>lK [V A.e,V A.d,V A.f,T A.c,T A.b,Z S A.a U] nu r jZ r r (hS.dc 1 r)) c ?_;obtain ⟨aU,aV,a⟩:=bs a;refine hO 7 (oc r r (ec JY r) (H_r03_Expr (b.pr [] [0] [0] r) aV) ?_);rintro _ bn ⟨rfl,x⟩;replace b:=b.cn [] [0] x;have c:=b;refine ⟨sF c,?_⟩;obtain ⟨bo,av,a⟩:=bs a;refine pF 8 r (mE r r av) c ?_;obtain ⟨aW,aw,a⟩:=bs a;refine pF 9 r (mE r r aw) c ?_;refine yc c ?_;exact hD (z _ _ ⟨aW,jA,b.ad [] [],sm a⟩)
  refine jM (yM R) (q ?_);obtain ⟨aX,t,a⟩:=bs a;refine Kn b (fun Q f w=>∃ B,Has f [(1,V x1),(2,Pt b1),(5,V p),(6,T e.c),(51,.bool B)]/\Q w/\Ld.go B=aX) (fun bp a5=>?_) ?_
  ·unfold z8 at t;refine g (s (mi r) (s (kI r r) (s (mh r) ?_)));obtain ⟨aa,t⟩|⟨aa,t⟩:=iv t
   ·rw [wu aa];refine goC b ?_;exact a5 _ _ ⟨decide (0 < (e.a.length:Int)),jA,b,sm t⟩
   rw [wZ aa];refine go ?_;exact a5 _ _ ⟨false,jA,b,sm t⟩
  clear b;rintro f w ⟨B,hf,b,ax⟩;obtain ⟨bV,rfl⟩:=nS hf;subst ax;replace a:=gi a;obtain ⟨W,a⟩|⟨W,a⟩:=iv a
  ·refine jQ (cb W) ?_;obtain ⟨C,I,a⟩:=bs a;obtain ⟨bq,ay,I⟩:=kU I;obtain ⟨ba,az,b⟩:=b.nm 0 rfl I;obtain ⟨X,Y,rfl,ab⟩:=jD.out az;replace b:=b.ko (d:=.l X Y C.a) ab;obtain ⟨ac,o,a⟩:=bs a;obtain ⟨br,a6,o⟩:=kU o;obtain ⟨aY,ae,a⟩:=bs a;obtain ⟨aA,a0,a⟩:=bs a;refine qQ (fun f w=>Has f [(1,V x1),(5,V p),(6,T aA)]/\Bx w0 w bU G [] []) (fun Jd hJd=>?_) ?_
   ·refine rz b [0] [0,1,2] [] (by kernel_rfl) ?_;replace b:=b.drew;have c:=b;refine Ke c ?_;refine yc c ?_;refine pF 8 r (kR xg jZ r r ay (b.dl 2 r) I) c ?_;refine uF 9 r (fun hS=>lK [V C.e,V C.d,V C.f,T C.c,T C.b,Z X C.a Y] nu r jZ r r (hS.dc 1 r)) c ?_;refine nQ 0 [10] (by kernel_rfl) (jU ?_ (jU ?_ mM))
    ·refine oo r r (jT b [[T (⟨#[45]⟩:BA)],[T (⟨#[33]⟩:BA)]] H6 (xD r r) r r ⟨r,⟨r,y⟩⟩) ?_;rintro _ bu ⟨bv,rfl,b⟩;have c:=b.ad [1] [1,2,3];refine ⟨sF c,pF 4 r (kR lH qx r r a6 (b.vw 0 0 r r) o) c (nQ 5 [10] (by kernel_rfl) (jU ?_ (jU ?_ mM)))⟩
     ·have c:=b.ad [1] [1,2,3];refine vg r r (kH vU r r ((uY (ds:=[T ac]) (b.vw 0 0 r r) o (fun _ h=>h)) 0 _ r)) (sF c) ?_;refine hO 10 (oc r r (ec JY r) (H_r03_Expr (b.pr [] [0,1] [1] r) ae) ?_);rintro _ aB ⟨rfl,x⟩;replace b:=b.cn [] [0,1] x;have c:=b.ad [1] [1,2,3];exact ⟨sF c,pF 11 r (mE r r a0) c (pF 12 r (pz r) c (hD (hJd _ _ ⟨jA,b.ad [] []⟩)))⟩
     refine oc r r (ec JY r) (H_r03_Expr (b.pr [] [0,1] [1] r) ae) ?_;rintro _ aB ⟨rfl,x⟩;replace b:=b.cn [] [0,1] x;have c:=b.ad [1] [1,2,3];exact ⟨sF c,hO 5 (vg r r (kH vU r r ((uY (ds:=[T ac]) (b.vw 0 0 r r) o (fun _ h=>h)) 0 _ r)) (sF c) (pF 11 r (mE r r a0) c (pF 12 r (pz r) c (hD (hJd _ _ ⟨jA,b.ad [] []⟩)))))⟩
    refine oc r r (ec JY r) (H_r03_Expr (b.pr [] [0] [0] r) ae) ?_;rintro _ aB ⟨rfl,x⟩;replace b:=b.cn [] [0] x;have c:=b;refine ⟨sF c,hO 0 (oo r r (jT b [[T (⟨#[45]⟩:BA)],[T (⟨#[33]⟩:BA)]] H6 (xD r r) r r ⟨r,⟨r,y⟩⟩) ?_)⟩;rintro _ bw ⟨bz,rfl,b⟩;have c:=b.ad [1] [1,2,3];exact ⟨sF c,pF 4 r (kR lH qx r r a6 (b.vw 0 0 r r) o) c (hO 5 (vg r r (kH vU r r ((uY (ds:=[T ac]) (b.vw 0 0 r r) o (fun _ h=>h)) 0 _ r)) (sF c) (pF 11 r (mE r r a0) c (pF 12 r (pz r) c (hD (hJd _ _ ⟨jA,b.ad [] []⟩))))))⟩
   clear b;rintro f w ⟨hf,b⟩;obtain ⟨bV,rfl⟩:=nS hf;exact z _ _ ⟨aA,jA,b,sm a⟩
  refine jM (yM W) (q (g (s (mi r) (s (sU r r) (s (mh r) ?_)))));obtain ⟨af,a⟩|⟨af,a⟩:=iv a
  ·rw [wu af];refine kY r (s (TA r) (kY r (s (NM r (b.bk 0 r) r) (kY r (s (qG xg r) (kY r (s (xH r r) (s (mK r r) (s (lM r) (n ?_))))))))));obtain ⟨ag,a⟩|⟨ag,a⟩:=iv a
   ·refine jQ (bt ag) (q (g (o7 (jT b [[T (⟨#[43]⟩:BA)],[T (⟨#[45]⟩:BA)],[T (⟨#[42]⟩:BA)],[T (⟨#[47]⟩:BA)],[T (⟨#[37]⟩:BA)],[T (⟨#[38]⟩:BA)],[T (⟨#[124]⟩:BA)],[T (⟨#[94]⟩:BA)],[T (⟨#[60]⟩:BA)],[T (⟨#[60,61]⟩:BA)],[T (⟨#[61,61]⟩:BA)],[T (⟨#[33,61]⟩:BA)]] Hw (JB r r r r r r r r r r r r) r r ⟨r,⟨r,⟨r,⟨r,⟨r,⟨r,⟨r,⟨r,⟨r,⟨r,⟨r,⟨r,y⟩⟩⟩⟩⟩⟩⟩⟩⟩⟩⟩⟩) ?_)));rintro _ bA ⟨aC,rfl,b⟩;refine s (q9 r) (n (q (g (s (mi r) (s (xi r) (n (q ?_)))))));obtain ⟨aZ,u,a⟩:=bs a;refine Kn b (fun B f w=>∃ D,Has f [(1,V x1),(2,Pt b1),(5,V p),(7,.slice (ad aC) Hw.length 12),(8,V D)]/\B w/\Ld.go D=aZ) (fun bB a7=>?_) ?_
    ·unfold AY at u;refine q (g (s (mi r) (s (kI r r) (n ?_))));obtain ⟨ah,u⟩|⟨ah,u⟩:=iv u
     ·exact jQ (bt ah) (g (s (xi r) (n (a7 _ _ ⟨2,jA,b,sm u⟩))))
     exact jM (bf ah) (wk (a7 _ _ ⟨p,jA,b,sm u⟩))
    clear b;rintro f w ⟨D,hf,b,aD⟩;obtain ⟨bV,rfl⟩:=nS hf;subst aD;replace a:=gi a;obtain ⟨E,J,a⟩:=bs a;obtain ⟨bC,aE,J⟩:=kU J;obtain ⟨bb,aF,b⟩:=b.nm 1 rfl J;obtain ⟨a1,a2,rfl,ai⟩:=jD.out aF;replace b:=b.ko (d:=.l a1 a2 E.a) ai;obtain ⟨F,K,a⟩:=bs a;obtain ⟨bD,aG,K⟩:=kU K;obtain ⟨bc,aH,b⟩:=b.nm 3 rfl K;obtain ⟨a3,a4,rfl,aj⟩:=jD.out aH;replace b:=b.ko (d:=.l a3 a4 F.a) aj;refine rz b [0,1] [0,1,2,3,4,5] [] (by kernel_rfl) ?_;replace b:=b.drew;have c:=b;refine G9 c ?_;refine pF 2 r (kR xg jZ r r aE (b.dl 5 r) J) c ?_;refine uF 3 r (fun hS=>lK [V E.e,V E.d,V E.f,T E.c,T E.b,Z a1 E.a a2] nu r jZ r r (hS.dc 3 r)) c ?_;refine Ke c ?_;refine yc c ?_;obtain ⟨b0,L,a⟩:=bs a;obtain ⟨bE,aI,L⟩:=kU L;refine pF 11 r (kR lH qx r r aI (b.vw 0 4 r r) L) c ?_;refine tU 12 r (fun _ hS=>kH vU r r ((uY (ds:=[T b0]) (hS.vw 0 4 r r) L (fun _ h=>h)) 0 _ r)) (sF c) ?_;refine G9 c ?_;refine pF 17 r (kR xg jZ r r aG (b.dl 5 r) K) c ?_;refine uF 18 r (fun hS=>lK [V F.e,V F.d,V F.f,T F.c,T F.b,Z a3 F.a a4] nu r jZ r r (hS.dc 1 r)) c ?_;refine G9 c ?_;obtain ⟨b2,b3,a⟩:=bs a;refine hO 5 (oc r r (ec JY r) (H_r03_Expr (b.pr [] [0,1] [2] r) b3) ?_);rintro _ bF ⟨rfl,x⟩;replace b:=b.cn [] [0,1] x;have c:=b;refine ⟨sF c,?_⟩;obtain ⟨bG,aJ,a⟩:=bs a;refine pF 6 r (mE r r aJ) c ?_;obtain ⟨bH,aK,a⟩:=bs a;refine pF 13 r (mE r r aK) c ?_;obtain ⟨bI,aL,a⟩:=bs a;refine pF 14 r (mE r r aL) c ?_;obtain ⟨b4,b5,a⟩:=bs a;refine hO 21 (oc r r (ec JY r) (H_r03_Expr (b.pr [] [0,1] [0] r) b5) ?_);rintro _ bJ ⟨rfl,x⟩;replace b:=b.cn [] [0,1] x;have c:=b;refine ⟨sF c,?_⟩;obtain ⟨b6,aM,a⟩:=bs a;refine pF 22 r (mE r r aM) c ?_;refine yc c ?_;exact hD (z _ _ ⟨b6,jA,b.ad [] [],sm a⟩)
   exact jM (bf ag) (wk (z _ _ ⟨e.c,jA,b.ad [] [],sm a⟩))
  rw [wZ af];exact kX r (kX r (kX r (kX r (s (lu r r) (s (lM r) (n (jM r (wk (z _ _ ⟨e.c,jA,b.ad [] [],sm a⟩)))))))))
 clear b;rintro f w ⟨N,hf,b,b7⟩;obtain ⟨bV,rfl⟩:=nS hf;subst b7;replace v:=gi v;refine q (q (g (s (mi r) (s (mi r) (s (sU r r) (n ?_))))));obtain ⟨ak,v⟩|⟨ak,v⟩:=iv v
 ·refine jQ (bt ak) (q (g (s (nW r) ?_)));obtain ⟨bK,aN,v⟩:=bs v;refine s (mE r r aN) ?_;obtain ⟨bL,aO,v⟩:=bs v;refine s (mE r r aO) (s (pz r) (n (lG ?_)));obtain rfl:=sm v;exact jK r (mI r) ⟨r,b⟩
 refine jM (bf ak) ?_;refine go ?_;refine lG ?_;obtain rfl:=sm v;exact jK r (mI r) ⟨r,b⟩
theorem O8 (fu:Nat):Dt (qC fu):=by
 induction fu with
 | zero=>exact by intro a b;intros;(try intro _);intros;exact nn (by assumption)
 | succ fu ih=>exact QG fu (qC fu) ih
theorem JZ (fu:Nat):Dt (qC fu):=(O8 fu)
def S9 (m:(List Ge)->Option BA):Prop:=∀ {c f d a b e},Pre c f [] [.l a b d]->m d=some e-> Calls prog 137 #[Z a d b] c (rV fun v w=>v=T e/\Bx c w f (mD []) [] [])
def Ba (fu:Nat)(a:BA)(b:Nat):Option (Ld BA BA):=if 0 < (b:Int) then (cat a (⟨#[44,32]⟩:BA)).bind fun c=>some (.go c) else some (.go a)
def tT (fu:Nat):List Ge→Nat→BA→Option (Ld (BA) (BA))
 | [],_,a=>some (.go a)
 | e :: f,d,a=>
 (Ba fu a d).bind fun i=>i.el (fun b=>
 (qC fu e 1).bind fun c=>
 (cat b c).bind fun h=>
 tT fu f (d+1) h
 ) (fun o=>some (.out o))
def zS (fu:Nat)(b:(List Ge)):Option BA:=(tT fu b 0 (⟨#[]⟩:BA)).bind fun c=>c.el (fun a=>some a) (fun o=>some o)
theorem Ko (fu:Nat):S9 (zS fu):=by
 intro B aa o b i r0 L v;unfold zS at v;have e:=L.bx;clear L;generalize hG:mD _=G at e ⊢;refine cf func137 r (q (g (s (pz r) (n (q (g (s (pz r) (n (q (q (g (s (vR r) (s (qG xg r) (s (mi r) (n ?_)))))))))))))));have R:=(e.dl 0 r).bd;obtain ⟨M,c,v⟩:=bs v;refine qQ (fun f w=>∃ h,Has f [(3,T h)]/\Bx B w aa G [] [.l b i o]/\Ld.go h=M) (fun J1 C=>?_) ?_
 ·refine oN (kG (fun ac f w=>∃ p h,ac=o.length - p/\p<=o.length/\Has f [(8,V (p:Int)),(3,T h),(6,Z b o i),(7,V (o.length:Int))]/\Bx B w aa G [] [.l b i o]/\tT fu (o.drop p) p h=some M) o.length ⟨0,(⟨#[]⟩:BA),r,uL _,jA,e,c⟩ ?_);clear e c;rintro ac f w ⟨p,h,rfl,S,hf,e,c⟩ K1 D;obtain ⟨ab,rfl⟩:=nS hf;obtain x | x:=xw p o.length
  ·obtain ⟨a,u⟩:=lZ (l:=o) x;rw [mV u,tT] at c;obtain ⟨U,E,e⟩:=e.nm 0 rfl u;obtain ⟨j,k,rfl,z⟩:=jD.out E;replace e:=e.ko (d:=.l j k a.a) z;refine q (g (s (vC r r) (n (q (jQ r ?_)))));refine go ?_;refine s (kR xg jZ r r r (e.dl 2 r) u) (s (lK [V a.e,V a.d,V a.f,T a.c,T a.b,Z j a.a k] nu r jZ r r (e.dc 1 r)) (qZ e (jN jZ) fun w3 N e=>s (xi r) (kV (mQ e 0 [V a.e,V a.d,V a.f,T a.c,T a.b,Z j a.a k] r jZ r r) fun w4 e=>n (q ?_))));obtain ⟨W,m,c⟩:=bs c;refine Kn e (fun Q f w=>∃ t,Has f [(3,T t),(5,Pt N),(6,Z b o i),(7,V (o.length:Int)),(8,V (p:Int))]/\Q w/\Ld.go t=W) (fun J5 A=>?_) ?_
   ·unfold Ba at m;refine q (g (s (mi r) (s (xH r r) (n ?_))));obtain ⟨F,m⟩|⟨F,m⟩:=iv m
    ·refine jQ (bt F) (g (s (nW r) ?_));obtain ⟨X,H,m⟩:=bs m;exact s (mE r r H) (s (pz r) (n (A _ _ ⟨X,jA,e,sm m⟩)))
    exact jM (bf F) (wk (A _ _ ⟨h,jA,e,sm m⟩))
   clear e;rintro f w ⟨t,hf,e,I⟩;obtain ⟨ab,rfl⟩:=nS hf;subst I;replace c:=gi c;refine g (s (nW r) (s (kZ [V a.e,V a.d,V a.f,T a.c,T a.b,Z j a.a k] nu jZ r (e.bk 0 r)) ?_));obtain ⟨Q,Y,c⟩:=bs c;refine sc (ec JY r) (JZ fu (e.pr [] [0] [0] r) Y) ?_;rintro _ w8 ⟨rfl,hK⟩;replace e:=e.cn [] [0] hK;obtain ⟨g9,J,c⟩:=bs c;exact s (mE r r J) (s (pz r) (n (g (s (lT r r) (s (mi r) (n (D (o.length - (p+1)) _ _ (by omega) ⟨p+1,g9,r,by omega,jA,e.ad [] [2],c⟩)))))))
  obtain rfl:p=o.length:=by omega
  rw [mF,tT] at c;exact q (g (s (u6 r r) (n (q (jM r (uw (C _ _ ⟨h,jA,e,sm c⟩)))))))
 clear e;rintro f w ⟨h,hf,e,K⟩;obtain ⟨ab,rfl⟩:=nS hf;subst K;replace v:=gi v;refine go ?_;refine lG ?_;obtain rfl:=sm v;exact jK r (mI r) ⟨r,e.dp []⟩
def Ph (m:(List BA)->Option BA):Prop:=∀ {c f d a b e},Pre c f [] [.l a b d]->m d=some e-> Calls prog 63 #[Z a d b] c (rV fun v w=>v=T e/\Bx c w f (mD []) [] [])
def qb (fu:Nat):List BA→Nat→BA→Option (Ld (BA) (BA))
 | [],_,a=>some (.go a)
 | c :: d,b,a=>
 if 0 < (b:Int) then
  (cat a (⟨#[44,32]⟩:BA)).bind fun e=>
  (cat e c).bind fun f=>
  qb fu d (b+1) f
 else
  (cat a c).bind fun h=>
  qb fu d (b+1) h
def yJ (fu:Nat)(b:(List BA)):Option BA:=(qb fu b 0 (⟨#[]⟩:BA)).bind fun c=>c.el (fun a=>some a) (fun o=>some o)
theorem IY (fu:Nat):Ph (yJ fu):=by
 intro B R e c d K C m;unfold yJ at m;have i:=C.bx;clear C;generalize L:mD _=G at i ⊢;refine cf func63 r (q (g (s (pz r) (n (q (g (s (pz r) (n (q (q (g (s (vR r) (s (qG lH r) (s (mi r) (n ?_)))))))))))))));have E:=(i.dl 0 r).bd;obtain ⟨D,a,m⟩:=bs m;refine qQ (fun f w=>∃ b,Has f [(3,T b)]/\Bx B w R G [] [.l c d e]/\Ld.go b=D) (fun M t=>?_) ?_
 ·refine oN (kG (fun U f w=>∃ j b,U=e.length - j/\j<=e.length/\Has f [(8,V (j:Int)),(3,T b),(6,Z c e d),(7,V (e.length:Int))]/\Bx B w R G [] [.l c d e]/\qb fu (e.drop j) j b=some D) e.length ⟨0,(⟨#[]⟩:BA),r,uL _,jA,i,a⟩ ?_);clear i a;rintro U f w ⟨j,b,rfl,F,hf,i,a⟩ N o;obtain ⟨S,rfl⟩:=nS hf;obtain p | p:=xw j e.length
  ·obtain ⟨H,k⟩:=lZ (l:=e) p;rw [mV k,qb] at a;refine q (g (s (vC r r) (n (q (jQ r (wk (q (oN (q (g (s (mi r) (s (kR lH qx r r r (i.dl 0 r) k) (s (kH vU r r ((uY (ds:=[T H]) (i.dl 0 r) k (fun _ h=>h)) 0 _ r)) (s (xi r) (s (pz r) (n (q (q (g (s (mi r) (s (xH r r) (n ?_))))))))))))))))))))));obtain ⟨u,a⟩|⟨u,a⟩:=iv a
   ·refine jQ (bt u) (g (s (nW r) ?_));obtain ⟨Q,v,a⟩:=bs a;refine s (mE r r v) (s (pz r) (n (g (s (nW r) (s (nW r) ?_)))));obtain ⟨I,x,a⟩:=bs a;exact s (mE r r x) (s (pz r) (n (g (s (lT r r) (s (mi r) (n (o (e.length - (j+1)) _ _ (by omega) ⟨j+1,I,r,by omega,jA,i,a⟩)))))))
   refine jM (bf u) (wk (g (s (nW r) (s (nW r) ?_))));obtain ⟨J,z,a⟩:=bs a;exact s (mE r r z) (s (pz r) (n (g (s (lT r r) (s (mi r) (n (o (e.length - (j+1)) _ _ (by omega) ⟨j+1,J,r,by omega,jA,i,a⟩)))))))
  obtain rfl:j=e.length:=by omega
  rw [mF,qb] at a;exact q (g (s (u6 r r) (n (q (jM r (uw (t _ _ ⟨b,jA,i,sm a⟩)))))))
 clear i;rintro f w ⟨b,hf,i,A⟩;obtain ⟨S,rfl⟩:=nS hf;subst A;replace m:=gi m;refine go ?_;refine lG ?_;obtain rfl:=sm m;exact jK r (mI r) ⟨r,i.dp []⟩
def PI (m:Gs->Option BA):Prop:=∀ {k p}{a:Gs}{b c d e f h i j o},Pre k p [] [.l b c a.e,.l d e a.a,.l f h a.d,.l i j a.i]->m a=some o-> Calls prog 92 #[.agg #[V a.b,V a.g,V a.n,T a.c,T a.j,V a.m,V a.f,Z b a.e c,T a.k,V a.h,Z d a.a e,Z f a.d h,Z i a.i j]] k (rV fun v w=>v=T o/\Bx k w p (mD []) [] [])
def qO (fu:Nat)(c:Gs):Option BA:=if ¬ c.k=(⟨#[]⟩:BA) then (cat c.k (⟨#[40]⟩:BA)).bind fun d=>(zS fu c.a).bind fun a=>(cat d a).bind fun e=>(cat e (⟨#[41]⟩:BA)).bind fun f=>some f else (zS fu c.a).bind fun b=>some b
theorem wL (fu:Nat):PI (qO fu):=by
 intro E R c e f h j l m o p F z b;unfold qO at b;have a:=z.bx;clear z;generalize H:mD _=G at a ⊢;refine cf func92 r (q (g (qZ a (rD r) fun I J a=>?_)));refine goC a ?_;refine s (Qc r r) (n ?_);obtain ⟨t,b⟩|⟨t,b⟩:=iv b
 ·refine jQ (bt t) (q (rz a [0] [] [] (by kernel_rfl) ?_));replace a:=a.drew;have d:=a.dp [];refine G9 d ?_;obtain ⟨K,u,b⟩:=bs b;refine pF 2 r (mE r r u) d ?_;refine G9 d ?_;obtain ⟨A,C,b⟩:=bs b;refine hO 5 (oc r r (ec (vT func137) r) (Ko fu (a.pr [] [0] [1] r) C) ?_);rintro _ L ⟨rfl,v⟩;replace a:=a.cn [] [0] v;have d:=a.dp [];refine ⟨sF d,?_⟩;obtain ⟨M,w,b⟩:=bs b;refine pF 6 r (mE r r w) d ?_;obtain ⟨N,x,b⟩:=bs b;refine pF 7 r (mE r r x) d ?_;refine yc d ?_;refine hD (lG ?_);obtain rfl:=sm b;exact jK r (mI r) ⟨r,a.ad [] []⟩
 refine jM (bf t) (wk (q (g (s (zB r) (s (NM r (a.bk 0 r) r) ?_)))));obtain ⟨B,D,b⟩:=bs b;refine sc (ec (vT func137) r) (Ko fu (a.pr [] [0] [1] r) D) ?_;rintro _ Q ⟨rfl,v⟩;replace a:=a.cn [] [0] v;refine s (pz r) (n (lG ?_));obtain rfl:=sm b;exact jK r (mI r) ⟨r,a.ad [] []⟩
abbrev wz:=(List jC)->BA->Option (BA)
def Cc (m:(List Gs)->BA->Option BA):Prop:=∀ {c h d e a b f},Pre c h [] [.l a b d]->m d e=some f-> Calls prog 64 #[Z a d b,T e] c (rV fun v w=>v=T f/\Bx c w h (mD []) [] [])
def yT (fu:Nat)(AF:wz)(c:Gs):Option (Ld BA BA):=if 0 < (c.e.length:Int) then (ix c.e 0).bind fun d=>(qC fu d 1).bind fun a=>(cat a (⟨#[32,61,32]⟩:BA)).bind fun b=>some (.go b) else some (.go (⟨#[]⟩:BA))
def yX (fu:Nat)(AF:wz)(a:Gs):Option (Ld BA BA):=if a.j=(⟨#[]⟩:BA) then some (.go (⟨#[105,110,116]⟩:BA)) else some (.go a.j)
def zf (fu:Nat)(AF:wz)(e:Gs)(a:BA):Option (Ld BA BA):=if 0 < e.m then (tC fu e.m).bind fun b=>(cat (⟨#[105,110,116,91]⟩:BA) b).bind fun c=>(cat c (⟨#[93]⟩:BA)).bind fun d=>some (.go d) else some (.go a)
def y8 (fu:Nat)(AF:wz)(a:Gs):Option (Ld Bool BA):=if a.b=2 then some (.go (decide (a.b=2))) else some (.go (decide (a.b=3)))
def lW (fu:Nat)(AF:wz)(b:BA):List Gs→Nat→BA→Option (Ld (BA) (BA))
 | [],_,a=>some (.go a)
 | c :: d,e,a=>
 (yT fu AF c).bind fun aC=>aC.el (fun A=>
 if c.b=1 then
  (yX fu AF c).bind fun aC=>aC.el (fun f=>
  (zf fu AF c f).bind fun aC=>aC.el (fun h=>
  (cat a b).bind fun C=>
  (cat C (⟨#[118,97,114,32]⟩:BA)).bind fun D=>
  (cat D c.c).bind fun E=>
  (cat E (⟨#[58,32]⟩:BA)).bind fun F=>
  (cat F h).bind fun G=>
  (cat G (⟨#[59,10]⟩:BA)).bind fun H=>
  lW fu AF b d (e+1) H
  ) (fun o=>some (.out o))
  ) (fun o=>some (.out o))
 else
  (y8 fu AF c).bind fun aC=>aC.el (fun i=>
  if i=true then
   (cat a b).bind fun I=>
   (cat I A).bind fun J=>
   (qO fu c).bind fun j=>
   (cat J j).bind fun K=>
   (cat K (⟨#[59,10]⟩:BA)).bind fun L=>
   lW fu AF b d (e+1) L
  else
   if c.b=6 then
    (cat a b).bind fun M=>
    (cat M (⟨#[114,101,116,117,114,110,32]⟩:BA)).bind fun N=>
    (qO fu c).bind fun k=>
    (cat N k).bind fun P=>
    (cat P (⟨#[59,10]⟩:BA)).bind fun Q=>
    lW fu AF b d (e+1) Q
   else
    if c.b=7 then
     (cat a b).bind fun R=>
     (cat R (⟨#[116,104,114,111,119,32]⟩:BA)).bind fun S=>
     (qO fu c).bind fun l=>
     (cat S l).bind fun U=>
     (cat U (⟨#[59,10]⟩:BA)).bind fun W=>
     lW fu AF b d (e+1) W
    else
     if c.b=9 then
      (cat a b).bind fun X=>
      (cat X (⟨#[112,114,105,110,116,32]⟩:BA)).bind fun Y=>
      (qO fu c).bind fun m=>
      (cat Y m).bind fun a0=>
      (cat a0 (⟨#[59,10]⟩:BA)).bind fun a1=>
      lW fu AF b d (e+1) a1
     else
      if c.b=4 then
       (cat a b).bind fun a2=>
       (cat a2 (⟨#[105,102,32]⟩:BA)).bind fun a3=>
       (cat b (⟨#[9]⟩:BA)).bind fun a4=>
       (qO fu c).bind fun p=>
       (cat a3 p).bind fun a5=>
       (cat a5 (⟨#[32,123,10]⟩:BA)).bind fun a6=>
       (AF c.d a4).bind fun t=>
       (cat a6 t).bind fun B=>
       if 0 < (c.i.length:Int) then
        (cat B b).bind fun a7=>
        (cat a7 (⟨#[125,32,101,108,115,101,32,123,10]⟩:BA)).bind fun a8=>
        (cat b (⟨#[9]⟩:BA)).bind fun a9=>
        (AF c.i a9).bind fun u=>
        (cat a8 u).bind fun aa=>
        (cat aa b).bind fun ab=>
        (cat ab (⟨#[125,10]⟩:BA)).bind fun ac=>
        lW fu AF b d (e+1) ac
       else
        (cat B b).bind fun ae=>
        (cat ae (⟨#[125,10]⟩:BA)).bind fun af=>
        lW fu AF b d (e+1) af
      else
       if c.b=5 then
        (cat a b).bind fun ag=>
        (cat ag (⟨#[119,104,105,108,101,32]⟩:BA)).bind fun ah=>
        (cat b (⟨#[9]⟩:BA)).bind fun ai=>
        (qO fu c).bind fun v=>
        (cat ah v).bind fun aj=>
        (cat aj (⟨#[32,123,10]⟩:BA)).bind fun ak=>
        (AF c.d ai).bind fun w=>
        (cat ak w).bind fun al=>
        (cat al b).bind fun am=>
        (cat am (⟨#[125,10]⟩:BA)).bind fun an=>
        lW fu AF b d (e+1) an
       else
        if c.b=8 then
         (cat a b).bind fun ao=>
         (cat ao (⟨#[116,114,121,32,123,10]⟩:BA)).bind fun ap=>
         (cat b (⟨#[9]⟩:BA)).bind fun aq=>
         (cat b (⟨#[9]⟩:BA)).bind fun ar=>
         (AF c.d aq).bind fun x=>
         (cat ap x).bind fun au=>
         (cat au b).bind fun av=>
         (cat av (⟨#[125,32,99,97,116,99,104,32]⟩:BA)).bind fun aw=>
         (cat aw c.c).bind fun ax=>
         (cat ax (⟨#[32,123,10]⟩:BA)).bind fun ay=>
         (AF c.i ar).bind fun z=>
         (cat ay z).bind fun az=>
         (cat az b).bind fun aA=>
         (cat aA (⟨#[125,10]⟩:BA)).bind fun aB=>
         lW fu AF b d (e+1) aB
        else
         lW fu AF b d (e+1) a
  ) (fun o=>some (.out o))
 ) (fun o=>some (.out o))
def Bn (fu:Nat)(AF:wz)(b:(List Gs))(c:BA):Option BA:=(lW fu AF c b 0 (⟨#[]⟩:BA)).bind fun d=>d.el (fun a=>some a) (fun o=>some o)
def GD:Nat→((List Gs)→BA→Option (BA))
 | 0=>(fun _ _=>none)
 | fu+1=>Bn fu (GD fu)
def oZ (fu:Nat):=(GD fu)
theorem Pd (fu:Nat)(AF:wz)(H_p03_block:Cc AF):Cc (Bn fu AF):=by
 intro w0 dM D x1 e z r0 hP hM;unfold Bn at hM;have c:=hP.bx;clear hP;generalize hG:mD _=G at c ⊢;refine cf func64 r (q (g (s (pz r) (n (q (g (s (pz r) (n (q (q (g (s (vR r) (s (qG DI r) (s (mi r) (n ?_)))))))))))))));have cr:=(c.dl 0 r).bd;obtain ⟨Y1,a,hM⟩:=bs hM;refine qQ (fun f w=>∃ A,Has f [(5,T A)]/\Bx w0 w dM G [] [.l e z D]/\Ld.go A=Y1) (fun J1 bB=>?_) ?_
 ·refine oN (kG (fun dO f w=>∃ C A,dO=D.length - C/\C<=D.length/\Has f [(12,V (C:Int)),(1,T x1),(5,T A),(10,Z e D z),(11,V (D.length:Int))]/\Bx w0 w dM G [] [.l e z D]/\lW fu AF x1 (D.drop C) C A=some Y1) D.length ⟨0,(⟨#[]⟩:BA),r,uL _,jA,c,a⟩ ?_);clear c a;rintro dO f w ⟨C,A,rfl,ct,hf,c,a⟩ K1 H;obtain ⟨dN,rfl⟩:=nS hf;obtain ai | ai:=xw C D.length
  ·obtain ⟨b,a2⟩:=lZ (l:=D) ai;rw [mV a2,lW] at a;obtain ⟨cu,bC,c⟩:=c.nm 0 rfl a2;obtain ⟨h,j,m,o,p,t,u,v,rfl,aj,ak,al,am⟩:=jC.out bC;replace c:=c.ko (d:=.l h j b.e) aj;replace c:=c.ko (d:=.l m o b.a) ak;replace c:=c.ko (d:=.l p t b.d) al;replace c:=c.ko (d:=.l u v b.i) am;refine q (g (s (vC r r) (n (q (jQ r (wk (q (oN (q (g (s (kR DI jY r r r (c.dl 5 r) a2) (s (lK [V b.b,V b.g,V b.n,T b.c,T b.j,V b.m,V b.f,Z h b.e j,T b.k,V b.h,Z m b.a o,Z p b.d t,Z u b.i v] lV r jY r r (c.dc 4 r)) (qZ c (jN jY) fun w3 S c=>kV (mQ c 0 [V b.b,V b.g,V b.n,T b.c,T b.j,V b.m,V b.f,Z h b.e j,T b.k,V b.h,Z m b.a o,Z p b.d t,Z u b.i v] r jY r r) fun w4 c=>n (q (g (s (pz r) (n (q ?_))))))))))))))))));obtain ⟨Y5,E,a⟩:=bs a;refine qQ (fun f w=>∃ N,Has f [(1,T x1),(5,T A),(7,Pt S),(8,T N),(10,Z e D z),(11,V (D.length:Int)),(12,V (C:Int))]/\Bx w0 w dM G [.box S 115 #[V b.b,V b.g,V b.n,T b.c,T b.j,V b.m,V b.f,Z h b.e j,T b.k,V b.h,Z m b.a o,Z p b.d t,Z u b.i v]] [.l u v b.i,.l p t b.d,.l m o b.a,.l h j b.e,.at (oH e) (qo e+C * sz Gs) [V b.b,V b.g,V b.n,T b.c,T b.j,V b.m,V b.f,Z h b.e j,T b.k,V b.h,Z m b.a o,Z p b.d t,Z u b.i v],.l e z D]/\Ld.go N=Y5) (fun J5 an=>?_) ?_
   ·unfold yT at E;refine q (g (s (Fu r) (s (NM r (c.bk 0 r) r) (s (qG xg r) (s (xH r r) (n ?_))))));obtain ⟨h6,E⟩|⟨h6,E⟩:=iv E
    ·refine jQ (bt h6) (g (s (Fu r) (s (NM r (c.bk 0 r) r) ?_)));obtain ⟨e7,R,E⟩:=bs E;obtain ⟨k7,bE,R⟩:=kU R;obtain ⟨cw,bF,c⟩:=c.nm 3 rfl R;obtain ⟨U,W,rfl,ao⟩:=jD.out bF;replace c:=c.ko (d:=.l U W e7.a) ao;refine s (kR xg jZ r r bE (c.dl 5 r) R) (s (lK [V e7.e,V e7.d,V e7.f,T e7.c,T e7.b,Z U e7.a W] nu r jZ r r (c.dc 1 r)) ?_);obtain ⟨cq,h9,E⟩:=bs E;refine sc (ec JY r) (JZ fu (c.pr [] [0] [0] r) h9) ?_;rintro _ w9 ⟨rfl,F⟩;replace c:=c.cn [] [0] F;obtain ⟨bG,ap,E⟩:=bs E;exact s (mE r r ap) (s (pz r) (n (an _ _ ⟨bG,jA,c.dp [2,3,4,5,6,7],sm E⟩)))
    exact jM (bf h6) (wk (an _ _ ⟨(⟨#[]⟩:BA),jA,c,sm E⟩))
   clear c;rintro f w ⟨N,hf,c,bH⟩;obtain ⟨dN,rfl⟩:=nS hf;subst bH;replace a:=gi a;refine q (g (s (zX r) (s (l3 r (c.bk 0 r) r) (n (oN (q (g (s (kI r r) (s (lM r) (n ?_))))))))));obtain ⟨a4,a⟩|⟨a4,a⟩:=iv a
   ·refine jQ (bt a4) (q (g (s (Pp r) (s (l9 r (c.bk 0 r) r) (s (pz r) (n (q ?_)))))));obtain ⟨bI,I,a⟩:=bs a;refine Kn c (fun B f w=>∃ K,Has f [(1,T x1),(5,T A),(7,Pt S),(9,T K),(10,Z e D z),(11,V (D.length:Int)),(12,V (C:Int))]/\B w/\Ld.go K=bI) (fun cy X=>?_) ?_
    ·unfold yX at I;refine go ?_;refine s (uj r r) (n ?_);obtain ⟨a5,I⟩|⟨a5,I⟩:=iv I
     ·exact jQ (bt a5) (g (s (pz r) (n (X _ _ ⟨(⟨#[105,110,116]⟩:BA),jA,c,sm I⟩))))
     exact jM (bf a5) (wk (X _ _ ⟨b.j,jA,c,sm I⟩))
    clear c;rintro f w ⟨K,hf,c,aq⟩;obtain ⟨dN,rfl⟩:=nS hf;subst aq;replace a:=gi a;refine q ?_;obtain ⟨bJ,B,a⟩:=bs a;refine qQ (fun f w=>∃ L,Has f [(1,T x1),(5,T A),(7,Pt S),(9,T L),(10,Z e D z),(11,V (D.length:Int)),(12,V (C:Int))]/\Bx w0 w dM G [.box S 115 #[V b.b,V b.g,V b.n,T b.c,T b.j,V b.m,V b.f,Z h b.e j,T b.k,V b.h,Z m b.a o,Z p b.d t,Z u b.i v]] [.l u v b.i,.l p t b.d,.l m o b.a,.l h j b.e,.at (oH e) (qo e+C * sz Gs) [V b.b,V b.g,V b.n,T b.c,T b.j,V b.m,V b.f,Z h b.e j,T b.k,V b.h,Z m b.a o,Z p b.d t,Z u b.i v],.l e z D]/\Ld.go L=bJ) (fun cz Y=>?_) ?_
    ·unfold zf at B;refine q (g (s (Jt r) (s (l3 r (c.bk 0 r) r) (s (xH r r) (n ?_)))));obtain ⟨a6,B⟩|⟨a6,B⟩:=iv B
     ·refine jQ (bt a6) (g (s (Jt r) (s (l3 r (c.bk 0 r) r) ?_)));obtain ⟨bK,bL,B⟩:=bs B;refine sc (ec Og r) (DR fu (c.pr [] [0] [] r) bL) ?_;rintro _ cA ⟨rfl,F⟩;replace c:=c.cn [] [0] F;obtain ⟨cB,ar,B⟩:=bs B;refine s (mE r r ar) ?_;obtain ⟨bM,au,B⟩:=bs B;exact s (mE r r au) (s (pz r) (n (Y _ _ ⟨bM,jA,c,sm B⟩)))
     exact jM (bf a6) (wk (Y _ _ ⟨K,jA,c,sm B⟩))
    clear c;rintro f w ⟨L,hf,c,av⟩;obtain ⟨dN,rfl⟩:=nS hf;subst av;replace a:=gi a;refine g (s (nW r) (s (nW r) ?_));obtain ⟨cC,aw,a⟩:=bs a;refine s (mE r r aw) ?_;obtain ⟨cD,ax,a⟩:=bs a;refine s (mE r r ax) (s (Eu r) (s (l9 r (c.bk 0 r) r) ?_));obtain ⟨cE,ay,a⟩:=bs a;refine s (mE r r ay) ?_;obtain ⟨cF,az,a⟩:=bs a;refine s (mE r r az) (s (nW r) ?_);obtain ⟨cG,aA,a⟩:=bs a;refine s (mE r r aA) ?_;obtain ⟨bN,aB,a⟩:=bs a;exact s (mE r r aB) (s (pz r) (n (g (s (lT r r) (s (mi r) (n (H (D.length - (C+1)) _ _ (by omega) ⟨C+1,bN,r,by omega,jA,c.ad [] [5],a⟩)))))))
   refine jM (bf a4) (q ?_);obtain ⟨bO,J,a⟩:=bs a;refine Kn c (fun B f w=>∃ M,Has f [(1,T x1),(5,T A),(7,Pt S),(8,T N),(10,Z e D z),(11,V (D.length:Int)),(12,V (C:Int)),(27,V b.b),(53,.bool M)]/\B w/\Ld.go M=bO) (fun cH a0=>?_) ?_
   ·unfold y8 at J;refine q (g (s (kI r r) (s (lM r) (n ?_))));obtain ⟨a7,J⟩|⟨a7,J⟩:=iv J
    ·exact jQ (bt a7) (wk (a0 _ _ ⟨decide (b.b=2),jA,c,sm J⟩))
    refine jM (bf a7) ?_;refine go ?_;exact a0 _ _ ⟨decide (b.b=3),jA,c,sm J⟩
   clear c;rintro f w ⟨M,hf,c,aC⟩;obtain ⟨dN,rfl⟩:=nS hf;subst aC;replace a:=gi a;obtain ⟨Q,a⟩|⟨Q,a⟩:=iv a
   ·refine jQ (cb Q) (g (s (nW r) (s (nW r) ?_)));obtain ⟨cI,aD,a⟩:=bs a;refine s (mE r r aD) (s (nW r) ?_);obtain ⟨cJ,aE,a⟩:=bs a;refine s (mE r r aE) (s (kZ [V b.b,V b.g,V b.n,T b.c,T b.j,V b.m,V b.f,Z h b.e j,T b.k,V b.h,Z m b.a o,Z p b.d t,Z u b.i v] lV jY r (c.bk 0 r)) ?_);obtain ⟨bP,bQ,a⟩:=bs a;refine sc (ec Oq r) (wL fu (c.pr [] [0] [3,2,1,0] r) bQ) ?_;rintro _ cK ⟨rfl,F⟩;replace c:=c.cn [] [0] F;obtain ⟨cL,aG,a⟩:=bs a;refine s (mE r r aG) ?_;obtain ⟨bR,aH,a⟩:=bs a;exact s (mE r r aH) (s (pz r) (n (g (s (lT r r) (s (mi r) (n (H (D.length - (C+1)) _ _ (by omega) ⟨C+1,bR,r,by omega,jA,c.ad [] [5],a⟩)))))))
   refine jM (yM Q) (q (g (s (kI r r) (s (lM r) (n ?_)))));obtain ⟨a8,a⟩|⟨a8,a⟩:=iv a
   ·refine jQ (bt a8) (g (s (nW r) (s (nW r) ?_)));obtain ⟨cM,aI,a⟩:=bs a;refine s (mE r r aI) ?_;obtain ⟨cN,aJ,a⟩:=bs a;refine s (mE r r aJ) (s (kZ [V b.b,V b.g,V b.n,T b.c,T b.j,V b.m,V b.f,Z h b.e j,T b.k,V b.h,Z m b.a o,Z p b.d t,Z u b.i v] lV jY r (c.bk 0 r)) ?_);obtain ⟨bS,bT,a⟩:=bs a;refine sc (ec Oq r) (wL fu (c.pr [] [0] [3,2,1,0] r) bT) ?_;rintro _ cO ⟨rfl,F⟩;replace c:=c.cn [] [0] F;obtain ⟨cP,aK,a⟩:=bs a;refine s (mE r r aK) ?_;obtain ⟨bU,aL,a⟩:=bs a;exact s (mE r r aL) (s (pz r) (n (g (s (lT r r) (s (mi r) (n (H (D.length - (C+1)) _ _ (by omega) ⟨C+1,bU,r,by omega,jA,c.ad [] [5],a⟩)))))))
   refine jM (bf a8) (q (g (s (kI r r) (s (lM r) (n ?_)))));obtain ⟨a9,a⟩|⟨a9,a⟩:=iv a
   ·refine jQ (bt a9) (g (s (nW r) (s (nW r) ?_)));obtain ⟨cQ,aM,a⟩:=bs a;refine s (mE r r aM) ?_;obtain ⟨cR,aN,a⟩:=bs a;refine s (mE r r aN) (s (kZ [V b.b,V b.g,V b.n,T b.c,T b.j,V b.m,V b.f,Z h b.e j,T b.k,V b.h,Z m b.a o,Z p b.d t,Z u b.i v] lV jY r (c.bk 0 r)) ?_);obtain ⟨bV,bW,a⟩:=bs a;refine sc (ec Oq r) (wL fu (c.pr [] [0] [3,2,1,0] r) bW) ?_;rintro _ cS ⟨rfl,F⟩;replace c:=c.cn [] [0] F;obtain ⟨cT,aO,a⟩:=bs a;refine s (mE r r aO) ?_;obtain ⟨bX,aP,a⟩:=bs a;exact s (mE r r aP) (s (pz r) (n (g (s (lT r r) (s (mi r) (n (H (D.length - (C+1)) _ _ (by omega) ⟨C+1,bX,r,by omega,jA,c.ad [] [5],a⟩)))))))
   refine jM (bf a9) (q (g (s (kI r r) (s (lM r) (n ?_)))));obtain ⟨aa,a⟩|⟨aa,a⟩:=iv a
   ·refine jQ (bt aa) (g (s (nW r) (s (nW r) ?_)));obtain ⟨cU,aQ,a⟩:=bs a;refine s (mE r r aQ) ?_;obtain ⟨cV,aR,a⟩:=bs a;refine s (mE r r aR) (s (kZ [V b.b,V b.g,V b.n,T b.c,T b.j,V b.m,V b.f,Z h b.e j,T b.k,V b.h,Z m b.a o,Z p b.d t,Z u b.i v] lV jY r (c.bk 0 r)) ?_);obtain ⟨bY,bZ,a⟩:=bs a;refine sc (ec Oq r) (wL fu (c.pr [] [0] [3,2,1,0] r) bZ) ?_;rintro _ cW ⟨rfl,F⟩;replace c:=c.cn [] [0] F;obtain ⟨cX,aS,a⟩:=bs a;refine s (mE r r aS) ?_;obtain ⟨c0,aT,a⟩:=bs a;exact s (mE r r aT) (s (pz r) (n (g (s (lT r r) (s (mi r) (n (H (D.length - (C+1)) _ _ (by omega) ⟨C+1,c0,r,by omega,jA,c.ad [] [5],a⟩)))))))
   refine jM (bf aa) (q (g (s (kI r r) (s (lM r) (n ?_)))));obtain ⟨ab,a⟩|⟨ab,a⟩:=iv a
   ·refine jQ (bt ab) (q (rz c [0] [] [] (by kernel_rfl) ?_));replace c:=c.drew;have x:=c.dp [];refine G9 x ?_;obtain ⟨cY,aU,a⟩:=bs a;refine pF 2 r (mE r r aU) x ?_;obtain ⟨cZ,aV,a⟩:=bs a;refine pF 3 r (mE r r aV) x ?_;refine uF 4 r (fun hS=>kZ [V b.b,V b.g,V b.n,T b.c,T b.j,V b.m,V b.f,Z h b.e j,T b.k,V b.h,Z m b.a o,Z p b.d t,Z u b.i v] lV jY r (hS.bk 0 r)) x ?_;refine Qx x ?_;obtain ⟨d0,aW,a⟩:=bs a;refine pF 11 r (mE r r aW) x ?_;obtain ⟨c1,c2,a⟩:=bs a;refine hO 5 (oc r r (ec Oq r) (wL fu (c.pr [] [0] [3,2,1,0] r) c2) ?_);rintro _ d1 ⟨rfl,F⟩;replace c:=c.cn [] [0] F;have x:=c.dp [];refine ⟨sF x,?_⟩;obtain ⟨d2,aX,a⟩:=bs a;refine pF 6 r (mE r r aX) x ?_;obtain ⟨d3,aY,a⟩:=bs a;refine pF 7 r (mE r r aY) x ?_;obtain ⟨c3,c4,a⟩:=bs a;refine hO 12 (oc r r (ec OO r) (H_p03_block (c.pr [] [0] [1] r) c4) ?_);rintro _ d4 ⟨rfl,F⟩;replace c:=c.cn [] [0] F;have x:=c.dp [];refine ⟨sF x,?_⟩;obtain ⟨d5,aZ,a⟩:=bs a;refine pF 13 r (mE r r aZ) x ?_;refine yc x ?_;refine hD (q (q (g (s (Aq r) (s (l59 r (c.bk 0 r) r) (s (qG DI r) (s (xH r r) (n ?_))))))));obtain ⟨ac,a⟩|⟨ac,a⟩:=iv a
    ·refine jQ (bt ac) (g (s (nW r) (s (nW r) ?_)));obtain ⟨d6,b0,a⟩:=bs a;refine s (mE r r b0) ?_;obtain ⟨d7,b1,a⟩:=bs a;refine s (mE r r b1) (s (Aq r) (s (l59 r (c.bk 0 r) r) (s (nW r) ?_)));obtain ⟨d8,b2,a⟩:=bs a;refine s (mE r r b2) ?_;obtain ⟨c5,c6,a⟩:=bs a;refine sc (ec OO r) (H_p03_block (c.pr [] [0] [0] r) c6) ?_;rintro _ Tp ⟨rfl,F⟩;replace c:=c.cn [] [0] F;obtain ⟨d9,b4,a⟩:=bs a;refine s (mE r r b4) (s (pz r) (n (g (s (nW r) (s (nW r) ?_)))));obtain ⟨da,b5,a⟩:=bs a;refine s (mE r r b5) ?_;obtain ⟨c7,b6,a⟩:=bs a;exact s (mE r r b6) (s (pz r) (n (g (s (lT r r) (s (mi r) (n (H (D.length - (C+1)) _ _ (by omega) ⟨C+1,c7,r,by omega,jA,c.ad [] [5],a⟩)))))))
    refine jM (bf ac) (wk (g (s (nW r) (s (nW r) ?_))));obtain ⟨db,b7,a⟩:=bs a;refine s (mE r r b7) ?_;obtain ⟨c8,b8,a⟩:=bs a;exact s (mE r r b8) (s (pz r) (n (g (s (lT r r) (s (mi r) (n (H (D.length - (C+1)) _ _ (by omega) ⟨C+1,c8,r,by omega,jA,c.ad [] [5],a⟩)))))))
   refine jM (bf ab) (q (g (s (kI r r) (s (lM r) (n ?_)))));obtain ⟨ae,a⟩|⟨ae,a⟩:=iv a
   ·refine jQ (bt ae) (rz c [0] [] [] (by kernel_rfl) ?_);replace c:=c.drew;have x:=c.dp [];refine G9 x ?_;obtain ⟨dd,b9,a⟩:=bs a;refine pF 2 r (mE r r b9) x ?_;obtain ⟨de,ba,a⟩:=bs a;refine pF 3 r (mE r r ba) x ?_;refine uF 4 r (fun hS=>kZ [V b.b,V b.g,V b.n,T b.c,T b.j,V b.m,V b.f,Z h b.e j,T b.k,V b.h,Z m b.a o,Z p b.d t,Z u b.i v] lV jY r (hS.bk 0 r)) x ?_;refine Qx x ?_;obtain ⟨df,bb,a⟩:=bs a;refine pF 11 r (mE r r bb) x ?_;refine yc x ?_;obtain ⟨c9,cc,a⟩:=bs a;refine hO 5 (oc r r (ec Oq r) (wL fu (c.pr [] [0] [3,2,1,0] r) cc) ?_);rintro _ dg ⟨rfl,F⟩;replace c:=c.cn [] [0] F;have x:=c.dp [];refine ⟨sF x,?_⟩;obtain ⟨dh,bc,a⟩:=bs a;refine pF 6 r (mE r r bc) x ?_;obtain ⟨di,bg,a⟩:=bs a;refine pF 7 r (mE r r bg) x ?_;obtain ⟨cd,ce,a⟩:=bs a;refine hO 12 (oc r r (ec OO r) (H_p03_block (c.pr [] [0] [1] r) ce) ?_);rintro _ dj ⟨rfl,F⟩;replace c:=c.cn [] [0] F;have x:=c.dp [];refine ⟨sF x,?_⟩;obtain ⟨dk,bh,a⟩:=bs a;refine pF 13 r (mE r r bh) x ?_;obtain ⟨dm,bi,a⟩:=bs a;refine pF 15 r (mE r r bi) x ?_;obtain ⟨cg,bj,a⟩:=bs a;refine pF 16 r (mE r r bj) x ?_;refine yc x ?_;exact hD (g (s (lT r r) (s (mi r) (n (H (D.length - (C+1)) _ _ (by omega) ⟨C+1,cg,r,by omega,jA,c.ad [] [5],a⟩)))))
   refine jM (bf ae) (q (g (s (kI r r) (s (lM r) (n ?_)))));obtain ⟨af,a⟩|⟨af,a⟩:=iv a
   ·refine jQ (bt af) (rz c [0] [] [] (by kernel_rfl) ?_);replace c:=c.drew;have x:=c.dp [];refine G9 x ?_;obtain ⟨dn,bl,a⟩:=bs a;refine pF 2 r (mE r r bl) x ?_;obtain ⟨dq,bm,a⟩:=bs a;refine pF 3 r (mE r r bm) x ?_;refine Qx x ?_;obtain ⟨dr,bn,a⟩:=bs a;refine pF 7 r (mE r r bn) x ?_;refine Ke x ?_;refine G9 x ?_;obtain ⟨dt,bo,a⟩:=bs a;refine pF 20 r (mE r r bo) x ?_;refine yc x ?_;obtain ⟨ch,ci,a⟩:=bs a;refine hO 8 (oc r r (ec OO r) (H_p03_block (c.pr [] [0] [1] r) ci) ?_);rintro _ du ⟨rfl,F⟩;replace c:=c.cn [] [0] F;have x:=c.dp [];refine ⟨sF x,?_⟩;obtain ⟨dv,bp,a⟩:=bs a;refine pF 9 r (mE r r bp) x ?_;obtain ⟨dw,bq,a⟩:=bs a;refine pF 11 r (mE r r bq) x ?_;obtain ⟨dx,br,a⟩:=bs a;refine pF 12 r (mE r r br) x ?_;obtain ⟨dy,bu,a⟩:=bs a;refine pF 15 r (mE r r bu) x ?_;obtain ⟨dz,bv,a⟩:=bs a;refine pF 16 r (mE r r bv) x ?_;obtain ⟨cj,ck,a⟩:=bs a;refine hO 21 (oc r r (ec OO r) (H_p03_block (c.pr [] [0] [0] r) ck) ?_);rintro _ dA ⟨rfl,F⟩;replace c:=c.cn [] [0] F;have x:=c.dp [];refine ⟨sF x,?_⟩;obtain ⟨dB,bw,a⟩:=bs a;refine pF 22 r (mE r r bw) x ?_;obtain ⟨dC,bz,a⟩:=bs a;refine pF 24 r (mE r r bz) x ?_;obtain ⟨cm,bA,a⟩:=bs a;refine pF 25 r (mE r r bA) x ?_;refine yc x ?_;exact hD (g (s (lT r r) (s (mi r) (n (H (D.length - (C+1)) _ _ (by omega) ⟨C+1,cm,r,by omega,jA,c.ad [] [5],a⟩)))))
   exact jM (bf af) (wk (g (s (lT r r) (s (mi r) (n (H (D.length - (C+1)) _ _ (by omega) ⟨C+1,A,r,by omega,jA,c.ad [] [5],a⟩))))))
  obtain rfl:C=D.length:=by omega
  rw [mF,lW] at a;exact q (g (s (u6 r r) (n (q (jM r (uw (bB _ _ ⟨A,jA,c,sm a⟩)))))))
 clear c;rintro f w ⟨A,hf,c,cn⟩;obtain ⟨dN,rfl⟩:=nS hf;subst cn;replace hM:=gi hM;refine go ?_;refine lG ?_;obtain rfl:=sm hM;exact jK r (mI r) ⟨r,c.dp []⟩
theorem Nf (fu:Nat):Cc (oZ fu):=by
 induction fu with
 | zero=>exact by intro a b;intros;(try intro _);intros;exact nn (by assumption)
 | succ fu ih=>exact Pd fu (oZ fu) ih
theorem OV (fu:Nat):Cc (oZ fu):=(Nf fu)
def Pw (m:jV->Option BA):Prop:=∀ {f i}{e:jV}{a b c d h},Pre f i [] [.l a b e.a,.l c d e.b]->m e=some h-> Calls prog 33 #[.agg #[Z a e.a b,Z c e.b d]] f (rV fun v w=>v=T h/\Bx f w i (mD []) [] [])
def qM (fu:Nat):List Gr→Nat→BA→Option (Ld (BA) (BA))
 | [],_,a=>some (.go a)
 | e :: f,h,a=>
 (cat a (⟨#[114,101,99,111,114,100,32]⟩:BA)).bind fun i=>
 (cat i e.c).bind fun j=>
 (cat j (⟨#[32,123,32]⟩:BA)).bind fun k=>
 (yJ fu e.a).bind fun b=>
 (cat k b).bind fun c=>
 (cat c (⟨#[32,125,10]⟩:BA)).bind fun d=>
 qM fu f (h+1) d
def sG (fu:Nat):List Gn→Nat→BA→Option (Ld (BA) (BA))
 | [],_,a=>some (.go a)
 | b :: e,f,a=>
 (cat a (⟨#[102,117,110,99,32]⟩:BA)).bind fun h=>
 (cat h b.c).bind fun i=>
 (cat i (⟨#[40]⟩:BA)).bind fun j=>
 (yJ fu b.a).bind fun c=>
 (cat j c).bind fun k=>
 (cat k (⟨#[41,32,123,10]⟩:BA)).bind fun l=>
 (oZ fu b.d (⟨#[9]⟩:BA)).bind fun d=>
 (cat l d).bind fun m=>
 (cat m (⟨#[125,10]⟩:BA)).bind fun o=>
 sG fu e (f+1) o
def Bz (fu:Nat)(c:jV):Option BA:=(qM fu c.a 0 (⟨#[]⟩:BA)).bind fun d=>d.el (fun b=>(sG fu c.b 0 b).bind fun d=>d.el (fun a=>some a) (fun o=>some o)) (fun o=>some o)
theorem Pn (fu:Nat):Pw (Bz fu):=by
 intro w0 b3 o u v e h r0 hP H;unfold Bz at H;have b:=hP.bx;clear hP;generalize hG:mD _=G at b ⊢;refine cf func33 r (q (g (qZ b (rD r) fun w1 b1 b=>s (pz r) (n (q (g (s (pz r) (n (q (q (g (s (R6 r) (s (l23 r (b.bk 0 r) r) (s (qG KO r) (s (mi r) (n ?_))))))))))))))));have ay:=(b.dl 0 r).bd;obtain ⟨Y2,c,H⟩:=bs H;refine qQ (fun f w=>∃ p,Has f [(1,Pt b1),(3,T p)]/\Bx w0 w b3 G [.box b1 26 #[Z u o.a v,Z e o.b h]] [.l u v o.a,.l e h o.b]/\Ld.go p=Y2) (fun J2 ac=>?_) ?_
 ·refine oN (kG (fun b6 f w=>∃ I p,b6=o.a.length - I/\I<=o.a.length/\Has f [(11,V (I:Int)),(1,Pt b1),(3,T p),(9,Z u o.a v),(10,V (o.a.length:Int))]/\Bx w0 w b3 G [.box b1 26 #[Z u o.a v,Z e o.b h]] [.l u v o.a,.l e h o.b]/\qM fu (o.a.drop I) I p=some Y2) o.a.length ⟨0,(⟨#[]⟩:BA),r,uL _,jA,b,c⟩ ?_);clear b c;rintro b6 f w ⟨I,p,rfl,az,hf,b,c⟩ K2 ae;obtain ⟨b5,rfl⟩:=nS hf;obtain Q | Q:=xw I o.a.length
  ·obtain ⟨K,L⟩:=lZ (l:=o.a) Q;rw [mV L,qM] at c;obtain ⟨aA,af,b⟩:=b.nm 0 rfl L;obtain ⟨D,E,rfl,R⟩:=jX.out af;replace b:=b.ko (d:=.l D E K.a) R;refine q (g (s (vC r r) (n (q (jQ r (wk (q (oN (q (g (s (kR KO zw r r r (b.dl 2 r) L) (s (lK [T K.c,Z D K.a E] NW r zw r r (b.dc 1 r)) (qZ b (jN zw) fun w4 b4 b=>kV (mQ b 0 [T K.c,Z D K.a E] r zw r r) fun w5 b=>n (rz b [0] [] [] (by kernel_rfl) ?_))))))))))))));replace b:=b.drew;have m:=b.ad [0] [];refine yc m ?_;obtain ⟨g6,ag,c⟩:=bs c;refine pF 1 r (mE r r ag) m ?_;refine G9 m ?_;obtain ⟨g7,ah,c⟩:=bs c;refine pF 4 r (mE r r ah) m ?_;obtain ⟨g8,ai,c⟩:=bs c;refine pF 5 r (mE r r ai) m ?_;refine G9 m ?_;obtain ⟨au,h9,c⟩:=bs c;refine hO 8 (oc r r (ec (vT func63) r) (IY fu (b.pr [] [0,1] [0] r) h9) ?_);rintro _ w9 ⟨rfl,S⟩;replace b:=b.cn [] [0,1] S;have m:=b.ad [0] [];refine ⟨sF m,?_⟩;obtain ⟨aC,U,c⟩:=bs c;refine pF 9 r (mE r r U) m ?_;obtain ⟨aj,W,c⟩:=bs c;refine pF 10 r (mE r r W) m ?_;refine yc m ?_;exact hD (g (s (lT r r) (s (mi r) (n (ae (o.a.length - (I+1)) _ _ (by omega) ⟨I+1,aj,r,by omega,jA,b.ad [1] [2,3],c⟩)))))
  obtain rfl:I=o.a.length:=by omega
  rw [mF,qM] at c;exact q (g (s (u6 r r) (n (q (jM r (uw (ac _ _ ⟨p,jA,b,sm c⟩)))))))
 clear b;rintro f w ⟨p,hf,b,ak⟩;obtain ⟨b5,rfl⟩:=nS hf;subst ak;replace H:=gi H;refine q (q (g (s (JR r) (s (l24 r (b.bk 0 r) r) (s (qG Gl r) (s (mi r) (n ?_)))))));have av:=(b.dl 1 r).bd;obtain ⟨X,a,H⟩:=bs H;refine qQ (fun f w=>∃ j,Has f [(3,T j)]/\Bx w0 w b3 G [] [.l e h o.b]/\Ld.go j=X) (fun aD Y=>?_) ?_
 ·refine oN (kG (fun b6 f w=>∃ x j,b6=o.b.length - x/\x<=o.b.length/\Has f [(30,V (x:Int)),(3,T j),(28,Z e o.b h),(29,V (o.b.length:Int))]/\Bx w0 w b3 G [] [.l e h o.b]/\sG fu (o.b.drop x) x j=some X) o.b.length ⟨0,p,r,uL _,jA,b.ad [] [1],a⟩ ?_);clear b a;rintro b6 f w ⟨x,j,rfl,aw,hf,b,a⟩ aE a0;obtain ⟨b5,rfl⟩:=nS hf;obtain J | J:=xw x o.b.length
  ·obtain ⟨t,F⟩:=lZ (l:=o.b) J;rw [mV F,sG] at a;obtain ⟨ax,a1,b⟩:=b.nm 0 rfl F;obtain ⟨z,A,B,C,rfl,M,N⟩:=kC.out a1;replace b:=b.ko (d:=.l z A t.a) M;replace b:=b.ko (d:=.l B C t.d) N;refine q (g (s (vC r r) (n (q (jQ r (wk (q (oN (q (g (s (kR Gl oU r r r (b.dl 3 r) F) (s (lK [T t.c,V t.g,Z z t.a A,Z B t.d C] Gg r oU r r (b.dc 2 r)) (qZ b (jN oU) fun aF aG b=>kV (mQ b 0 [T t.c,V t.g,Z z t.a A,Z B t.d C] r oU r r) fun aH b=>n (rz b [0] [] [] (by kernel_rfl) ?_))))))))))))));replace b:=b.drew;have m:=b.dp [];refine yc m ?_;obtain ⟨aI,a2,a⟩:=bs a;refine pF 1 r (mE r r a2) m ?_;refine G9 m ?_;obtain ⟨aJ,a3,a⟩:=bs a;refine pF 4 r (mE r r a3) m ?_;obtain ⟨aK,a4,a⟩:=bs a;refine pF 5 r (mE r r a4) m ?_;refine Ke m ?_;obtain ⟨al,am,a⟩:=bs a;refine hO 8 (oc r r (ec (vT func63) r) (IY fu (b.pr [] [0] [1] r) am) ?_);rintro _ aL ⟨rfl,S⟩;replace b:=b.cn [] [0] S;have m:=b.dp [];refine ⟨sF m,?_⟩;obtain ⟨aM,a5,a⟩:=bs a;refine pF 9 r (mE r r a5) m ?_;obtain ⟨aN,a6,a⟩:=bs a;refine pF 10 r (mE r r a6) m ?_;obtain ⟨an,ao,a⟩:=bs a;refine hO 13 (oc r r (ec OO r) (OV fu (b.pr [] [0] [0] r) ao) ?_);rintro _ aO ⟨rfl,S⟩;replace b:=b.cn [] [0] S;have m:=b.dp [];refine ⟨sF m,?_⟩;obtain ⟨aP,a7,a⟩:=bs a;refine pF 14 r (mE r r a7) m ?_;obtain ⟨ap,a8,a⟩:=bs a;refine pF 15 r (mE r r a8) m ?_;refine yc m ?_;exact hD (g (s (lT r r) (s (mi r) (n (a0 (o.b.length - (x+1)) _ _ (by omega) ⟨x+1,ap,r,by omega,jA,b.ad [] [3],a⟩)))))
  obtain rfl:x=o.b.length:=by omega
  rw [mF,sG] at a;exact q (g (s (u6 r r) (n (q (jM r (uw (Y _ _ ⟨j,jA,b,sm a⟩)))))))
 clear b;rintro f w ⟨j,hf,b,a9⟩;obtain ⟨b5,rfl⟩:=nS hf;subst a9;replace H:=gi H;refine go ?_;refine lG ?_;obtain rfl:=sm H;exact jK r (mI r) ⟨r,b.dp []⟩
end
end Go.Proofs.YtdkneekpdecjbaaGreat
