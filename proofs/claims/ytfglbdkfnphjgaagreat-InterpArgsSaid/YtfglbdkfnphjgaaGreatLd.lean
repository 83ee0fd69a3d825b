/- Contracts, printed by gen3.py. -/
import Derived.Test.YtfglbdkfnphjgaaGreatZ4
import Derived.Test.YtfglbdkfnphjgaaGreatLa
set_option linter.unusedVariables false
set_option maxHeartbeats 12800000
set_option linter.unusedSimpArgs false
set_option maxRecDepth 4000
namespace Go.Proofs.YtfglbdkfnphjgaaGreat
open Go.RowKit Go.Fw Go.Proofs.Tryz
noncomputable section
abbrev yL:=jA->Int->Option (ByteArray)
def AZ (m:Ge->Int->Option BA):Prop:=∀ {d h}{c:Ge}{e a b f},Pre d h [] [.l a b c.a]->m c e=some f-> Calls prog 58 #[.agg #[V c.e,V c.d,V c.g,T c.b,T c.c,Z a c.a b],V e] d (pz fun v w=>v=T f/\Bx d w h (lD []) [] [])
def ze (fu:Nat)(r_r03_Expr:yL) (a:Ge):Option (Ld Bool BA):=if a.e=3 then some (.go (decide (0 < (a.a.length:Int)))) else some (.go false)
def yY (fu:Nat)(r_r03_Expr:yL) (b:Ge) (a:Int):Option (Ld Bool BA):=if a=5 then some (.go (decide (0 < (b.a.length:Int)))) else some (.go false)
def yQ (fu:Nat)(r_r03_Expr:yL) (a:Int):Option (Ld Int BA):=if a=1 then some (.go 2) else some (.go a)
def y7 (fu:Nat)(r_r03_Expr:yL) (a:Ge) (b:Int):Option (Ld BA BA):=if a.e=0 then (rJ fu a.d).bind fun j=>some (.go j) else if a.e=2 then (cat a.b (⟨#[46]⟩:BA)).bind fun F=>(cat F a.c).bind fun G=>some (.go G) else (ze fu r_r03_Expr a).bind fun H=>H.el (fun k=>if k=true then (ix a.a 0).bind fun l=>(cat a.b (⟨#[91]⟩:BA)).bind fun m=>(r_r03_Expr l 1).bind fun c=>(cat m c).bind fun p=>(cat p (⟨#[93]⟩:BA)).bind fun t=>some (.go t) else (yY fu r_r03_Expr a b).bind fun H=>H.el (fun d=>if d=true then (ix a.a 0).bind fun u=>(ix ([(⟨#[45]⟩:BA),(⟨#[33]⟩:BA)]:List BA) (wr (a.e - 4))).bind fun v=>(r_r03_Expr u 5).bind fun e=>(cat v e).bind fun w=>some (.go w) else if b < 5 then if 1 < (a.a.length:Int) then (yQ fu r_r03_Expr b).bind fun H=>H.el (fun f=>(ix a.a 0).bind fun x=>(ix a.a 1).bind fun z=>(ix ([(⟨#[43]⟩:BA),(⟨#[45]⟩:BA),(⟨#[42]⟩:BA),(⟨#[47]⟩:BA),(⟨#[37]⟩:BA),(⟨#[38]⟩:BA),(⟨#[124]⟩:BA),(⟨#[94]⟩:BA),(⟨#[60]⟩:BA),(⟨#[60,61]⟩:BA),(⟨#[61,61]⟩:BA),(⟨#[33,61]⟩:BA)]:List BA) (wr (a.e - 6))).bind fun A=>(r_r03_Expr x f).bind fun h=>(cat h (⟨#[32]⟩:BA)).bind fun B=>(cat B A).bind fun C=>(cat C (⟨#[32]⟩:BA)).bind fun D=>(r_r03_Expr z (wr (b+1))).bind fun i=>(cat D i).bind fun E=>some (.go E)) (fun o=>some (.out o)) else some (.go a.b) else some (.go a.b)) (fun o=>some (.out o))) (fun o=>some (.out o))
def z8 (fu:Nat)(r_r03_Expr:yL) (e:Ge) (f:Int):Option BA:=(AO fu e.e).bind fun a=>(y7 fu r_r03_Expr e a).bind fun h=>h.el (fun b=>if a < f then (cat (⟨#[40]⟩:BA) b).bind fun c=>(cat c (⟨#[41]⟩:BA)).bind fun d=>some d else some b) (fun o=>some o)
def EO:Nat→(Ge→Int→Option (BA))
 | 0=>(fun _ _=>none)
 | fu+1=>z8 fu (EO fu)
def pU (fu:Nat):=(EO fu)
theorem MR (fu:Nat)(r_r03_Expr:yL) (H_r03_Expr:AZ r_r03_Expr):AZ (z8 fu r_r03_Expr):=by
 intro w0 bU e x1 j m r0 hP v;unfold z8 at v;have b:=hP.bx;clear hP;generalize hG:lD _=G at b ⊢;refine cf func58 r (lu [(0,.agg #[V e.e,V e.d,V e.g,T e.b,T e.c,Z j e.a m]),(1,V x1)] ⟨r,r,y⟩ fun bV=>q (g (rE b (tO r) fun w1 b1 b=>s (mP r) (n (q (g (s (Bj r) (s (l3 r (b.bk 0 r) r) ?_))))))));obtain ⟨p,h2,v⟩:=bs v;refine sc (ec YH r) (Mw fu (b.pr [] [0] [] r) h2) ?_;rintro _ w2 ⟨rfl,x⟩;replace b:=b.cn [] [0] x;refine s (xi r) (n (q (g (s (LJ r) (s (l9 r (b.bk 0 r) r) (s (mP r) (n (q ?_))))))));obtain ⟨Y3,a,v⟩:=bs v;refine qF (fun f w=>∃ N,Has f [(1,V x1),(5,V p),(6,T N)]/\Bx w0 w bU G [] []/\Ld.go N=Y3) (fun J3 z=>?_) ?_
 ·unfold y7 at a;refine o9 (q (g (s (Bj r) (s (l3 r (b.bk 0 r) r) (s (kR r r) (s (kr r) (n ?_)))))));rcases iv a with ⟨h4,a⟩|⟨h4,a⟩
  ·refine jM (bt h4) (g (s (Ke r) (s (l3 r (b.bk 0 r) r) ?_)));obtain ⟨ao,h5,a⟩:=bs a;refine sc (ec JA r) (Bp fu (b.pr [] [0] [] r) h5) ?_;rintro _ w5 ⟨rfl,x⟩;replace b:=b.cn [] [0] x;exact s (mP r) (n (z _ _ ⟨ao,⟨r,r,r,y⟩,b.ad [] [],sm a⟩))
  refine jJ (bf h4) (q (g (s (Bj r) (s (l3 r (b.bk 0 r) r) (s (kR r r) (s (kr r) (n ?_)))))));rcases iv a with ⟨h6,a⟩|⟨h6,a⟩
  ·refine jM (bt h6) (g (s (LJ r) (s (l9 r (b.bk 0 r) r) ?_)));obtain ⟨g7,aR,a⟩:=bs a;refine s (lV r r aR) (s (RB r) (s (l9 r (b.bk 0 r) r) ?_));obtain ⟨g8,aS,a⟩:=bs a;exact s (lV r r aS) (s (mP r) (n (z _ _ ⟨g8,⟨r,r,r,y⟩,b.ad [] [],sm a⟩)))
  refine jJ (bf h6) (q ?_);obtain ⟨Y9,M,a⟩:=bs a;refine IE b (fun B f w=>∃ Q,Has f [(1,V x1),(2,Pt b1),(5,V p),(6,T e.b),(31,.bool Q)]/\B w/\Ld.go Q=Y9) (fun J9 ap=>?_) ?_
  ·unfold ze at M;refine g (s (Bj r) (s (l3 r (b.bk 0 r) r) (s (kR r r) (s (kQ r) ?_))));rcases iv M with ⟨a8,M⟩|⟨a8,M⟩
   ·rw [sQ a8];exact ku r (s (BM r) (ku r (s (AU r (b.bk 0 r) r) (ku r (s (lK tu r) (ku r (s (uL r r) (s (kF r r) (s (kr r) (n (ap _ _ ⟨decide (0 < (e.a.length:Int)),⟨r,r,r,r,r,y⟩,b,sm M⟩)))))))))))
   rw [tF a8];exact jK r (jK r (jK r (jK r (s (jY r r) (s (kr r) (n (ap _ _ ⟨false,⟨r,r,r,r,r,y⟩,b,sm M⟩)))))))
  clear b;rintro f w ⟨Q,hf,b,aT⟩;obtain ⟨bV,rfl⟩:=mY hf;subst aT;replace a:=gi a;rcases iv a with ⟨R,a⟩|⟨R,a⟩
  ·refine jM (cb R) ?_;obtain ⟨A,H,a⟩:=bs a;obtain ⟨bl,aq,H⟩:=kK H;obtain ⟨b9,ar,b⟩:=b.nm 0 rfl H;obtain ⟨S,U,rfl,a9⟩:=jA.out ar;replace b:=b.kC (d:=.l S U A.a) a9;refine qo b [0] [0,1,2] [] (by kernel_rfl) ?_;replace b:=b.drew;have c:=b;refine pF 0 r (LJ r) c (uF 1 r (fun hS=>l9 r (hS.bk 0 r) r) c ?_);obtain ⟨bm,au,a⟩:=bs a;refine pF 2 r (lV r r au) c (pF 3 r (BM r) c (uF 4 r (fun hS=>AU r (hS.bk 0 r) r) c (pF 5 r (kV tu jR r r aq (b.dl 2 r) H) c (uF 6 r (fun hS=>mU [V A.e,V A.d,V A.g,T A.b,T A.c,Z S A.a U] l6 r jR r r (hS.dc 1 r)) c ?_))));obtain ⟨aU,aV,a⟩:=bs a;refine hO 7 (oc r r (ec FL r) (H_r03_Expr (b.pr [] [0] [0] r) aV) ?_);rintro _ bn ⟨rfl,x⟩;replace b:=b.cn [] [0] x;have c:=b;refine ⟨sF c,?_⟩;obtain ⟨bo,av,a⟩:=bs a;refine pF 8 r (lV r r av) c ?_;obtain ⟨aW,aw,a⟩:=bs a;exact pF 9 r (lV r r aw) c (pF 10 r (mP r) c (hD (z _ _ ⟨aW,⟨r,r,r,y⟩,b.ad [] [],sm a⟩)))
  refine jJ (vY R) (q ?_);obtain ⟨aX,t,a⟩:=bs a;refine IE b (fun Q f w=>∃ B,Has f [(1,V x1),(2,Pt b1),(5,V p),(6,T e.b),(51,.bool B)]/\Q w/\Ld.go B=aX) (fun bp a5=>?_) ?_
  ·unfold yY at t;refine g (s (mi r) (s (kR r r) (s (kQ r) ?_)));rcases iv t with ⟨aa,t⟩|⟨aa,t⟩
   ·rw [sQ aa];exact ku r (s (BM r) (ku r (s (AU r (b.bk 0 r) r) (ku r (s (lK tu r) (ku r (s (uL r r) (s (kF r r) (s (kr r) (n (a5 _ _ ⟨decide (0 < (e.a.length:Int)),⟨r,r,r,r,r,y⟩,b,sm t⟩)))))))))))
   rw [tF aa];exact jK r (jK r (jK r (jK r (s (jY r r) (s (kr r) (n (a5 _ _ ⟨false,⟨r,r,r,r,r,y⟩,b,sm t⟩)))))))
  clear b;rintro f w ⟨B,hf,b,ax⟩;obtain ⟨bV,rfl⟩:=mY hf;subst ax;replace a:=gi a;rcases iv a with ⟨W,a⟩|⟨W,a⟩
  ·refine jM (cb W) ?_;obtain ⟨C,I,a⟩:=bs a;obtain ⟨bq,ay,I⟩:=kK I;obtain ⟨ba,az,b⟩:=b.nm 0 rfl I;obtain ⟨X,Y,rfl,ab⟩:=jA.out az;replace b:=b.kC (d:=.l X Y C.a) ab;obtain ⟨ac,o,a⟩:=bs a;obtain ⟨br,a6,o⟩:=kK o;obtain ⟨aY,ae,a⟩:=bs a;obtain ⟨aA,a0,a⟩:=bs a;refine qF (fun f w=>Has f [(1,V x1),(5,V p),(6,T aA)]/\Bx w0 w bU G [] []) (fun Jd hJd=>?_) ?_
   ·refine qo b [0] [0,1,2] [] (by kernel_rfl) ?_;replace b:=b.drew;have c:=b;refine pF 1 r (Bj r) c (uF 2 r (fun hS=>l3 r (hS.bk 0 r) r) c (pF 3 r (wm r r) c (pF 6 r (BM r) c (uF 7 r (fun hS=>AU r (hS.bk 0 r) r) c (pF 8 r (kV tu jR r r ay (b.dl 2 r) I) c (uF 9 r (fun hS=>mU [V C.e,V C.d,V C.g,T C.b,T C.c,Z X C.a Y] l6 r jR r r (hS.dc 1 r)) c (nL 0 [10] (by kernel_rfl) (jP ?_ (jP ?_ l7)))))))))
    ·refine oo r r (jN b [[T (⟨#[45]⟩:BA)],[T (⟨#[33]⟩:BA)]] ([(⟨#[45]⟩:BA),(⟨#[33]⟩:BA)]:List BA) (vT r r) r r (by decide) ⟨r,⟨r,y⟩⟩) ?_;rintro _ bu ⟨bv,rfl,b⟩;have c:=b.ad [1] [1,2,3];refine ⟨sF c,pF 4 r (kV kX pO r r a6 (b.vw 0 0 r r) o) c (nL 5 [10] (by kernel_rfl) (jP ?_ (jP ?_ l7)))⟩
     ·have c:=b.ad [1] [1,2,3];refine uW r r (jS uM r r ((tC (ds:=[T ac]) (b.vw 0 0 r r) o (fun _ h=>h)) 0 _ r)) (sF c) (hO 10 (oc r r (ec FL r) (H_r03_Expr (b.pr [] [0,1] [1] r) ae) ?_));rintro _ aB ⟨rfl,x⟩;replace b:=b.cn [] [0,1] x;have c:=b.ad [1] [1,2,3];exact ⟨sF c,pF 11 r (lV r r a0) c (pF 12 r (mP r) c (hD (hJd _ _ ⟨⟨r,r,r,y⟩,b.ad [] []⟩)))⟩
     refine oc r r (ec FL r) (H_r03_Expr (b.pr [] [0,1] [1] r) ae) ?_;rintro _ aB ⟨rfl,x⟩;replace b:=b.cn [] [0,1] x;have c:=b.ad [1] [1,2,3];exact ⟨sF c,hO 5 (uW r r (jS uM r r ((tC (ds:=[T ac]) (b.vw 0 0 r r) o (fun _ h=>h)) 0 _ r)) (sF c) (pF 11 r (lV r r a0) c (pF 12 r (mP r) c (hD (hJd _ _ ⟨⟨r,r,r,y⟩,b.ad [] []⟩)))))⟩
    refine oc r r (ec FL r) (H_r03_Expr (b.pr [] [0] [0] r) ae) ?_;rintro _ aB ⟨rfl,x⟩;replace b:=b.cn [] [0] x;have c:=b;refine ⟨sF c,hO 0 (oo r r (jN b [[T (⟨#[45]⟩:BA)],[T (⟨#[33]⟩:BA)]] ([(⟨#[45]⟩:BA),(⟨#[33]⟩:BA)]:List BA) (vT r r) r r (by decide) ⟨r,⟨r,y⟩⟩) ?_)⟩;rintro _ bw ⟨bz,rfl,b⟩;have c:=b.ad [1] [1,2,3];exact ⟨sF c,pF 4 r (kV kX pO r r a6 (b.vw 0 0 r r) o) c (hO 5 (uW r r (jS uM r r ((tC (ds:=[T ac]) (b.vw 0 0 r r) o (fun _ h=>h)) 0 _ r)) (sF c) (pF 11 r (lV r r a0) c (pF 12 r (mP r) c (hD (hJd _ _ ⟨⟨r,r,r,y⟩,b.ad [] []⟩))))))⟩
   clear b;rintro f w ⟨hf,b⟩;obtain ⟨bV,rfl⟩:=mY hf;exact z _ _ ⟨aA,⟨r,r,r,y⟩,b,sm a⟩
  refine jJ (vY W) (q (g (s (mi r) (s (qp r r) (s (kQ r) ?_)))));rcases iv a with ⟨af,a⟩|⟨af,a⟩
  ·rw [sQ af];refine ku r (s (BM r) (ku r (s (AU r (b.bk 0 r) r) (ku r (s (lK tu r) (ku r (s (uL r r) (s (kF r r) (s (kr r) (n ?_))))))))));rcases iv a with ⟨ag,a⟩|⟨ag,a⟩
   ·refine jM (bt ag) (q (g (nM (jN b [[T (⟨#[43]⟩:BA)],[T (⟨#[45]⟩:BA)],[T (⟨#[42]⟩:BA)],[T (⟨#[47]⟩:BA)],[T (⟨#[37]⟩:BA)],[T (⟨#[38]⟩:BA)],[T (⟨#[124]⟩:BA)],[T (⟨#[94]⟩:BA)],[T (⟨#[60]⟩:BA)],[T (⟨#[60,61]⟩:BA)],[T (⟨#[61,61]⟩:BA)],[T (⟨#[33,61]⟩:BA)]] ([(⟨#[43]⟩:BA),(⟨#[45]⟩:BA),(⟨#[42]⟩:BA),(⟨#[47]⟩:BA),(⟨#[37]⟩:BA),(⟨#[38]⟩:BA),(⟨#[124]⟩:BA),(⟨#[94]⟩:BA),(⟨#[60]⟩:BA),(⟨#[60,61]⟩:BA),(⟨#[61,61]⟩:BA),(⟨#[33,61]⟩:BA)]:List BA) (Fe r r r r r r r r r r r r) r r (by decide) ⟨r,⟨r,⟨r,⟨r,⟨r,⟨r,⟨r,⟨r,⟨r,⟨r,⟨r,⟨r,y⟩⟩⟩⟩⟩⟩⟩⟩⟩⟩⟩⟩) ?_)));rintro _ bA ⟨aC,rfl,b⟩;refine s (nk r) (n (q (g (s (mi r) (s (xi r) (n (q ?_)))))));obtain ⟨aZ,u,a⟩:=bs a;refine IE b (fun B f w=>∃ D,Has f [(1,V x1),(2,Pt b1),(5,V p),(7,.slice (ad aC) ([(⟨#[43]⟩:BA),(⟨#[45]⟩:BA),(⟨#[42]⟩:BA),(⟨#[47]⟩:BA),(⟨#[37]⟩:BA),(⟨#[38]⟩:BA),(⟨#[124]⟩:BA),(⟨#[94]⟩:BA),(⟨#[60]⟩:BA),(⟨#[60,61]⟩:BA),(⟨#[61,61]⟩:BA),(⟨#[33,61]⟩:BA)]:List BA).length 12),(8,V D)]/\B w/\Ld.go D=aZ) (fun bB a7=>?_) ?_
    ·unfold yQ at u;refine q (g (s (mi r) (s (kR r r) (n ?_))));rcases iv u with ⟨ah,u⟩|⟨ah,u⟩
     ·exact jM (bt ah) (g (s (xi r) (n (a7 _ _ ⟨2,⟨r,r,r,r,r,y⟩,b,sm u⟩))))
     exact jJ (bf ah) (wk (a7 _ _ ⟨p,⟨r,r,r,r,r,y⟩,b,sm u⟩))
    clear b;rintro f w ⟨D,hf,b,aD⟩;obtain ⟨bV,rfl⟩:=mY hf;subst aD;replace a:=gi a;obtain ⟨E,J,a⟩:=bs a;obtain ⟨bC,aE,J⟩:=kK J;obtain ⟨bb,aF,b⟩:=b.nm 1 rfl J;obtain ⟨a1,a2,rfl,ai⟩:=jA.out aF;replace b:=b.kC (d:=.l a1 a2 E.a) ai;obtain ⟨F,K,a⟩:=bs a;obtain ⟨bD,aG,K⟩:=kK K;obtain ⟨bc,aH,b⟩:=b.nm 3 rfl K;obtain ⟨a3,a4,rfl,aj⟩:=jA.out aH;replace b:=b.kC (d:=.l a3 a4 F.a) aj;refine qo b [0,1] [0,1,2,3,4,5] [] (by kernel_rfl) ?_;replace b:=b.drew;have c:=b;refine pF 0 r (BM r) c (uF 1 r (fun hS=>AU r (hS.bk 1 r) r) c (pF 2 r (kV tu jR r r aE (b.dl 5 r) J) c (uF 3 r (fun hS=>mU [V E.e,V E.d,V E.g,T E.b,T E.c,Z a1 E.a a2] l6 r jR r r (hS.dc 3 r)) c (pF 4 r (mi r) c (pF 7 r (mH r) c (pF 8 r (Bj r) c (uF 9 r (fun hS=>l3 r (hS.bk 1 r) r) c (pF 10 r (wm r r) c ?_))))))));obtain ⟨b0,L,a⟩:=bs a;obtain ⟨bE,aI,L⟩:=kK L;refine pF 11 r (kV kX pO r r aI (b.vw 0 4 r r) L) c (tU 12 r (fun _ hS=>jS uM r r ((tC (ds:=[T b0]) (hS.vw 0 4 r r) L (fun _ h=>h)) 0 _ r)) (sF c) (pF 15 r (BM r) c (uF 16 r (fun hS=>AU r (hS.bk 1 r) r) c (pF 17 r (kV tu jR r r aG (b.dl 5 r) K) c (uF 18 r (fun hS=>mU [V F.e,V F.d,V F.g,T F.b,T F.c,Z a3 F.a a4] l6 r jR r r (hS.dc 1 r)) c (pF 19 r (mi r) c (pF 20 r (kS r r) c ?_)))))));obtain ⟨b2,b3,a⟩:=bs a;refine hO 5 (oc r r (ec FL r) (H_r03_Expr (b.pr [] [0,1] [2] r) b3) ?_);rintro _ bF ⟨rfl,x⟩;replace b:=b.cn [] [0,1] x;have c:=b;refine ⟨sF c,?_⟩;obtain ⟨bG,aJ,a⟩:=bs a;refine pF 6 r (lV r r aJ) c ?_;obtain ⟨bH,aK,a⟩:=bs a;refine pF 13 r (lV r r aK) c ?_;obtain ⟨bI,aL,a⟩:=bs a;refine pF 14 r (lV r r aL) c ?_;obtain ⟨b4,b5,a⟩:=bs a;refine hO 21 (oc r r (ec FL r) (H_r03_Expr (b.pr [] [0,1] [0] r) b5) ?_);rintro _ bJ ⟨rfl,x⟩;replace b:=b.cn [] [0,1] x;have c:=b;refine ⟨sF c,?_⟩;obtain ⟨b6,aM,a⟩:=bs a
    exact pF 22 r (lV r r aM) c (pF 23 r (mP r) c (hD (z _ _ ⟨b6,⟨r,r,r,y⟩,b.ad [] [],sm a⟩)))
   exact jJ (bf ag) (wk (z _ _ ⟨e.b,⟨r,r,r,y⟩,b.ad [] [],sm a⟩))
  rw [tF af];exact jK r (jK r (jK r (jK r (s (jY r r) (s (kr r) (n (jJ r (wk (z _ _ ⟨e.b,⟨r,r,r,y⟩,b.ad [] [],sm a⟩)))))))))
 clear b;rintro f w ⟨N,hf,b,b7⟩;obtain ⟨bV,rfl⟩:=mY hf;subst b7;replace v:=gi v;refine q (q (g (s (mi r) (s (mi r) (s (qp r r) (n ?_))))));rcases iv v with ⟨ak,v⟩|⟨ak,v⟩
 ·refine jM (bt ak) (q (g (s (lF r) ?_)));obtain ⟨bK,aN,v⟩:=bs v;refine s (lV r r aN) ?_;obtain ⟨bL,aO,v⟩:=bs v;refine s (lV r r aO) (s (mP r) (n (kD ?_)));obtain rfl:=sm v;exact jB r (kH r) ⟨r,b⟩
 refine jJ (bf ak) (wk (q (g (s (lF r) (s (mP r) (n (kD ?_)))))));obtain rfl:=sm v;exact jB r (kH r) ⟨r,b⟩
theorem LC (fu:Nat):AZ (pU fu):=by
 induction fu with
 | zero=>exact by intro a b;intros;(try intro _);intros;exact nn (by assumption)
 | succ fu ih=>exact MR fu (pU fu) ih
theorem FT (fu:Nat):AZ (pU fu):=(LC fu)
def L9 (m:(List Ge)->Option BA):Prop:=∀ {c f d a b e},Pre c f [] [.l a b d]->m d=some e-> Calls prog 86 #[Z a d b] c (pz fun v w=>v=T e/\Bx c w f (lD []) [] [])
def za (fu:Nat)(a:BA) (b:Nat):Option (Ld BA BA):=if 0 < (b:Int) then (cat a (⟨#[44,32]⟩:BA)).bind fun c=>some (.go c) else some (.go a)
def rY (fu:Nat):List Ge→Nat→BA→Option (Ld (BA) (BA))
 | [],_,a=>some (.go a)
 | e :: f,d,a=>
 (za fu a d).bind fun i=>i.el (fun b=>
 (pU fu e 1).bind fun c=>
 (cat b c).bind fun h=>
 rY fu f (d+1) h
 ) (fun o=>some (.out o))
def yM (fu:Nat)(b:(List Ge)):Option BA:=(rY fu b 0 (⟨#[]⟩:BA)).bind fun c=>c.el (fun a=>some a) (fun o=>some o)
theorem FC (fu:Nat):L9 (yM fu):=by
 intro B aa o h i r0 L v;unfold yM at v;have c:=L.bx;clear L;generalize hG:lD _=G at c ⊢;refine cf func86 r (lu [(0,Z h o i)] ⟨r,y⟩ fun ab=>q (g (s (mP r) (n (q (g (s (mP r) (n (q (q (g (s (mH r) (s (lK tu r) (s (mi r) (n ?_)))))))))))))));have R:=(c.dl 0 r).bd;obtain ⟨M,b,v⟩:=bs v;refine qF (fun f w=>∃ e,Has f [(3,T e)]/\Bx B w aa G [] [.l h i o]/\Ld.go e=M) (fun J1 C=>?_) ?_
 ·refine o9 (kI (fun ac f w=>∃ p e,ac=o.length - p/\p<=o.length/\Has f [(8,V (p:Int)),(3,T e),(6,Z h o i),(7,V (o.length:Int))]/\Bx B w aa G [] [.l h i o]/\rY fu (o.drop p) p e=some M) o.length ⟨0,(⟨#[]⟩:BA),r,Nat.zero_le _,⟨r,r,r,r,y⟩,c,b⟩ ?_);clear c b;rintro ac f w ⟨p,e,rfl,S,hf,c,b⟩ K1 D;obtain ⟨ab,rfl⟩:=mY hf;rcases Nat.lt_or_ge p o.length with x | x
  ·obtain ⟨a,u⟩:=lT (l:=o) x;rw [l8 u,rY] at b;obtain ⟨U,E,c⟩:=c.nm 0 rfl u;obtain ⟨j,k,rfl,z⟩:=jA.out E;replace c:=c.kC (d:=.l j k a.a) z;refine q (g (s (uK r r (by omega)) (n (q (jM r (wk (q (o9 (q (g (s (mi r) (s (kV tu jR r r r (c.dl 2 r) u) (s (mU [V a.e,V a.d,V a.g,T a.b,T a.c,Z j a.a k] l6 r jR r r (c.dc 1 r)) (rE c (jX jR) fun w3 N c=>s (xi r) (lq (nZ c 0 [V a.e,V a.d,V a.g,T a.b,T a.c,Z j a.a k] r jR r r) fun w4 c=>n (q ?_))))))))))))))));obtain ⟨W,m,b⟩:=bs b;refine IE (c.dp [0,2]) (fun Q f w=>∃ t,Has f [(3,T t),(5,Pt N),(6,Z h o i),(7,V (o.length:Int)),(8,V (p:Int))]/\Q w/\Ld.go t=W) (fun J5 A=>?_) ?_
   ·unfold za at m;refine q (g (s (mi r) (s (uL r r) (n ?_))));rcases iv m with ⟨F,m⟩|⟨F,m⟩
    ·refine jM (bt F) (g (s (lF r) ?_));obtain ⟨X,H,m⟩:=bs m;exact s (lV r r H) (s (mP r) (n (A _ _ ⟨X,⟨r,r,r,r,r,y⟩,c.dp [0,2],sm m⟩)))
    exact jJ (bf F) (wk (A _ _ ⟨e,⟨r,r,r,r,r,y⟩,c.dp [0,2],sm m⟩))
   clear c;rintro f w ⟨t,hf,c,I⟩;obtain ⟨ab,rfl⟩:=mY hf;subst I;replace b:=gi b;refine g (s (lF r) (s (lY [V a.e,V a.d,V a.g,T a.b,T a.c,Z j a.a k] l6 jR r (c.bk 0 r)) ?_));obtain ⟨Q,Y,b⟩:=bs b;refine sc (ec FL r) (FT fu (c.pr [] [0] [0] r) Y) ?_;rintro _ w8 ⟨rfl,hK⟩;replace c:=c.cn [] [0] hK;obtain ⟨g9,J,b⟩:=bs b;exact s (lV r r J) (s (mP r) (n (g (s (ng r r (by omega) (by omega)) (s (mi r) (n (D (o.length - (p+1)) _ _ (by omega) ⟨p+1,g9,r,by omega,⟨r,r,r,r,y⟩,c.ad [] [1],b⟩)))))))
  obtain rfl:p=o.length:=by omega
  rw [lM,rY] at b;exact q (g (s (uJ r r (by omega)) (n (q (jJ r (uy (C _ _ ⟨e,⟨r,y⟩,c,sm b⟩)))))))
 clear c;rintro f w ⟨e,hf,c,K⟩;obtain ⟨ab,rfl⟩:=mY hf;subst K;replace v:=gi v;refine q (g (s (lF r) (s (mP r) (n (kD ?_)))));obtain rfl:=sm v;exact jB r (kH r) ⟨r,c.dp []⟩
def Kc (m:(List BA)->Option BA):Prop:=∀ {c f d a b e},Pre c f [] [.l a b d]->m d=some e-> Calls prog 42 #[Z a d b] c (pz fun v w=>v=T e/\Bx c w f (lD []) [] [])
def oK (fu:Nat):List BA→Nat→BA→Option (Ld (BA) (BA))
 | [],_,a=>some (.go a)
 | c :: d,b,a=>
 if 0 < (b:Int) then
  (cat a (⟨#[44,32]⟩:BA)).bind fun e=>
  (cat e c).bind fun f=>
  oK fu d (b+1) f
 else
  (cat a c).bind fun h=>
  oK fu d (b+1) h
def wO (fu:Nat)(b:(List BA)):Option BA:=(oK fu b 0 (⟨#[]⟩:BA)).bind fun c=>c.el (fun a=>some a) (fun o=>some o)
theorem El (fu:Nat):Kc (wO fu):=by
 intro B R e c d K C m;unfold wO at m;have i:=C.bx;clear C;generalize L:lD _=G at i ⊢;refine cf func42 r (lu [(0,Z c e d)] ⟨r,y⟩ fun S=>q (g (s (mP r) (n (q (g (s (mP r) (n (q (q (g (s (mH r) (s (lK kX r) (s (mi r) (n ?_)))))))))))))));have E:=(i.dl 0 r).bd;obtain ⟨D,a,m⟩:=bs m;refine qF (fun f w=>∃ b,Has f [(3,T b)]/\Bx B w R G [] [.l c d e]/\Ld.go b=D) (fun M t=>?_) ?_
 ·refine o9 (kI (fun U f w=>∃ j b,U=e.length - j/\j<=e.length/\Has f [(8,V (j:Int)),(3,T b),(6,Z c e d),(7,V (e.length:Int))]/\Bx B w R G [] [.l c d e]/\oK fu (e.drop j) j b=some D) e.length ⟨0,(⟨#[]⟩:BA),r,Nat.zero_le _,⟨r,r,r,r,y⟩,i,a⟩ ?_);clear i a;rintro U f w ⟨j,b,rfl,F,hf,i,a⟩ N o;obtain ⟨S,rfl⟩:=mY hf;rcases Nat.lt_or_ge j e.length with p | p
  ·obtain ⟨H,k⟩:=lT (l:=e) p;rw [l8 k,oK] at a;refine q (g (s (uK r r (by omega)) (n (q (jM r (wk (q (o9 (q (g (s (mi r) (s (kV kX pO r r r (i.dl 0 r) k) (s (jS uM r r ((tC (ds:=[T H]) (i.dl 0 r) k (fun _ h=>h)) 0 _ r)) (s (xi r) (s (mP r) (n (q (q (g (s (mi r) (s (uL r r) (n ?_))))))))))))))))))))));rcases iv a with ⟨u,a⟩|⟨u,a⟩
   ·refine jM (bt u) (g (s (lF r) ?_));obtain ⟨Q,v,a⟩:=bs a;refine s (lV r r v) (s (mP r) (n (g (s (lF r) (s (lF r) ?_)))));obtain ⟨I,x,a⟩:=bs a;exact s (lV r r x) (s (mP r) (n (g (s (ng r r (by omega) (by omega)) (s (mi r) (n (o (e.length - (j+1)) _ _ (by omega) ⟨j+1,I,r,by omega,⟨r,r,r,r,y⟩,i,a⟩)))))))
   refine jJ (bf u) (wk (g (s (lF r) (s (lF r) ?_))));obtain ⟨J,z,a⟩:=bs a;exact s (lV r r z) (s (mP r) (n (g (s (ng r r (by omega) (by omega)) (s (mi r) (n (o (e.length - (j+1)) _ _ (by omega) ⟨j+1,J,r,by omega,⟨r,r,r,r,y⟩,i,a⟩)))))))
  obtain rfl:j=e.length:=by omega
  rw [lM,oK] at a;exact q (g (s (uJ r r (by omega)) (n (q (jJ r (uy (t _ _ ⟨b,⟨r,y⟩,i,sm a⟩)))))))
 clear i;rintro f w ⟨b,hf,i,A⟩;obtain ⟨S,rfl⟩:=mY hf;subst A;replace m:=gi m;refine q (g (s (lF r) (s (mP r) (n (kD ?_)))));obtain rfl:=sm m;exact jB r (kH r) ⟨r,i.dp []⟩
def Kq (m:Gs->Option BA):Prop:=∀ {k p}{a:Gs}{b c d e f h i j o},Pre k p [] [.l b c a.d,.l d e a.a,.l f h a.e,.l i j a.h]->m a=some o-> Calls prog 60 #[.agg #[V a.c,V a.f,V a.n,T a.b,T a.k,V a.m,V a.g,Z b a.d c,T a.j,V a.i,Z d a.a e,Z f a.e h,Z i a.h j]] k (pz fun v w=>v=T o/\Bx k w p (lD []) [] [])
def qg (fu:Nat)(c:Gs):Option BA:=if ¬ c.j=(⟨#[]⟩:BA) then (cat c.j (⟨#[40]⟩:BA)).bind fun d=>(yM fu c.a).bind fun a=>(cat d a).bind fun e=>(cat e (⟨#[41]⟩:BA)).bind fun f=>some f else (yM fu c.a).bind fun b=>some b
theorem vD (fu:Nat):Kq (qg fu):=by
 intro E R c e f h j l m o p F z b;unfold qg at b;have a:=z.bx;clear z;generalize H:lD _=G at a ⊢;refine cf func60 r (lu [(0,.agg #[V c.c,V c.f,V c.n,T c.b,T c.k,V c.m,V c.g,Z e c.d f,T c.j,V c.i,Z h c.a j,Z l c.e m,Z o c.h p])] ⟨r,y⟩ fun S=>q (g (rE a (tO r) fun I J a=>s (mP r) (n (q (q (g (s (DU r) (s (l9 r (a.bk 0 r) r) (s (IB r r) (n ?_)))))))))));rcases iv b with ⟨t,b⟩|⟨t,b⟩
 ·refine jM (bt t) (q (qo a [0] [] [] (by kernel_rfl) ?_));replace a:=a.drew;have d:=a.dp [];refine pF 0 r (DU r) d (uF 1 r (fun hS=>l9 r (hS.bk 0 r) r) d ?_);obtain ⟨K,u,b⟩:=bs b;refine pF 2 r (lV r r u) d (pF 3 r (rM r) d (uF 4 r (fun hS=>AU r (hS.bk 0 r) r) d ?_));obtain ⟨A,C,b⟩:=bs b;refine hO 5 (oc r r (ec VA r) (FC fu (a.pr [] [0] [1] r) C) ?_);rintro _ L ⟨rfl,v⟩;replace a:=a.cn [] [0] v;have d:=a.dp [];refine ⟨sF d,?_⟩;obtain ⟨M,w,b⟩:=bs b;refine pF 6 r (lV r r w) d ?_;obtain ⟨N,x,b⟩:=bs b;refine pF 7 r (lV r r x) d (pF 8 r (mP r) d (hD (kD ?_)));obtain rfl:=sm b;exact jB r (kH r) ⟨r,a.ad [] []⟩
 refine jJ (bf t) (wk (q (g (s (rM r) (s (AU r (a.bk 0 r) r) ?_)))));obtain ⟨B,D,b⟩:=bs b;refine sc (ec VA r) (FC fu (a.pr [] [0] [1] r) D) ?_;rintro _ Q ⟨rfl,v⟩;replace a:=a.cn [] [0] v;refine s (mP r) (n (kD ?_));obtain rfl:=sm b;exact jB r (kH r) ⟨r,a.ad [] []⟩
abbrev uQ:=(List jI)->ByteArray->Option (ByteArray)
def zU (m:(List Gs)->BA->Option BA):Prop:=∀ {c h d e a b f},Pre c h [] [.l a b d]->m d e=some f-> Calls prog 43 #[Z a d b,T e] c (pz fun v w=>v=T f/\Bx c w h (lD []) [] [])
def xW (fu:Nat)(r_p03_block:uQ) (c:Gs):Option (Ld BA BA):=if 0 < (c.d.length:Int) then (ix c.d 0).bind fun d=>(pU fu d 1).bind fun a=>(cat a (⟨#[32,61,32]⟩:BA)).bind fun b=>some (.go b) else some (.go (⟨#[]⟩:BA))
def xG (fu:Nat)(r_p03_block:uQ) (a:Gs):Option (Ld BA BA):=if a.k=(⟨#[]⟩:BA) then some (.go (⟨#[105,110,116]⟩:BA)) else some (.go a.k)
def xB (fu:Nat)(r_p03_block:uQ) (e:Gs) (a:BA):Option (Ld BA BA):=if 0 < e.m then (rJ fu e.m).bind fun b=>(cat (⟨#[105,110,116,91]⟩:BA) b).bind fun c=>(cat c (⟨#[93]⟩:BA)).bind fun d=>some (.go d) else some (.go a)
def yg (fu:Nat)(r_p03_block:uQ) (a:Gs):Option (Ld Bool BA):=if a.c=2 then some (.go (decide (a.c=2))) else some (.go (decide (a.c=3)))
def lH (fu:Nat)(r_p03_block:uQ) (b:BA):List Gs→Nat→BA→Option (Ld (BA) (BA))
 | [],_,a=>some (.go a)
 | c :: d,e,a=>
 (xW fu r_p03_block c).bind fun aC=>aC.el (fun A=>
 if c.c=1 then
  (xG fu r_p03_block c).bind fun aC=>aC.el (fun f=>
  (xB fu r_p03_block c f).bind fun aC=>aC.el (fun h=>
  (cat a b).bind fun C=>
  (cat C (⟨#[118,97,114,32]⟩:BA)).bind fun D=>
  (cat D c.b).bind fun E=>
  (cat E (⟨#[58,32]⟩:BA)).bind fun F=>
  (cat F h).bind fun G=>
  (cat G (⟨#[59,10]⟩:BA)).bind fun H=>
  lH fu r_p03_block b d (e+1) H
  ) (fun o=>some (.out o))
  ) (fun o=>some (.out o))
 else
  (yg fu r_p03_block c).bind fun aC=>aC.el (fun i=>
  if i=true then
   (cat a b).bind fun I=>
   (cat I A).bind fun J=>
   (qg fu c).bind fun j=>
   (cat J j).bind fun K=>
   (cat K (⟨#[59,10]⟩:BA)).bind fun L=>
   lH fu r_p03_block b d (e+1) L
  else
   if c.c=6 then
    (cat a b).bind fun M=>
    (cat M (⟨#[114,101,116,117,114,110,32]⟩:BA)).bind fun N=>
    (qg fu c).bind fun k=>
    (cat N k).bind fun P=>
    (cat P (⟨#[59,10]⟩:BA)).bind fun Q=>
    lH fu r_p03_block b d (e+1) Q
   else
    if c.c=7 then
     (cat a b).bind fun R=>
     (cat R (⟨#[116,104,114,111,119,32]⟩:BA)).bind fun S=>
     (qg fu c).bind fun l=>
     (cat S l).bind fun U=>
     (cat U (⟨#[59,10]⟩:BA)).bind fun W=>
     lH fu r_p03_block b d (e+1) W
    else
     if c.c=9 then
      (cat a b).bind fun X=>
      (cat X (⟨#[112,114,105,110,116,32]⟩:BA)).bind fun Y=>
      (qg fu c).bind fun m=>
      (cat Y m).bind fun a0=>
      (cat a0 (⟨#[59,10]⟩:BA)).bind fun a1=>
      lH fu r_p03_block b d (e+1) a1
     else
      if c.c=4 then
       (cat a b).bind fun a2=>
       (cat a2 (⟨#[105,102,32]⟩:BA)).bind fun a3=>
       (cat b (⟨#[9]⟩:BA)).bind fun a4=>
       (qg fu c).bind fun p=>
       (cat a3 p).bind fun a5=>
       (cat a5 (⟨#[32,123,10]⟩:BA)).bind fun a6=>
       (r_p03_block c.e a4).bind fun t=>
       (cat a6 t).bind fun B=>
       if 0 < (c.h.length:Int) then
        (cat B b).bind fun a7=>
        (cat a7 (⟨#[125,32,101,108,115,101,32,123,10]⟩:BA)).bind fun a8=>
        (cat b (⟨#[9]⟩:BA)).bind fun a9=>
        (r_p03_block c.h a9).bind fun u=>
        (cat a8 u).bind fun aa=>
        (cat aa b).bind fun ab=>
        (cat ab (⟨#[125,10]⟩:BA)).bind fun ac=>
        lH fu r_p03_block b d (e+1) ac
       else
        (cat B b).bind fun ae=>
        (cat ae (⟨#[125,10]⟩:BA)).bind fun af=>
        lH fu r_p03_block b d (e+1) af
      else
       if c.c=5 then
        (cat a b).bind fun ag=>
        (cat ag (⟨#[119,104,105,108,101,32]⟩:BA)).bind fun ah=>
        (cat b (⟨#[9]⟩:BA)).bind fun ai=>
        (qg fu c).bind fun v=>
        (cat ah v).bind fun aj=>
        (cat aj (⟨#[32,123,10]⟩:BA)).bind fun ak=>
        (r_p03_block c.e ai).bind fun w=>
        (cat ak w).bind fun al=>
        (cat al b).bind fun am=>
        (cat am (⟨#[125,10]⟩:BA)).bind fun an=>
        lH fu r_p03_block b d (e+1) an
       else
        if c.c=8 then
         (cat a b).bind fun ao=>
         (cat ao (⟨#[116,114,121,32,123,10]⟩:BA)).bind fun ap=>
         (cat b (⟨#[9]⟩:BA)).bind fun aq=>
         (cat b (⟨#[9]⟩:BA)).bind fun ar=>
         (r_p03_block c.e aq).bind fun x=>
         (cat ap x).bind fun au=>
         (cat au b).bind fun av=>
         (cat av (⟨#[125,32,99,97,116,99,104,32]⟩:BA)).bind fun aw=>
         (cat aw c.b).bind fun ax=>
         (cat ax (⟨#[32,123,10]⟩:BA)).bind fun ay=>
         (r_p03_block c.h ar).bind fun z=>
         (cat ay z).bind fun az=>
         (cat az b).bind fun aA=>
         (cat aA (⟨#[125,10]⟩:BA)).bind fun aB=>
         lH fu r_p03_block b d (e+1) aB
        else
         lH fu r_p03_block b d (e+1) a
  ) (fun o=>some (.out o))
 ) (fun o=>some (.out o))
def zu (fu:Nat)(r_p03_block:uQ) (b:(List Gs)) (c:BA):Option BA:=(lH fu r_p03_block c b 0 (⟨#[]⟩:BA)).bind fun d=>d.el (fun a=>some a) (fun o=>some o)
def Dn:Nat→((List Gs)→BA→Option (BA))
 | 0=>(fun _ _=>none)
 | fu+1=>zu fu (Dn fu)
def ou (fu:Nat):=(Dn fu)
theorem Ka (fu:Nat)(r_p03_block:uQ) (H_p03_block:zU r_p03_block):zU (zu fu r_p03_block):=by
 intro w0 dM C x1 x z r0 hP hM;unfold zu at hM;have c:=hP.bx;clear hP;generalize hG:lD _=G at c ⊢;refine cf func43 r (lu [(0,Z x C z),(1,T x1)] ⟨r,r,y⟩ fun dN=>q (g (s (mP r) (n (q (g (s (mP r) (n (q (q (g (s (mH r) (s (lK Bf r) (s (mi r) (n ?_)))))))))))))));have cr:=(c.dl 0 r).bd;obtain ⟨Y1,a,hM⟩:=bs hM;refine qF (fun f w=>∃ A,Has f [(5,T A)]/\Bx w0 w dM G [] [.l x z C]/\Ld.go A=Y1) (fun J1 bB=>?_) ?_
 ·refine o9 (kI (fun dO f w=>∃ D A,dO=C.length - D/\D<=C.length/\Has f [(12,V (D:Int)),(1,T x1),(5,T A),(10,Z x C z),(11,V (C.length:Int))]/\Bx w0 w dM G [] [.l x z C]/\lH fu r_p03_block x1 (C.drop D) D A=some Y1) C.length ⟨0,(⟨#[]⟩:BA),r,Nat.zero_le _,⟨r,r,r,r,r,y⟩,c,a⟩ ?_);clear c a;rintro dO f w ⟨D,A,rfl,ct,hf,c,a⟩ K1 H;obtain ⟨dN,rfl⟩:=mY hf;rcases Nat.lt_or_ge D C.length with ai | ai
  ·obtain ⟨b,a2⟩:=lT (l:=C) ai;rw [l8 a2,lH] at a;obtain ⟨cu,bC,c⟩:=c.nm 0 rfl a2;obtain ⟨h,j,m,o,p,t,u,v,rfl,aj,ak,al,am⟩:=jI.out bC;replace c:=c.kC (d:=.l h j b.d) aj;replace c:=c.kC (d:=.l m o b.a) ak;replace c:=c.kC (d:=.l p t b.e) al;replace c:=c.kC (d:=.l u v b.h) am;refine q (g (s (uK r r (by omega)) (n (q (jM r (wk (q (o9 (q (g (s (kV Bf jQ r r r (c.dl 5 r) a2) (s (mU [V b.c,V b.f,V b.n,T b.b,T b.k,V b.m,V b.g,Z h b.d j,T b.j,V b.i,Z m b.a o,Z p b.e t,Z u b.h v] lg r jQ r r (c.dc 4 r)) (rE c (jX jQ) fun w3 S c=>lq (nZ c 0 [V b.c,V b.f,V b.n,T b.b,T b.k,V b.m,V b.g,Z h b.d j,T b.j,V b.i,Z m b.a o,Z p b.e t,Z u b.h v] r jQ r r) fun w4 c=>n (q (g (s (mP r) (n (q ?_))))))))))))))))));obtain ⟨Y5,E,a⟩:=bs a;refine qF (fun f w=>∃ N,Has f [(1,T x1),(5,T A),(7,Pt S),(8,T N),(10,Z x C z),(11,V (C.length:Int)),(12,V (D:Int))]/\Bx w0 w dM G [.box S 122 #[V b.c,V b.f,V b.n,T b.b,T b.k,V b.m,V b.g,Z h b.d j,T b.j,V b.i,Z m b.a o,Z p b.e t,Z u b.h v]] [.l u v b.h,.l p t b.e,.l m o b.a,.l h j b.d,.l x z C]/\Ld.go N=Y5) (fun J5 an=>?_) ?_
   ·unfold xW at E;refine q (g (s (yE r) (s (AU r (c.bk 0 r) r) (s (lK tu r) (s (uL r r) (n ?_))))));rcases iv E with ⟨h6,E⟩|⟨h6,E⟩
    ·refine jM (bt h6) (g (s (yE r) (s (AU r (c.bk 0 r) r) ?_)));obtain ⟨e7,R,E⟩:=bs E;obtain ⟨k7,bE,R⟩:=kK R;obtain ⟨cw,bF,c⟩:=c.nm 3 rfl R;obtain ⟨U,W,rfl,ao⟩:=jA.out bF;replace c:=c.kC (d:=.l U W e7.a) ao;refine s (kV tu jR r r bE (c.dl 5 r) R) (s (mU [V e7.e,V e7.d,V e7.g,T e7.b,T e7.c,Z U e7.a W] l6 r jR r r (c.dc 1 r)) ?_);obtain ⟨cq,h9,E⟩:=bs E;refine sc (ec FL r) (FT fu (c.pr [] [0] [0] r) h9) ?_;rintro _ w9 ⟨rfl,F⟩;replace c:=c.cn [] [0] F;obtain ⟨bG,ap,E⟩:=bs E;exact s (lV r r ap) (s (mP r) (n (an _ _ ⟨bG,⟨r,r,r,r,r,r,r,y⟩,c.dp [2,3,4,5,7],sm E⟩)))
    exact jJ (bf h6) (wk (an _ _ ⟨(⟨#[]⟩:BA),⟨r,r,r,r,r,r,r,y⟩,c.dp [0,1,2,3,5],sm E⟩))
   clear c;rintro f w ⟨N,hf,c,bH⟩;obtain ⟨dN,rfl⟩:=mY hf;subst bH;replace a:=gi a;refine q (g (s (yF r) (s (l3 r (c.bk 0 r) r) (n (o9 (q (g (s (kR r r) (s (kr r) (n ?_))))))))));rcases iv a with ⟨a4,a⟩|⟨a4,a⟩
   ·refine jM (bt a4) (q (g (s (Hy r) (s (l9 r (c.bk 0 r) r) (s (mP r) (n (q ?_)))))));obtain ⟨bI,I,a⟩:=bs a;refine IE c (fun B f w=>∃ K,Has f [(1,T x1),(5,T A),(7,Pt S),(9,T K),(10,Z x C z),(11,V (C.length:Int)),(12,V (D:Int))]/\B w/\Ld.go K=bI) (fun cy X=>?_) ?_
    ·unfold xG at I;refine q (g (s (lF r) (s (sj r r) (n ?_))));rcases iv I with ⟨a5,I⟩|⟨a5,I⟩
     ·exact jM (bt a5) (g (s (mP r) (n (X _ _ ⟨(⟨#[105,110,116]⟩:BA),⟨r,r,r,r,r,r,r,y⟩,c,sm I⟩))))
     exact jJ (bf a5) (wk (X _ _ ⟨b.k,⟨r,r,r,r,r,r,r,y⟩,c,sm I⟩))
    clear c;rintro f w ⟨K,hf,c,aq⟩;obtain ⟨dN,rfl⟩:=mY hf;subst aq;replace a:=gi a;refine q ?_;obtain ⟨bJ,B,a⟩:=bs a;refine qF (fun f w=>∃ L,Has f [(1,T x1),(5,T A),(7,Pt S),(9,T L),(10,Z x C z),(11,V (C.length:Int)),(12,V (D:Int))]/\Bx w0 w dM G [.box S 122 #[V b.c,V b.f,V b.n,T b.b,T b.k,V b.m,V b.g,Z h b.d j,T b.j,V b.i,Z m b.a o,Z p b.e t,Z u b.h v]] [.l u v b.h,.l p t b.e,.l m o b.a,.l h j b.d,.l x z C]/\Ld.go L=bJ) (fun cz Y=>?_) ?_
    ·unfold xB at B;refine q (g (s (CK r) (s (l3 r (c.bk 0 r) r) (s (uL r r) (n ?_)))));rcases iv B with ⟨a6,B⟩|⟨a6,B⟩
     ·refine jM (bt a6) (g (s (CK r) (s (l3 r (c.bk 0 r) r) ?_)));obtain ⟨bK,bL,B⟩:=bs B;refine sc (ec JA r) (Bp fu (c.pr [] [0] [] r) bL) ?_;rintro _ cA ⟨rfl,F⟩;replace c:=c.cn [] [0] F;obtain ⟨cB,ar,B⟩:=bs B;refine s (lV r r ar) ?_;obtain ⟨bM,au,B⟩:=bs B;exact s (lV r r au) (s (mP r) (n (Y _ _ ⟨bM,⟨r,r,r,r,r,r,r,y⟩,c,sm B⟩)))
     exact jJ (bf a6) (wk (Y _ _ ⟨K,⟨r,r,r,r,r,r,r,y⟩,c,sm B⟩))
    clear c;rintro f w ⟨L,hf,c,av⟩;obtain ⟨dN,rfl⟩:=mY hf;subst av;replace a:=gi a;refine g (s (lF r) (s (lF r) ?_));obtain ⟨cC,aw,a⟩:=bs a;refine s (lV r r aw) ?_;obtain ⟨cD,ax,a⟩:=bs a;refine s (lV r r ax) (s (AB r) (s (l9 r (c.bk 0 r) r) ?_));obtain ⟨cE,ay,a⟩:=bs a;refine s (lV r r ay) ?_;obtain ⟨cF,az,a⟩:=bs a;refine s (lV r r az) (s (lF r) ?_);obtain ⟨cG,aA,a⟩:=bs a;refine s (lV r r aA) ?_;obtain ⟨bN,aB,a⟩:=bs a;exact s (lV r r aB) (s (mP r) (n (g (s (ng r r (by omega) (by omega)) (s (mi r) (n (H (C.length - (D+1)) _ _ (by omega) ⟨D+1,bN,r,by omega,⟨r,r,r,r,r,y⟩,c.ad [] [4],a⟩)))))))
   refine jJ (bf a4) (q ?_);obtain ⟨bO,J,a⟩:=bs a;refine IE c (fun B f w=>∃ M,Has f [(1,T x1),(5,T A),(7,Pt S),(8,T N),(10,Z x C z),(11,V (C.length:Int)),(12,V (D:Int)),(27,V b.c),(53,.bool M)]/\B w/\Ld.go M=bO) (fun cH a0=>?_) ?_
   ·unfold yg at J;refine q (g (s (kR r r) (s (kr r) (n ?_))));rcases iv J with ⟨a7,J⟩|⟨a7,J⟩
    ·exact jM (bt a7) (wk (a0 _ _ ⟨decide (b.c=2),⟨r,r,r,r,r,r,r,r,r,y⟩,c,sm J⟩))
    exact jJ (bf a7) (g (s (kR r r) (s (kr r) (n (a0 _ _ ⟨decide (b.c=3),⟨r,r,r,r,r,r,r,r,r,y⟩,c,sm J⟩)))))
   clear c;rintro f w ⟨M,hf,c,aC⟩;obtain ⟨dN,rfl⟩:=mY hf;subst aC;replace a:=gi a;rcases iv a with ⟨Q,a⟩|⟨Q,a⟩
   ·refine jM (cb Q) (g (s (lF r) (s (lF r) ?_)));obtain ⟨cI,aD,a⟩:=bs a;refine s (lV r r aD) (s (lF r) ?_);obtain ⟨cJ,aE,a⟩:=bs a;refine s (lV r r aE) (s (lY [V b.c,V b.f,V b.n,T b.b,T b.k,V b.m,V b.g,Z h b.d j,T b.j,V b.i,Z m b.a o,Z p b.e t,Z u b.h v] lg jQ r (c.bk 0 r)) ?_);obtain ⟨bP,bQ,a⟩:=bs a;refine sc (ec JQ r) (vD fu (c.pr [] [0] [3,2,1,0] r) bQ) ?_;rintro _ cK ⟨rfl,F⟩;replace c:=c.cn [] [0] F;obtain ⟨cL,aG,a⟩:=bs a;refine s (lV r r aG) ?_;obtain ⟨bR,aH,a⟩:=bs a;exact s (lV r r aH) (s (mP r) (n (g (s (ng r r (by omega) (by omega)) (s (mi r) (n (H (C.length - (D+1)) _ _ (by omega) ⟨D+1,bR,r,by omega,⟨r,r,r,r,r,y⟩,c.ad [] [4],a⟩)))))))
   refine jJ (vY Q) (q (g (s (kR r r) (s (kr r) (n ?_)))));rcases iv a with ⟨a8,a⟩|⟨a8,a⟩
   ·refine jM (bt a8) (g (s (lF r) (s (lF r) ?_)));obtain ⟨cM,aI,a⟩:=bs a;refine s (lV r r aI) ?_;obtain ⟨cN,aJ,a⟩:=bs a;refine s (lV r r aJ) (s (lY [V b.c,V b.f,V b.n,T b.b,T b.k,V b.m,V b.g,Z h b.d j,T b.j,V b.i,Z m b.a o,Z p b.e t,Z u b.h v] lg jQ r (c.bk 0 r)) ?_);obtain ⟨bS,bT,a⟩:=bs a;refine sc (ec JQ r) (vD fu (c.pr [] [0] [3,2,1,0] r) bT) ?_;rintro _ cO ⟨rfl,F⟩;replace c:=c.cn [] [0] F;obtain ⟨cP,aK,a⟩:=bs a;refine s (lV r r aK) ?_;obtain ⟨bU,aL,a⟩:=bs a;exact s (lV r r aL) (s (mP r) (n (g (s (ng r r (by omega) (by omega)) (s (mi r) (n (H (C.length - (D+1)) _ _ (by omega) ⟨D+1,bU,r,by omega,⟨r,r,r,r,r,y⟩,c.ad [] [4],a⟩)))))))
   refine jJ (bf a8) (q (g (s (kR r r) (s (kr r) (n ?_)))));rcases iv a with ⟨a9,a⟩|⟨a9,a⟩
   ·refine jM (bt a9) (g (s (lF r) (s (lF r) ?_)));obtain ⟨cQ,aM,a⟩:=bs a;refine s (lV r r aM) ?_;obtain ⟨cR,aN,a⟩:=bs a;refine s (lV r r aN) (s (lY [V b.c,V b.f,V b.n,T b.b,T b.k,V b.m,V b.g,Z h b.d j,T b.j,V b.i,Z m b.a o,Z p b.e t,Z u b.h v] lg jQ r (c.bk 0 r)) ?_);obtain ⟨bV,bW,a⟩:=bs a;refine sc (ec JQ r) (vD fu (c.pr [] [0] [3,2,1,0] r) bW) ?_;rintro _ cS ⟨rfl,F⟩;replace c:=c.cn [] [0] F;obtain ⟨cT,aO,a⟩:=bs a;refine s (lV r r aO) ?_;obtain ⟨bX,aP,a⟩:=bs a;exact s (lV r r aP) (s (mP r) (n (g (s (ng r r (by omega) (by omega)) (s (mi r) (n (H (C.length - (D+1)) _ _ (by omega) ⟨D+1,bX,r,by omega,⟨r,r,r,r,r,y⟩,c.ad [] [4],a⟩)))))))
   refine jJ (bf a9) (q (g (s (kR r r) (s (kr r) (n ?_)))));rcases iv a with ⟨aa,a⟩|⟨aa,a⟩
   ·refine jM (bt aa) (g (s (lF r) (s (lF r) ?_)));obtain ⟨cU,aQ,a⟩:=bs a;refine s (lV r r aQ) ?_;obtain ⟨cV,aR,a⟩:=bs a;refine s (lV r r aR) (s (lY [V b.c,V b.f,V b.n,T b.b,T b.k,V b.m,V b.g,Z h b.d j,T b.j,V b.i,Z m b.a o,Z p b.e t,Z u b.h v] lg jQ r (c.bk 0 r)) ?_);obtain ⟨bY,bZ,a⟩:=bs a;refine sc (ec JQ r) (vD fu (c.pr [] [0] [3,2,1,0] r) bZ) ?_;rintro _ cW ⟨rfl,F⟩;replace c:=c.cn [] [0] F;obtain ⟨cX,aS,a⟩:=bs a;refine s (lV r r aS) ?_;obtain ⟨c0,aT,a⟩:=bs a;exact s (lV r r aT) (s (mP r) (n (g (s (ng r r (by omega) (by omega)) (s (mi r) (n (H (C.length - (D+1)) _ _ (by omega) ⟨D+1,c0,r,by omega,⟨r,r,r,r,r,y⟩,c.ad [] [4],a⟩)))))))
   refine jJ (bf aa) (q (g (s (kR r r) (s (kr r) (n ?_)))));rcases iv a with ⟨ab,a⟩|⟨ab,a⟩
   ·refine jM (bt ab) (q (qo c [0] [] [] (by kernel_rfl) ?_));replace c:=c.drew;have e:=c.dp [];refine pF 0 r (lF r) e (pF 1 r (lF r) e ?_);obtain ⟨cY,aU,a⟩:=bs a;refine pF 2 r (lV r r aU) e ?_;obtain ⟨cZ,aV,a⟩:=bs a;refine pF 3 r (lV r r aV) e (uF 4 r (fun hS=>lY [V b.c,V b.f,V b.n,T b.b,T b.k,V b.m,V b.g,Z h b.d j,T b.j,V b.i,Z m b.a o,Z p b.e t,Z u b.h v] lg jQ r (hS.bk 0 r)) e (pF 8 r (xw r) e (uF 9 r (fun hS=>QU r (hS.bk 0 r) r) e (pF 10 r (lF r) e ?_))));obtain ⟨d0,aW,a⟩:=bs a;refine pF 11 r (lV r r aW) e ?_;obtain ⟨c1,c2,a⟩:=bs a;refine hO 5 (oc r r (ec JQ r) (vD fu (c.pr [] [0] [3,2,1,0] r) c2) ?_);rintro _ d1 ⟨rfl,F⟩;replace c:=c.cn [] [0] F;have e:=c.dp [];refine ⟨sF e,?_⟩;obtain ⟨d2,aX,a⟩:=bs a;refine pF 6 r (lV r r aX) e ?_;obtain ⟨d3,aY,a⟩:=bs a;refine pF 7 r (lV r r aY) e ?_;obtain ⟨c3,c4,a⟩:=bs a;refine hO 12 (oc r r (ec JR r) (H_p03_block (c.pr [] [0] [1] r) c4) ?_);rintro _ d4 ⟨rfl,F⟩;replace c:=c.cn [] [0] F;have e:=c.dp [];refine ⟨sF e,?_⟩;obtain ⟨d5,aZ,a⟩:=bs a;refine pF 13 r (lV r r aZ) e (pF 14 r (mP r) e (hD (q (q (g (s (xY r) (s (QU r (c.bk 0 r) r) (s (lK Bf r) (s (uL r r) (n ?_))))))))));rcases iv a with ⟨ac,a⟩|⟨ac,a⟩
    ·refine jM (bt ac) (g (s (lF r) (s (lF r) ?_)));obtain ⟨d6,b0,a⟩:=bs a;refine s (lV r r b0) ?_;obtain ⟨d7,b1,a⟩:=bs a;refine s (lV r r b1) (s (xY r) (s (QU r (c.bk 0 r) r) (s (lF r) ?_)));obtain ⟨d8,b2,a⟩:=bs a;refine s (lV r r b2) ?_;obtain ⟨c5,c6,a⟩:=bs a;refine sc (ec JR r) (H_p03_block (c.pr [] [0] [0] r) c6) ?_;rintro _ LX ⟨rfl,F⟩;replace c:=c.cn [] [0] F;obtain ⟨d9,b4,a⟩:=bs a;refine s (lV r r b4) (s (mP r) (n (g (s (lF r) (s (lF r) ?_)))));obtain ⟨da,b5,a⟩:=bs a;refine s (lV r r b5) ?_;obtain ⟨c7,b6,a⟩:=bs a;exact s (lV r r b6) (s (mP r) (n (g (s (ng r r (by omega) (by omega)) (s (mi r) (n (H (C.length - (D+1)) _ _ (by omega) ⟨D+1,c7,r,by omega,⟨r,r,r,r,r,y⟩,c.ad [] [4],a⟩)))))))
    refine jJ (bf ac) (wk (g (s (lF r) (s (lF r) ?_))));obtain ⟨db,b7,a⟩:=bs a;refine s (lV r r b7) ?_;obtain ⟨c8,b8,a⟩:=bs a;exact s (lV r r b8) (s (mP r) (n (g (s (ng r r (by omega) (by omega)) (s (mi r) (n (H (C.length - (D+1)) _ _ (by omega) ⟨D+1,c8,r,by omega,⟨r,r,r,r,r,y⟩,c.ad [] [4],a⟩)))))))
   refine jJ (bf ab) (q (g (s (kR r r) (s (kr r) (n ?_)))));rcases iv a with ⟨ae,a⟩|⟨ae,a⟩
   ·refine jM (bt ae) (qo c [0] [] [] (by kernel_rfl) ?_);replace c:=c.drew;have e:=c.dp [];refine pF 0 r (lF r) e (pF 1 r (lF r) e ?_);obtain ⟨dd,b9,a⟩:=bs a;refine pF 2 r (lV r r b9) e ?_;obtain ⟨de,ba,a⟩:=bs a;refine pF 3 r (lV r r ba) e (uF 4 r (fun hS=>lY [V b.c,V b.f,V b.n,T b.b,T b.k,V b.m,V b.g,Z h b.d j,T b.j,V b.i,Z m b.a o,Z p b.e t,Z u b.h v] lg jQ r (hS.bk 0 r)) e (pF 8 r (xw r) e (uF 9 r (fun hS=>QU r (hS.bk 0 r) r) e (pF 10 r (lF r) e ?_))));obtain ⟨df,bb,a⟩:=bs a;refine pF 11 r (lV r r bb) e (pF 14 r (lF r) e ?_);obtain ⟨c9,cc,a⟩:=bs a;refine hO 5 (oc r r (ec JQ r) (vD fu (c.pr [] [0] [3,2,1,0] r) cc) ?_);rintro _ dg ⟨rfl,F⟩;replace c:=c.cn [] [0] F;have e:=c.dp [];refine ⟨sF e,?_⟩;obtain ⟨dh,bc,a⟩:=bs a;refine pF 6 r (lV r r bc) e ?_;obtain ⟨di,bg,a⟩:=bs a;refine pF 7 r (lV r r bg) e ?_;obtain ⟨cd,ce,a⟩:=bs a;refine hO 12 (oc r r (ec JR r) (H_p03_block (c.pr [] [0] [1] r) ce) ?_);rintro _ dj ⟨rfl,F⟩;replace c:=c.cn [] [0] F;have e:=c.dp [];refine ⟨sF e,?_⟩;obtain ⟨dk,bh,a⟩:=bs a;refine pF 13 r (lV r r bh) e ?_;obtain ⟨dm,bi,a⟩:=bs a;refine pF 15 r (lV r r bi) e ?_;obtain ⟨cg,bj,a⟩:=bs a;exact pF 16 r (lV r r bj) e (pF 17 r (mP r) e (hD (g (s (ng r r (by omega) (by omega)) (s (mi r) (n (H (C.length - (D+1)) _ _ (by omega) ⟨D+1,cg,r,by omega,⟨r,r,r,r,r,y⟩,c.ad [] [4],a⟩)))))))
   refine jJ (bf ae) (q (g (s (kR r r) (s (kr r) (n ?_)))));rcases iv a with ⟨af,a⟩|⟨af,a⟩
   ·refine jM (bt af) (qo c [0] [] [] (by kernel_rfl) ?_);replace c:=c.drew;have e:=c.dp [];refine pF 0 r (lF r) e (pF 1 r (lF r) e ?_);obtain ⟨dn,bl,a⟩:=bs a;refine pF 2 r (lV r r bl) e ?_;obtain ⟨dq,bm,a⟩:=bs a;refine pF 3 r (lV r r bm) e (pF 4 r (xw r) e (uF 5 r (fun hS=>QU r (hS.bk 0 r) r) e (pF 6 r (lF r) e ?_)));obtain ⟨dr,bn,a⟩:=bs a;refine pF 7 r (lV r r bn) e (pF 10 r (lF r) e (pF 13 r (AB r) e (uF 14 r (fun hS=>l9 r (hS.bk 0 r) r) e (pF 17 r (xY r) e (uF 18 r (fun hS=>QU r (hS.bk 0 r) r) e (pF 19 r (lF r) e ?_))))));obtain ⟨dt,bo,a⟩:=bs a;refine pF 20 r (lV r r bo) e (pF 23 r (lF r) e ?_);obtain ⟨ch,ci,a⟩:=bs a;refine hO 8 (oc r r (ec JR r) (H_p03_block (c.pr [] [0] [1] r) ci) ?_);rintro _ du ⟨rfl,F⟩;replace c:=c.cn [] [0] F;have e:=c.dp [];refine ⟨sF e,?_⟩;obtain ⟨dv,bp,a⟩:=bs a;refine pF 9 r (lV r r bp) e ?_;obtain ⟨dw,bq,a⟩:=bs a;refine pF 11 r (lV r r bq) e ?_;obtain ⟨dx,br,a⟩:=bs a;refine pF 12 r (lV r r br) e ?_;obtain ⟨dy,bu,a⟩:=bs a;refine pF 15 r (lV r r bu) e ?_;obtain ⟨dz,bv,a⟩:=bs a;refine pF 16 r (lV r r bv) e ?_;obtain ⟨cj,ck,a⟩:=bs a;refine hO 21 (oc r r (ec JR r) (H_p03_block (c.pr [] [0] [0] r) ck) ?_);rintro _ dA ⟨rfl,F⟩;replace c:=c.cn [] [0] F;have e:=c.dp [];refine ⟨sF e,?_⟩;obtain ⟨dB,bw,a⟩:=bs a;refine pF 22 r (lV r r bw) e ?_;obtain ⟨dC,bz,a⟩:=bs a;refine pF 24 r (lV r r bz) e ?_;obtain ⟨cm,bA,a⟩:=bs a;exact pF 25 r (lV r r bA) e (pF 26 r (mP r) e (hD (g (s (ng r r (by omega) (by omega)) (s (mi r) (n (H (C.length - (D+1)) _ _ (by omega) ⟨D+1,cm,r,by omega,⟨r,r,r,r,r,y⟩,c.ad [] [4],a⟩)))))))
   exact jJ (bf af) (wk (g (s (ng r r (by omega) (by omega)) (s (mi r) (n (H (C.length - (D+1)) _ _ (by omega) ⟨D+1,A,r,by omega,⟨r,r,r,r,r,y⟩,c.ad [] [4],a⟩))))))
  obtain rfl:D=C.length:=by omega
  rw [lM,lH] at a;exact q (g (s (uJ r r (by omega)) (n (q (jJ r (uy (bB _ _ ⟨A,⟨r,y⟩,c,sm a⟩)))))))
 clear c;rintro f w ⟨A,hf,c,cn⟩;obtain ⟨dN,rfl⟩:=mY hf;subst cn;replace hM:=gi hM;refine q (g (s (lF r) (s (mP r) (n (kD ?_)))));obtain rfl:=sm hM;exact jB r (kH r) ⟨r,c.dp []⟩
theorem I5 (fu:Nat):zU (ou fu):=by
 induction fu with
 | zero=>exact by intro a b;intros;(try intro _);intros;exact nn (by assumption)
 | succ fu ih=>exact Ka fu (ou fu) ih
theorem KL (fu:Nat):zU (ou fu):=(I5 fu)
def KO (m:jU->Option BA):Prop:=∀ {f i}{e:jU}{a b c d h},Pre f i [] [.l a b e.a,.l c d e.b]->m e=some h-> Calls prog 26 #[.agg #[Z a e.a b,Z c e.b d]] f (pz fun v w=>v=T h/\Bx f w i (lD []) [] [])
def p9 (fu:Nat):List Gr→Nat→BA→Option (Ld (BA) (BA))
 | [],_,a=>some (.go a)
 | e :: f,h,a=>
 (cat a (⟨#[114,101,99,111,114,100,32]⟩:BA)).bind fun i=>
 (cat i e.b).bind fun j=>
 (cat j (⟨#[32,123,32]⟩:BA)).bind fun k=>
 (wO fu e.a).bind fun b=>
 (cat k b).bind fun c=>
 (cat c (⟨#[32,125,10]⟩:BA)).bind fun d=>
 p9 fu f (h+1) d
def qY (fu:Nat):List Gn→Nat→BA→Option (Ld (BA) (BA))
 | [],_,a=>some (.go a)
 | b :: e,f,a=>
 (cat a (⟨#[102,117,110,99,32]⟩:BA)).bind fun h=>
 (cat h b.b).bind fun i=>
 (cat i (⟨#[40]⟩:BA)).bind fun j=>
 (wO fu b.a).bind fun c=>
 (cat j c).bind fun k=>
 (cat k (⟨#[41,32,123,10]⟩:BA)).bind fun l=>
 (ou fu b.e (⟨#[9]⟩:BA)).bind fun d=>
 (cat l d).bind fun m=>
 (cat m (⟨#[125,10]⟩:BA)).bind fun o=>
 qY fu e (f+1) o
def zw (fu:Nat)(c:jU):Option BA:=(p9 fu c.a 0 (⟨#[]⟩:BA)).bind fun d=>d.el (fun b=>(qY fu c.b 0 b).bind fun d=>d.el (fun a=>some a) (fun o=>some o)) (fun o=>some o)
theorem KQ (fu:Nat):KO (zw fu):=by
 intro w0 b3 o u v e h r0 hP H;unfold zw at H;have b:=hP.bx;clear hP;generalize hG:lD _=G at b ⊢;refine cf func26 r (lu [(0,.agg #[Z u o.a v,Z e o.b h])] ⟨r,y⟩ fun b5=>q (g (rE b (tO r) fun w1 b1 b=>s (mP r) (n (q (g (s (mP r) (n (q (q (g (s (Ey r) (s (Wz r (b.bk 0 r) r) (s (lK Iu r) (s (mi r) (n ?_))))))))))))))));have ay:=(b.dl 0 r).bd;obtain ⟨Y2,c,H⟩:=bs H;refine qF (fun f w=>∃ p,Has f [(1,Pt b1),(3,T p)]/\Bx w0 w b3 G [.box b1 26 #[Z u o.a v,Z e o.b h]] [.l u v o.a,.l e h o.b]/\Ld.go p=Y2) (fun J2 ac=>?_) ?_
 ·refine o9 (kI (fun b6 f w=>∃ I p,b6=o.a.length - I/\I<=o.a.length/\Has f [(11,V (I:Int)),(1,Pt b1),(3,T p),(9,Z u o.a v),(10,V (o.a.length:Int))]/\Bx w0 w b3 G [.box b1 26 #[Z u o.a v,Z e o.b h]] [.l u v o.a,.l e h o.b]/\p9 fu (o.a.drop I) I p=some Y2) o.a.length ⟨0,(⟨#[]⟩:BA),r,Nat.zero_le _,⟨r,r,r,r,r,y⟩,b,c⟩ ?_);clear b c;rintro b6 f w ⟨I,p,rfl,az,hf,b,c⟩ K2 ae;obtain ⟨b5,rfl⟩:=mY hf;rcases Nat.lt_or_ge I o.a.length with Q | Q
  ·obtain ⟨K,L⟩:=lT (l:=o.a) Q;rw [l8 L,p9] at c;obtain ⟨aA,af,b⟩:=b.nm 0 rfl L;obtain ⟨D,E,rfl,R⟩:=kE.out af;replace b:=b.kC (d:=.l D E K.a) R;refine q (g (s (uK r r (by omega)) (n (q (jM r (wk (q (o9 (q (g (s (kV Iu xZ r r r (b.dl 2 r) L) (s (mU [T K.b,Z D K.a E] Jv r xZ r r (b.dc 1 r)) (rE b (jX xZ) fun w4 b4 b=>lq (nZ b 0 [T K.b,Z D K.a E] r xZ r r) fun w5 b=>n (qo b [0] [] [] (by kernel_rfl) ?_))))))))))))));replace b:=b.drew;have m:=b.ad [0] [];refine pF 0 r (lF r) m ?_;obtain ⟨g6,ag,c⟩:=bs c;refine pF 1 r (lV r r ag) m (pF 2 r (Ky r) m (uF 3 r (fun hS=>l9 r (hS.bk 0 r) r) m ?_));obtain ⟨g7,ah,c⟩:=bs c;refine pF 4 r (lV r r ah) m ?_;obtain ⟨g8,ai,c⟩:=bs c;refine pF 5 r (lV r r ai) m (pF 6 r (CP r) m (uF 7 r (fun hS=>AP r (hS.bk 0 r) r) m ?_));obtain ⟨au,h9,c⟩:=bs c;refine hO 8 (oc r r (ec Wm r) (El fu (b.pr [] [0,1] [0] r) h9) ?_);rintro _ w9 ⟨rfl,S⟩;replace b:=b.cn [] [0,1] S;have m:=b.ad [0] [];refine ⟨sF m,?_⟩;obtain ⟨aC,U,c⟩:=bs c;refine pF 9 r (lV r r U) m ?_;obtain ⟨aj,W,c⟩:=bs c;exact pF 10 r (lV r r W) m (pF 11 r (mP r) m (hD (g (s (ng r r (by omega) (by omega)) (s (mi r) (n (ae (o.a.length - (I+1)) _ _ (by omega) ⟨I+1,aj,r,by omega,⟨r,r,r,r,r,y⟩,b.ad [1] [2,3],c⟩)))))))
  obtain rfl:I=o.a.length:=by omega
  rw [lM,p9] at c;exact q (g (s (uJ r r (by omega)) (n (q (jJ r (uy (ac _ _ ⟨p,⟨r,r,y⟩,b,sm c⟩)))))))
 clear b;rintro f w ⟨p,hf,b,ak⟩;obtain ⟨b5,rfl⟩:=mY hf;subst ak;replace H:=gi H;refine q (q (g (s (BD r) (s (QX r (b.bk 0 r) r) (s (lK Df r) (s (mi r) (n ?_)))))));have av:=(b.dl 1 r).bd;obtain ⟨X,a,H⟩:=bs H;refine qF (fun f w=>∃ j,Has f [(3,T j)]/\Bx w0 w b3 G [] [.l e h o.b]/\Ld.go j=X) (fun aD Y=>?_) ?_
 ·refine o9 (kI (fun b6 f w=>∃ x j,b6=o.b.length - x/\x<=o.b.length/\Has f [(30,V (x:Int)),(3,T j),(28,Z e o.b h),(29,V (o.b.length:Int))]/\Bx w0 w b3 G [] [.l e h o.b]/\qY fu (o.b.drop x) x j=some X) o.b.length ⟨0,p,r,Nat.zero_le _,⟨r,r,r,r,y⟩,b.ad [] [1],a⟩ ?_);clear b a;rintro b6 f w ⟨x,j,rfl,aw,hf,b,a⟩ aE a0;obtain ⟨b5,rfl⟩:=mY hf;rcases Nat.lt_or_ge x o.b.length with J | J
  ·obtain ⟨t,F⟩:=lT (l:=o.b) J;rw [l8 F,qY] at a;obtain ⟨ax,a1,b⟩:=b.nm 0 rfl F;obtain ⟨z,A,B,C,rfl,M,N⟩:=kY.out a1;replace b:=b.kC (d:=.l z A t.a) M;replace b:=b.kC (d:=.l B C t.e) N;refine q (g (s (uK r r (by omega)) (n (q (jM r (wk (q (o9 (q (g (s (kV Df ow r r r (b.dl 3 r) F) (s (mU [T t.b,V t.f,Z z t.a A,Z B t.e C] Dg r ow r r (b.dc 2 r)) (rE b (jX ow) fun aF aG b=>lq (nZ b 0 [T t.b,V t.f,Z z t.a A,Z B t.e C] r ow r r) fun aH b=>n (qo b [0] [] [] (by kernel_rfl) ?_))))))))))))));replace b:=b.drew;have m:=b.dp [];refine pF 0 r (lF r) m ?_;obtain ⟨aI,a2,a⟩:=bs a;refine pF 1 r (lV r r a2) m (pF 2 r (ML r) m (uF 3 r (fun hS=>l9 r (hS.bk 0 r) r) m ?_));obtain ⟨aJ,a3,a⟩:=bs a;refine pF 4 r (lV r r a3) m ?_;obtain ⟨aK,a4,a⟩:=bs a;refine pF 5 r (lV r r a4) m (pF 6 r (GQ r) m (uF 7 r (fun hS=>AP r (hS.bk 0 r) r) m (pF 11 r (Ec r) m (uF 12 r (fun hS=>QU r (hS.bk 0 r) r) m ?_))));obtain ⟨al,am,a⟩:=bs a;refine hO 8 (oc r r (ec Wm r) (El fu (b.pr [] [0] [1] r) am) ?_);rintro _ aL ⟨rfl,S⟩;replace b:=b.cn [] [0] S;have m:=b.dp [];refine ⟨sF m,?_⟩;obtain ⟨aM,a5,a⟩:=bs a;refine pF 9 r (lV r r a5) m ?_;obtain ⟨aN,a6,a⟩:=bs a;refine pF 10 r (lV r r a6) m ?_;obtain ⟨an,ao,a⟩:=bs a;refine hO 13 (oc r r (ec JR r) (KL fu (b.pr [] [0] [0] r) ao) ?_);rintro _ aO ⟨rfl,S⟩;replace b:=b.cn [] [0] S;have m:=b.dp [];refine ⟨sF m,?_⟩;obtain ⟨aP,a7,a⟩:=bs a;refine pF 14 r (lV r r a7) m ?_;obtain ⟨ap,a8,a⟩:=bs a;exact pF 15 r (lV r r a8) m (pF 16 r (mP r) m (hD (g (s (ng r r (by omega) (by omega)) (s (mi r) (n (a0 (o.b.length - (x+1)) _ _ (by omega) ⟨x+1,ap,r,by omega,⟨r,r,r,r,y⟩,b.ad [] [3],a⟩)))))))
  obtain rfl:x=o.b.length:=by omega
  rw [lM,qY] at a;exact q (g (s (uJ r r (by omega)) (n (q (jJ r (uy (Y _ _ ⟨j,⟨r,y⟩,b,sm a⟩)))))))
 clear b;rintro f w ⟨j,hf,b,a9⟩;obtain ⟨b5,rfl⟩:=mY hf;subst a9;replace H:=gi H;refine q (g (s (lF r) (s (mP r) (n (kD ?_)))));obtain rfl:=sm H;exact jB r (kH r) ⟨r,b.dp []⟩
end
end Go.Proofs.YtfglbdkfnphjgaaGreat
