/- Contracts, printed by gen3.py. -/
import Derived.Test.YtfglbdkfnphjgaaGreatZ4
import Derived.Test.YtfglbdkfnphjgaaGreatLa
set_option linter.unusedVariables false
set_option maxHeartbeats 12800000
set_option linter.unusedSimpArgs false
set_option maxRecDepth 4000
namespace Go.Proofs.YtfglbdkfnphjgaaGreat
open Go.RowKit Go.Fw Go.Proofs.Tryz
noncomputable section
abbrev zC:=jA->Int->Option (ByteArray)
def Cc (m:Ge->Int->Option BA):Prop:=∀ {d h}{c:Ge}{e a b f},Pre d h [] [.l a b c.a]->m c e=some f-> Calls prog 58 #[.agg #[V c.e,V c.d,V c.g,T c.b,T c.c,Z a c.a b],V e] d (pU fun v w=>v=T f/\Bx d w h (lH []) [] [])
def zY (fu:Nat)(r_r03_Expr:zC)(a:Ge):Option (Ld Bool BA):=if a.e=3 then some (.go (decide (0 < (a.a.length:Int)))) else some (.go false)
def zW (fu:Nat)(r_r03_Expr:zC)(b:Ge)(a:Int):Option (Ld Bool BA):=if a=5 then some (.go (decide (0 < (b.a.length:Int)))) else some (.go false)
def zR (fu:Nat)(r_r03_Expr:zC)(a:Int):Option (Ld Int BA):=if a=1 then some (.go 2) else some (.go a)
def zX (fu:Nat)(r_r03_Expr:zC)(a:Ge)(b:Int):Option (Ld BA BA):=if a.e=0 then (sW fu a.d).bind fun j=>some (.go j) else if a.e=2 then (cat a.b (⟨#[46]⟩:BA)).bind fun F=>(cat F a.c).bind fun G=>some (.go G) else (zY fu r_r03_Expr a).bind fun H=>H.el (fun k=>if k=true then (ix a.a 0).bind fun l=>(cat a.b (⟨#[91]⟩:BA)).bind fun m=>(r_r03_Expr l 1).bind fun c=>(cat m c).bind fun p=>(cat p (⟨#[93]⟩:BA)).bind fun t=>some (.go t) else (zW fu r_r03_Expr a b).bind fun H=>H.el (fun d=>if d=true then (ix a.a 0).bind fun u=>(ix ([(⟨#[45]⟩:BA),(⟨#[33]⟩:BA)]:List BA) (wr (a.e - 4))).bind fun v=>(r_r03_Expr u 5).bind fun e=>(cat v e).bind fun w=>some (.go w) else if b < 5 then if 1 < (a.a.length:Int) then (zR fu r_r03_Expr b).bind fun H=>H.el (fun f=>(ix a.a 0).bind fun x=>(ix a.a 1).bind fun z=>(ix ([(⟨#[43]⟩:BA),(⟨#[45]⟩:BA),(⟨#[42]⟩:BA),(⟨#[47]⟩:BA),(⟨#[37]⟩:BA),(⟨#[38]⟩:BA),(⟨#[124]⟩:BA),(⟨#[94]⟩:BA),(⟨#[60]⟩:BA),(⟨#[60,61]⟩:BA),(⟨#[61,61]⟩:BA),(⟨#[33,61]⟩:BA)]:List BA) (wr (a.e - 6))).bind fun A=>(r_r03_Expr x f).bind fun h=>(cat h (⟨#[32]⟩:BA)).bind fun B=>(cat B A).bind fun C=>(cat C (⟨#[32]⟩:BA)).bind fun D=>(r_r03_Expr z (wr (b+1))).bind fun i=>(cat D i).bind fun E=>some (.go E)) (fun o=>some (.out o)) else some (.go a.b) else some (.go a.b)) (fun o=>some (.out o))) (fun o=>some (.out o))
def BG (fu:Nat)(r_r03_Expr:zC)(e:Ge)(f:Int):Option BA:=(BD fu e.e).bind fun a=>(zX fu r_r03_Expr e a).bind fun h=>h.el (fun b=>if a < f then (cat (⟨#[40]⟩:BA) b).bind fun c=>(cat c (⟨#[41]⟩:BA)).bind fun d=>some d else some b) (fun o=>some o)
def F4:Nat→(Ge→Int→Option (BA))
 | 0=>(fun _ _=>none)
 | fu+1=>BG fu (F4 fu)
def qy (fu:Nat):=(F4 fu)
theorem OD (fu:Nat)(r_r03_Expr:zC)(H_r03_Expr:Cc r_r03_Expr):Cc (BG fu r_r03_Expr):=by
 intro w0 bU e x1 j m r0 hP v;unfold BG at v;have b:=hP.bx;clear hP;generalize hG:lH _=G at b ⊢;refine cf func58 r (lG [(0,.agg #[V e.e,V e.d,V e.g,T e.b,T e.c,Z j e.a m]),(1,V x1)] ⟨r,r,y⟩ fun bV=>q (g (su b (uK r) fun w1 b1 b=>s (mX r) (n (q (g (s (Cr r) (s (l3 r (b.bk 0 r) r) ?_))))))));obtain ⟨p,h2,v⟩:=bs v;refine sc (ec acy r) (NG fu (b.pr [] [0] [] r) h2) ?_;rintro _ w2 ⟨rfl,x⟩;replace b:=b.cn [] [0] x;refine s (xi r) (n (q (g (s (LK r) (s (l9 r (b.bk 0 r) r) (s (mX r) (n (q ?_))))))));obtain ⟨Y3,a,v⟩:=bs v;refine qR (fun f w=>∃ N,Has f [(1,V x1),(5,V p),(6,T N)]/\Bx w0 w bU G [] []/\Ld.go N=Y3) (fun J3 z=>?_) ?_
 ·unfold zX at a;refine pG (q (g (s (Cr r) (s (l3 r (b.bk 0 r) r) (s (kT r r) (s (kD r) (n ?_)))))));rcases iv a with ⟨h4,a⟩|⟨h4,a⟩
  ·refine jN (bt h4) (g (s (L9 r) (s (l3 r (b.bk 0 r) r) ?_)));obtain ⟨ao,h5,a⟩:=bs a;refine sc (ec KU r) (Ct fu (b.pr [] [0] [] r) h5) ?_;rintro _ w5 ⟨rfl,x⟩;replace b:=b.cn [] [0] x;exact s (mX r) (n (z _ _ ⟨ao,⟨r,r,r,y⟩,b.ad [] [],sm a⟩))
  refine jK (bf h4) (q (g (s (Cr r) (s (l3 r (b.bk 0 r) r) (s (kT r r) (s (kD r) (n ?_)))))));rcases iv a with ⟨h6,a⟩|⟨h6,a⟩
  ·refine jN (bt h6) (g (s (LK r) (s (l9 r (b.bk 0 r) r) ?_)));obtain ⟨g7,aR,a⟩:=bs a;refine s (l5 r r aR) (s (Ve r) (s (l9 r (b.bk 0 r) r) ?_));obtain ⟨g8,aS,a⟩:=bs a;exact s (l5 r r aS) (s (mX r) (n (z _ _ ⟨g8,⟨r,r,r,y⟩,b.ad [] [],sm a⟩)))
  refine jK (bf h6) (q ?_);obtain ⟨Y9,M,a⟩:=bs a;refine KA b (fun B f w=>∃ Q,Has f [(1,V x1),(2,Pt b1),(5,V p),(6,T e.b),(31,.bool Q)]/\B w/\Ld.go Q=Y9) (fun J9 ap=>?_) ?_
  ·unfold zY at M;refine g (s (Cr r) (s (l3 r (b.bk 0 r) r) (s (kT r r) (s (kV r) ?_))));rcases iv M with ⟨a8,M⟩|⟨a8,M⟩
   ·rw [um a8];exact kG r (s (Di r) (kG r (s (BZ r (b.bk 0 r) r) (kG r (s (lT uE r) (kG r (s (wO r r) (s (kP r r) (s (kD r) (n (ap _ _ ⟨decide (0 < (e.a.length:Int)),⟨r,r,r,r,r,y⟩,b,sm M⟩)))))))))))
   rw [uO a8];exact jM r (jM r (jM r (jM r (s (ko r r) (s (kD r) (n (ap _ _ ⟨false,⟨r,r,r,r,r,y⟩,b,sm M⟩)))))))
  clear b;rintro f w ⟨Q,hf,b,aT⟩;obtain ⟨bV,rfl⟩:=mZ hf;subst aT;replace a:=gi a;rcases iv a with ⟨R,a⟩|⟨R,a⟩
  ·refine jN (cb R) ?_;obtain ⟨A,H,a⟩:=bs a;obtain ⟨bl,aq,H⟩:=kN H;obtain ⟨b9,ar,b⟩:=b.nm 0 rfl H;obtain ⟨S,U,rfl,a9⟩:=jA.out ar;replace b:=b.kF (d:=.l S U A.a) a9;refine qA b [0] [0,1,2] [] (by kernel_rfl) ?_;replace b:=b.drew;have c:=b;refine pF 0 r (LK r) c (uF 1 r (fun hS=>l9 r (hS.bk 0 r) r) c ?_);obtain ⟨bm,au,a⟩:=bs a;refine pF 2 r (l5 r r au) c (pF 3 r (Di r) c (uF 4 r (fun hS=>BZ r (hS.bk 0 r) r) c (pF 5 r (kY uE jW r r aq (b.dl 2 r) H) c (uF 6 r (fun hS=>nA [V A.e,V A.d,V A.g,T A.b,T A.c,Z S A.a U] mq r jW r r (hS.dc 1 r)) c ?_))));obtain ⟨aU,aV,a⟩:=bs a;refine hO 7 (oc r r (ec G8 r) (H_r03_Expr (b.pr [] [0] [0] r) aV) ?_);rintro _ bn ⟨rfl,x⟩;replace b:=b.cn [] [0] x;have c:=b;refine ⟨sF c,?_⟩;obtain ⟨bo,av,a⟩:=bs a;refine pF 8 r (l5 r r av) c ?_;obtain ⟨aW,aw,a⟩:=bs a;exact pF 9 r (l5 r r aw) c (pF 10 r (mX r) c (hD (z _ _ ⟨aW,⟨r,r,r,y⟩,b.ad [] [],sm a⟩)))
  refine jK (wS R) (q ?_);obtain ⟨aX,t,a⟩:=bs a;refine KA b (fun Q f w=>∃ B,Has f [(1,V x1),(2,Pt b1),(5,V p),(6,T e.b),(51,.bool B)]/\Q w/\Ld.go B=aX) (fun bp a5=>?_) ?_
  ·unfold zW at t;refine g (s (mi r) (s (kT r r) (s (kV r) ?_)));rcases iv t with ⟨aa,t⟩|⟨aa,t⟩
   ·rw [um aa];exact kG r (s (Di r) (kG r (s (BZ r (b.bk 0 r) r) (kG r (s (lT uE r) (kG r (s (wO r r) (s (kP r r) (s (kD r) (n (a5 _ _ ⟨decide (0 < (e.a.length:Int)),⟨r,r,r,r,r,y⟩,b,sm t⟩)))))))))))
   rw [uO aa];exact jM r (jM r (jM r (jM r (s (ko r r) (s (kD r) (n (a5 _ _ ⟨false,⟨r,r,r,r,r,y⟩,b,sm t⟩)))))))
  clear b;rintro f w ⟨B,hf,b,ax⟩;obtain ⟨bV,rfl⟩:=mZ hf;subst ax;replace a:=gi a;rcases iv a with ⟨W,a⟩|⟨W,a⟩
  ·refine jN (cb W) ?_;obtain ⟨C,I,a⟩:=bs a;obtain ⟨bq,ay,I⟩:=kN I;obtain ⟨ba,az,b⟩:=b.nm 0 rfl I;obtain ⟨X,Y,rfl,ab⟩:=jA.out az;replace b:=b.kF (d:=.l X Y C.a) ab;obtain ⟨ac,o,a⟩:=bs a;obtain ⟨br,a6,o⟩:=kN o;obtain ⟨aY,ae,a⟩:=bs a;obtain ⟨aA,a0,a⟩:=bs a;refine qR (fun f w=>Has f [(1,V x1),(5,V p),(6,T aA)]/\Bx w0 w bU G [] []) (fun Jd hJd=>?_) ?_
   ·refine qA b [0] [0,1,2] [] (by kernel_rfl) ?_;replace b:=b.drew;have c:=b;refine pF 1 r (Cr r) c (uF 2 r (fun hS=>l3 r (hS.bk 0 r) r) c (pF 3 r (wY r r) c (pF 6 r (Di r) c (uF 7 r (fun hS=>BZ r (hS.bk 0 r) r) c (pF 8 r (kY uE jW r r ay (b.dl 2 r) I) c (uF 9 r (fun hS=>nA [V C.e,V C.d,V C.g,T C.b,T C.c,Z X C.a Y] mq r jW r r (hS.dc 1 r)) c (mI 0 [10] (by kernel_rfl) (jJ ?_ (jJ ?_ lK)))))))))
    ·refine oo r r (jO b [[T (⟨#[45]⟩:BA)],[T (⟨#[33]⟩:BA)]] ([(⟨#[45]⟩:BA),(⟨#[33]⟩:BA)]:List BA) (wW r r) r r (by decide) ⟨r,⟨r,y⟩⟩) ?_;rintro _ bu ⟨bv,rfl,b⟩;have c:=b.ad [1] [1,2,3];refine ⟨sF c,pF 4 r (kY kZ qp r r a6 (b.vw 0 0 r r) o) c (mI 5 [10] (by kernel_rfl) (jJ ?_ (jJ ?_ lK)))⟩
     ·have c:=b.ad [1] [1,2,3];refine wh r r (jV vL r r ((uo (ds:=[T ac]) (b.vw 0 0 r r) o (fun _ h=>h)) 0 _ r)) (sF c) (hO 10 (oc r r (ec G8 r) (H_r03_Expr (b.pr [] [0,1] [1] r) ae) ?_));rintro _ aB ⟨rfl,x⟩;replace b:=b.cn [] [0,1] x;have c:=b.ad [1] [1,2,3];exact ⟨sF c,pF 11 r (l5 r r a0) c (pF 12 r (mX r) c (hD (hJd _ _ ⟨⟨r,r,r,y⟩,b.ad [] []⟩)))⟩
     refine oc r r (ec G8 r) (H_r03_Expr (b.pr [] [0,1] [1] r) ae) ?_;rintro _ aB ⟨rfl,x⟩;replace b:=b.cn [] [0,1] x;have c:=b.ad [1] [1,2,3];exact ⟨sF c,hO 5 (wh r r (jV vL r r ((uo (ds:=[T ac]) (b.vw 0 0 r r) o (fun _ h=>h)) 0 _ r)) (sF c) (pF 11 r (l5 r r a0) c (pF 12 r (mX r) c (hD (hJd _ _ ⟨⟨r,r,r,y⟩,b.ad [] []⟩)))))⟩
    refine oc r r (ec G8 r) (H_r03_Expr (b.pr [] [0] [0] r) ae) ?_;rintro _ aB ⟨rfl,x⟩;replace b:=b.cn [] [0] x;have c:=b;refine ⟨sF c,hO 0 (oo r r (jO b [[T (⟨#[45]⟩:BA)],[T (⟨#[33]⟩:BA)]] ([(⟨#[45]⟩:BA),(⟨#[33]⟩:BA)]:List BA) (wW r r) r r (by decide) ⟨r,⟨r,y⟩⟩) ?_)⟩;rintro _ bw ⟨bz,rfl,b⟩;have c:=b.ad [1] [1,2,3];exact ⟨sF c,pF 4 r (kY kZ qp r r a6 (b.vw 0 0 r r) o) c (hO 5 (wh r r (jV vL r r ((uo (ds:=[T ac]) (b.vw 0 0 r r) o (fun _ h=>h)) 0 _ r)) (sF c) (pF 11 r (l5 r r a0) c (pF 12 r (mX r) c (hD (hJd _ _ ⟨⟨r,r,r,y⟩,b.ad [] []⟩))))))⟩
   clear b;rintro f w ⟨hf,b⟩;obtain ⟨bV,rfl⟩:=mZ hf;exact z _ _ ⟨aA,⟨r,r,r,y⟩,b,sm a⟩
  refine jK (wS W) (q (g (s (mi r) (s (qC r r) (s (kV r) ?_)))));rcases iv a with ⟨af,a⟩|⟨af,a⟩
  ·rw [um af];refine kG r (s (Di r) (kG r (s (BZ r (b.bk 0 r) r) (kG r (s (lT uE r) (kG r (s (wO r r) (s (kP r r) (s (kD r) (n ?_))))))))));rcases iv a with ⟨ag,a⟩|⟨ag,a⟩
   ·refine jN (bt ag) (q (g (nW (jO b [[T (⟨#[43]⟩:BA)],[T (⟨#[45]⟩:BA)],[T (⟨#[42]⟩:BA)],[T (⟨#[47]⟩:BA)],[T (⟨#[37]⟩:BA)],[T (⟨#[38]⟩:BA)],[T (⟨#[124]⟩:BA)],[T (⟨#[94]⟩:BA)],[T (⟨#[60]⟩:BA)],[T (⟨#[60,61]⟩:BA)],[T (⟨#[61,61]⟩:BA)],[T (⟨#[33,61]⟩:BA)]] ([(⟨#[43]⟩:BA),(⟨#[45]⟩:BA),(⟨#[42]⟩:BA),(⟨#[47]⟩:BA),(⟨#[37]⟩:BA),(⟨#[38]⟩:BA),(⟨#[124]⟩:BA),(⟨#[94]⟩:BA),(⟨#[60]⟩:BA),(⟨#[60,61]⟩:BA),(⟨#[61,61]⟩:BA),(⟨#[33,61]⟩:BA)]:List BA) (Gy r r r r r r r r r r r r) r r (by decide) ⟨r,⟨r,⟨r,⟨r,⟨r,⟨r,⟨r,⟨r,⟨r,⟨r,⟨r,⟨r,y⟩⟩⟩⟩⟩⟩⟩⟩⟩⟩⟩⟩) ?_)));rintro _ bA ⟨aC,rfl,b⟩;refine s (mh r) (n (q (g (s (mi r) (s (xi r) (n (q ?_)))))));obtain ⟨aZ,u,a⟩:=bs a;refine KA b (fun B f w=>∃ D,Has f [(1,V x1),(2,Pt b1),(5,V p),(7,.slice (ad aC) ([(⟨#[43]⟩:BA),(⟨#[45]⟩:BA),(⟨#[42]⟩:BA),(⟨#[47]⟩:BA),(⟨#[37]⟩:BA),(⟨#[38]⟩:BA),(⟨#[124]⟩:BA),(⟨#[94]⟩:BA),(⟨#[60]⟩:BA),(⟨#[60,61]⟩:BA),(⟨#[61,61]⟩:BA),(⟨#[33,61]⟩:BA)]:List BA).length 12),(8,V D)]/\B w/\Ld.go D=aZ) (fun bB a7=>?_) ?_
    ·unfold zR at u;refine q (g (s (mi r) (s (kT r r) (n ?_))));rcases iv u with ⟨ah,u⟩|⟨ah,u⟩
     ·exact jN (bt ah) (g (s (xi r) (n (a7 _ _ ⟨2,⟨r,r,r,r,r,y⟩,b,sm u⟩))))
     exact jK (bf ah) (wk (a7 _ _ ⟨p,⟨r,r,r,r,r,y⟩,b,sm u⟩))
    clear b;rintro f w ⟨D,hf,b,aD⟩;obtain ⟨bV,rfl⟩:=mZ hf;subst aD;replace a:=gi a;obtain ⟨E,J,a⟩:=bs a;obtain ⟨bC,aE,J⟩:=kN J;obtain ⟨bb,aF,b⟩:=b.nm 1 rfl J;obtain ⟨a1,a2,rfl,ai⟩:=jA.out aF;replace b:=b.kF (d:=.l a1 a2 E.a) ai;obtain ⟨F,K,a⟩:=bs a;obtain ⟨bD,aG,K⟩:=kN K;obtain ⟨bc,aH,b⟩:=b.nm 3 rfl K;obtain ⟨a3,a4,rfl,aj⟩:=jA.out aH;replace b:=b.kF (d:=.l a3 a4 F.a) aj;refine qA b [0,1] [0,1,2,3,4,5] [] (by kernel_rfl) ?_;replace b:=b.drew;have c:=b;refine pF 0 r (Di r) c (uF 1 r (fun hS=>BZ r (hS.bk 1 r) r) c (pF 2 r (kY uE jW r r aE (b.dl 5 r) J) c (uF 3 r (fun hS=>nA [V E.e,V E.d,V E.g,T E.b,T E.c,Z a1 E.a a2] mq r jW r r (hS.dc 3 r)) c (pF 4 r (mi r) c (pF 7 r (mK r) c (pF 8 r (Cr r) c (uF 9 r (fun hS=>l3 r (hS.bk 1 r) r) c (pF 10 r (wY r r) c ?_))))))));obtain ⟨b0,L,a⟩:=bs a;obtain ⟨bE,aI,L⟩:=kN L;refine pF 11 r (kY kZ qp r r aI (b.vw 0 4 r r) L) c (tU 12 r (fun _ hS=>jV vL r r ((uo (ds:=[T b0]) (hS.vw 0 4 r r) L (fun _ h=>h)) 0 _ r)) (sF c) (pF 15 r (Di r) c (uF 16 r (fun hS=>BZ r (hS.bk 1 r) r) c (pF 17 r (kY uE jW r r aG (b.dl 5 r) K) c (uF 18 r (fun hS=>nA [V F.e,V F.d,V F.g,T F.b,T F.c,Z a3 F.a a4] mq r jW r r (hS.dc 1 r)) c (pF 19 r (mi r) c (pF 20 r (kU r r) c ?_)))))));obtain ⟨b2,b3,a⟩:=bs a;refine hO 5 (oc r r (ec G8 r) (H_r03_Expr (b.pr [] [0,1] [2] r) b3) ?_);rintro _ bF ⟨rfl,x⟩;replace b:=b.cn [] [0,1] x;have c:=b;refine ⟨sF c,?_⟩;obtain ⟨bG,aJ,a⟩:=bs a;refine pF 6 r (l5 r r aJ) c ?_;obtain ⟨bH,aK,a⟩:=bs a;refine pF 13 r (l5 r r aK) c ?_;obtain ⟨bI,aL,a⟩:=bs a;refine pF 14 r (l5 r r aL) c ?_;obtain ⟨b4,b5,a⟩:=bs a;refine hO 21 (oc r r (ec G8 r) (H_r03_Expr (b.pr [] [0,1] [0] r) b5) ?_);rintro _ bJ ⟨rfl,x⟩;replace b:=b.cn [] [0,1] x;have c:=b;refine ⟨sF c,?_⟩;obtain ⟨b6,aM,a⟩:=bs a
    exact pF 22 r (l5 r r aM) c (pF 23 r (mX r) c (hD (z _ _ ⟨b6,⟨r,r,r,y⟩,b.ad [] [],sm a⟩)))
   exact jK (bf ag) (wk (z _ _ ⟨e.b,⟨r,r,r,y⟩,b.ad [] [],sm a⟩))
  rw [uO af];exact jM r (jM r (jM r (jM r (s (ko r r) (s (kD r) (n (jK r (wk (z _ _ ⟨e.b,⟨r,r,r,y⟩,b.ad [] [],sm a⟩)))))))))
 clear b;rintro f w ⟨N,hf,b,b7⟩;obtain ⟨bV,rfl⟩:=mZ hf;subst b7;replace v:=gi v;refine q (q (g (s (mi r) (s (mi r) (s (qC r r) (n ?_))))));rcases iv v with ⟨ak,v⟩|⟨ak,v⟩
 ·refine jN (bt ak) (q (g (s (lI r) ?_)));obtain ⟨bK,aN,v⟩:=bs v;refine s (l5 r r aN) ?_;obtain ⟨bL,aO,v⟩:=bs v;refine s (l5 r r aO) (s (mX r) (n (kH ?_)));obtain rfl:=sm v;exact jC r (kL r) ⟨r,b⟩
 refine jK (bf ak) (wk (q (g (s (lI r) (s (mX r) (n (kH ?_)))))));obtain rfl:=sm v;exact jC r (kL r) ⟨r,b⟩
theorem Ni (fu:Nat):Cc (qy fu):=by
 induction fu with
 | zero=>exact by intro a b;intros;(try intro _);intros;exact nn (by assumption)
 | succ fu ih=>exact OD fu (qy fu) ih
theorem Ho (fu:Nat):Cc (qy fu):=(Ni fu)
def Pd (m:(List Ge)->Option BA):Prop:=∀ {c f d a b e},Pre c f [] [.l a b d]->m d=some e-> Calls prog 86 #[Z a d b] c (pU fun v w=>v=T e/\Bx c w f (lH []) [] [])
def zJ (fu:Nat)(a:BA)(b:Nat):Option (Ld BA BA):=if 0 < (b:Int) then (cat a (⟨#[44,32]⟩:BA)).bind fun c=>some (.go c) else some (.go a)
def tJ (fu:Nat):List Ge→Nat→BA→Option (Ld (BA) (BA))
 | [],_,a=>some (.go a)
 | e :: f,d,a=>
 (zJ fu a d).bind fun i=>i.el (fun b=>
 (qy fu e 1).bind fun c=>
 (cat b c).bind fun h=>
 tJ fu f (d+1) h
 ) (fun o=>some (.out o))
def zH (fu:Nat)(b:(List Ge)):Option BA:=(tJ fu b 0 (⟨#[]⟩:BA)).bind fun c=>c.el (fun a=>some a) (fun o=>some o)
theorem G9 (fu:Nat):Pd (zH fu):=by
 intro B aa o h i r0 L v;unfold zH at v;have c:=L.bx;clear L;generalize hG:lH _=G at c ⊢;refine cf func86 r (lG [(0,Z h o i)] ⟨r,y⟩ fun ab=>q (g (s (mX r) (n (q (g (s (mX r) (n (q (q (g (s (mK r) (s (lT uE r) (s (mi r) (n ?_)))))))))))))));have R:=(c.dl 0 r).bd;obtain ⟨M,b,v⟩:=bs v;refine qR (fun f w=>∃ e,Has f [(3,T e)]/\Bx B w aa G [] [.l h i o]/\Ld.go e=M) (fun J1 C=>?_) ?_
 ·refine pG (kK (fun ac f w=>∃ p e,ac=o.length - p/\p<=o.length/\Has f [(8,V (p:Int)),(3,T e),(6,Z h o i),(7,V (o.length:Int))]/\Bx B w aa G [] [.l h i o]/\tJ fu (o.drop p) p e=some M) o.length ⟨0,(⟨#[]⟩:BA),r,uy _,⟨r,r,r,r,y⟩,c,b⟩ ?_);clear c b;rintro ac f w ⟨p,e,rfl,S,hf,c,b⟩ K1 D;obtain ⟨ab,rfl⟩:=mZ hf;rcases yZ p o.length with x | x
  ·obtain ⟨a,u⟩:=lZ (l:=o) x;rw [mD u,tJ] at b;obtain ⟨U,E,c⟩:=c.nm 0 rfl u;obtain ⟨j,k,rfl,z⟩:=jA.out E;replace c:=c.kF (d:=.l j k a.a) z;refine q (g (s (vI r r (by omega)) (n (q (jN r (wk (q (pG (q (g (s (mi r) (s (kY uE jW r r r (c.dl 2 r) u) (s (nA [V a.e,V a.d,V a.g,T a.b,T a.c,Z j a.a k] mq r jW r r (c.dc 1 r)) (su c (jT jW) fun w3 N c=>s (xi r) (lD (oM c 0 [V a.e,V a.d,V a.g,T a.b,T a.c,Z j a.a k] r jW r r) fun w4 c=>n (q ?_))))))))))))))));obtain ⟨W,m,b⟩:=bs b;refine KA (c.dp [0,2]) (fun Q f w=>∃ t,Has f [(3,T t),(5,Pt N),(6,Z h o i),(7,V (o.length:Int)),(8,V (p:Int))]/\Q w/\Ld.go t=W) (fun J5 A=>?_) ?_
   ·unfold zJ at m;refine q (g (s (mi r) (s (wO r r) (n ?_))));rcases iv m with ⟨F,m⟩|⟨F,m⟩
    ·refine jN (bt F) (g (s (lI r) ?_));obtain ⟨X,H,m⟩:=bs m;exact s (l5 r r H) (s (mX r) (n (A _ _ ⟨X,⟨r,r,r,r,r,y⟩,c.dp [0,2],sm m⟩)))
    exact jK (bf F) (wk (A _ _ ⟨e,⟨r,r,r,r,r,y⟩,c.dp [0,2],sm m⟩))
   clear c;rintro f w ⟨t,hf,c,I⟩;obtain ⟨ab,rfl⟩:=mZ hf;subst I;replace b:=gi b;refine g (s (lI r) (s (l7 [V a.e,V a.d,V a.g,T a.b,T a.c,Z j a.a k] mq jW r (c.bk 0 r)) ?_));obtain ⟨Q,Y,b⟩:=bs b;refine sc (ec G8 r) (Ho fu (c.pr [] [0] [0] r) Y) ?_;rintro _ w8 ⟨rfl,hK⟩;replace c:=c.cn [] [0] hK;obtain ⟨g9,J,b⟩:=bs b;exact s (l5 r r J) (s (mX r) (n (g (s (nH r r (by omega) (by omega)) (s (mi r) (n (D (o.length - (p+1)) _ _ (by omega) ⟨p+1,g9,r,by omega,⟨r,r,r,r,y⟩,c.ad [] [1],b⟩)))))))
  obtain rfl:p=o.length:=by omega
  rw [lW,tJ] at b;exact q (g (s (vH r r (by omega)) (n (q (jK r (uS (C _ _ ⟨e,⟨r,y⟩,c,sm b⟩)))))))
 clear c;rintro f w ⟨e,hf,c,K⟩;obtain ⟨ab,rfl⟩:=mZ hf;subst K;replace v:=gi v;refine q (g (s (lI r) (s (mX r) (n (kH ?_)))));obtain rfl:=sm v;exact jC r (kL r) ⟨r,c.dp []⟩
def MQ (m:(List BA)->Option BA):Prop:=∀ {c f d a b e},Pre c f [] [.l a b d]->m d=some e-> Calls prog 42 #[Z a d b] c (pU fun v w=>v=T e/\Bx c w f (lH []) [] [])
def pY (fu:Nat):List BA→Nat→BA→Option (Ld (BA) (BA))
 | [],_,a=>some (.go a)
 | c :: d,b,a=>
 if 0 < (b:Int) then
  (cat a (⟨#[44,32]⟩:BA)).bind fun e=>
  (cat e c).bind fun f=>
  pY fu d (b+1) f
 else
  (cat a c).bind fun h=>
  pY fu d (b+1) h
def xV (fu:Nat)(b:(List BA)):Option BA:=(pY fu b 0 (⟨#[]⟩:BA)).bind fun c=>c.el (fun a=>some a) (fun o=>some o)
theorem Gf (fu:Nat):MQ (xV fu):=by
 intro B R e c d K C m;unfold xV at m;have i:=C.bx;clear C;generalize L:lH _=G at i ⊢;refine cf func42 r (lG [(0,Z c e d)] ⟨r,y⟩ fun S=>q (g (s (mX r) (n (q (g (s (mX r) (n (q (q (g (s (mK r) (s (lT kZ r) (s (mi r) (n ?_)))))))))))))));have E:=(i.dl 0 r).bd;obtain ⟨D,a,m⟩:=bs m;refine qR (fun f w=>∃ b,Has f [(3,T b)]/\Bx B w R G [] [.l c d e]/\Ld.go b=D) (fun M t=>?_) ?_
 ·refine pG (kK (fun U f w=>∃ j b,U=e.length - j/\j<=e.length/\Has f [(8,V (j:Int)),(3,T b),(6,Z c e d),(7,V (e.length:Int))]/\Bx B w R G [] [.l c d e]/\pY fu (e.drop j) j b=some D) e.length ⟨0,(⟨#[]⟩:BA),r,uy _,⟨r,r,r,r,y⟩,i,a⟩ ?_);clear i a;rintro U f w ⟨j,b,rfl,F,hf,i,a⟩ N o;obtain ⟨S,rfl⟩:=mZ hf;rcases yZ j e.length with p | p
  ·obtain ⟨H,k⟩:=lZ (l:=e) p;rw [mD k,pY] at a;refine q (g (s (vI r r (by omega)) (n (q (jN r (wk (q (pG (q (g (s (mi r) (s (kY kZ qp r r r (i.dl 0 r) k) (s (jV vL r r ((uo (ds:=[T H]) (i.dl 0 r) k (fun _ h=>h)) 0 _ r)) (s (xi r) (s (mX r) (n (q (q (g (s (mi r) (s (wO r r) (n ?_))))))))))))))))))))));rcases iv a with ⟨u,a⟩|⟨u,a⟩
   ·refine jN (bt u) (g (s (lI r) ?_));obtain ⟨Q,v,a⟩:=bs a;refine s (l5 r r v) (s (mX r) (n (g (s (lI r) (s (lI r) ?_)))));obtain ⟨I,x,a⟩:=bs a;exact s (l5 r r x) (s (mX r) (n (g (s (nH r r (by omega) (by omega)) (s (mi r) (n (o (e.length - (j+1)) _ _ (by omega) ⟨j+1,I,r,by omega,⟨r,r,r,r,y⟩,i,a⟩)))))))
   refine jK (bf u) (wk (g (s (lI r) (s (lI r) ?_))));obtain ⟨J,z,a⟩:=bs a;exact s (l5 r r z) (s (mX r) (n (g (s (nH r r (by omega) (by omega)) (s (mi r) (n (o (e.length - (j+1)) _ _ (by omega) ⟨j+1,J,r,by omega,⟨r,r,r,r,y⟩,i,a⟩)))))))
  obtain rfl:j=e.length:=by omega
  rw [lW,pY] at a;exact q (g (s (vH r r (by omega)) (n (q (jK r (uS (t _ _ ⟨b,⟨r,y⟩,i,sm a⟩)))))))
 clear i;rintro f w ⟨b,hf,i,A⟩;obtain ⟨S,rfl⟩:=mZ hf;subst A;replace m:=gi m;refine q (g (s (lI r) (s (mX r) (n (kH ?_)))));obtain rfl:=sm m;exact jC r (kL r) ⟨r,i.dp []⟩
def Ml (m:Gs->Option BA):Prop:=∀ {k p}{a:Gs}{b c d e f h i j o},Pre k p [] [.l b c a.d,.l d e a.a,.l f h a.e,.l i j a.h]->m a=some o-> Calls prog 60 #[.agg #[V a.c,V a.f,V a.n,T a.b,T a.k,V a.m,V a.g,Z b a.d c,T a.j,V a.i,Z d a.a e,Z f a.e h,Z i a.h j]] k (pU fun v w=>v=T o/\Bx k w p (lH []) [] [])
def qL (fu:Nat)(c:Gs):Option BA:=if ¬ c.j=(⟨#[]⟩:BA) then (cat c.j (⟨#[40]⟩:BA)).bind fun d=>(zH fu c.a).bind fun a=>(cat d a).bind fun e=>(cat e (⟨#[41]⟩:BA)).bind fun f=>some f else (zH fu c.a).bind fun b=>some b
theorem wB (fu:Nat):Ml (qL fu):=by
 intro E R c e f h j l m o p F z b;unfold qL at b;have a:=z.bx;clear z;generalize H:lH _=G at a ⊢;refine cf func60 r (lG [(0,.agg #[V c.c,V c.f,V c.n,T c.b,T c.k,V c.m,V c.g,Z e c.d f,T c.j,V c.i,Z h c.a j,Z l c.e m,Z o c.h p])] ⟨r,y⟩ fun S=>q (g (su a (uK r) fun I J a=>s (mX r) (n (q (q (g (s (EX r) (s (l9 r (a.bk 0 r) r) (s (Jo r r) (n ?_)))))))))));rcases iv b with ⟨t,b⟩|⟨t,b⟩
 ·refine jN (bt t) (q (qA a [0] [] [] (by kernel_rfl) ?_));replace a:=a.drew;have d:=a.dp [];refine pF 0 r (EX r) d (uF 1 r (fun hS=>l9 r (hS.bk 0 r) r) d ?_);obtain ⟨K,u,b⟩:=bs b;refine pF 2 r (l5 r r u) d (pF 3 r (sQ r) d (uF 4 r (fun hS=>BZ r (hS.bk 0 r) r) d ?_));obtain ⟨A,C,b⟩:=bs b;refine hO 5 (oc r r (ec X8 r) (G9 fu (a.pr [] [0] [1] r) C) ?_);rintro _ L ⟨rfl,v⟩;replace a:=a.cn [] [0] v;have d:=a.dp [];refine ⟨sF d,?_⟩;obtain ⟨M,w,b⟩:=bs b;refine pF 6 r (l5 r r w) d ?_;obtain ⟨N,x,b⟩:=bs b;refine pF 7 r (l5 r r x) d (pF 8 r (mX r) d (hD (kH ?_)));obtain rfl:=sm b;exact jC r (kL r) ⟨r,a.ad [] []⟩
 refine jK (bf t) (wk (q (g (s (sQ r) (s (BZ r (a.bk 0 r) r) ?_)))));obtain ⟨B,D,b⟩:=bs b;refine sc (ec X8 r) (G9 fu (a.pr [] [0] [1] r) D) ?_;rintro _ Q ⟨rfl,v⟩;replace a:=a.cn [] [0] v;refine s (mX r) (n (kH ?_));obtain rfl:=sm b;exact jC r (kL r) ⟨r,a.ad [] []⟩
abbrev wo:=(List jI)->ByteArray->Option (ByteArray)
def Bb (m:(List Gs)->BA->Option BA):Prop:=∀ {c h d e a b f},Pre c h [] [.l a b d]->m d e=some f-> Calls prog 43 #[Z a d b,T e] c (pU fun v w=>v=T f/\Bx c w h (lH []) [] [])
def yJ (fu:Nat)(r_p03_block:wo)(c:Gs):Option (Ld BA BA):=if 0 < (c.d.length:Int) then (ix c.d 0).bind fun d=>(qy fu d 1).bind fun a=>(cat a (⟨#[32,61,32]⟩:BA)).bind fun b=>some (.go b) else some (.go (⟨#[]⟩:BA))
def yD (fu:Nat)(r_p03_block:wo)(a:Gs):Option (Ld BA BA):=if a.k=(⟨#[]⟩:BA) then some (.go (⟨#[105,110,116]⟩:BA)) else some (.go a.k)
def y7 (fu:Nat)(r_p03_block:wo)(e:Gs)(a:BA):Option (Ld BA BA):=if 0 < e.m then (sW fu e.m).bind fun b=>(cat (⟨#[105,110,116,91]⟩:BA) b).bind fun c=>(cat c (⟨#[93]⟩:BA)).bind fun d=>some (.go d) else some (.go a)
def x9 (fu:Nat)(r_p03_block:wo)(a:Gs):Option (Ld Bool BA):=if a.c=2 then some (.go (decide (a.c=2))) else some (.go (decide (a.c=3)))
def lS (fu:Nat)(r_p03_block:wo)(b:BA):List Gs→Nat→BA→Option (Ld (BA) (BA))
 | [],_,a=>some (.go a)
 | c :: d,e,a=>
 (yJ fu r_p03_block c).bind fun aC=>aC.el (fun A=>
 if c.c=1 then
  (yD fu r_p03_block c).bind fun aC=>aC.el (fun f=>
  (y7 fu r_p03_block c f).bind fun aC=>aC.el (fun h=>
  (cat a b).bind fun C=>
  (cat C (⟨#[118,97,114,32]⟩:BA)).bind fun D=>
  (cat D c.b).bind fun E=>
  (cat E (⟨#[58,32]⟩:BA)).bind fun F=>
  (cat F h).bind fun G=>
  (cat G (⟨#[59,10]⟩:BA)).bind fun H=>
  lS fu r_p03_block b d (e+1) H
  ) (fun o=>some (.out o))
  ) (fun o=>some (.out o))
 else
  (x9 fu r_p03_block c).bind fun aC=>aC.el (fun i=>
  if i=true then
   (cat a b).bind fun I=>
   (cat I A).bind fun J=>
   (qL fu c).bind fun j=>
   (cat J j).bind fun K=>
   (cat K (⟨#[59,10]⟩:BA)).bind fun L=>
   lS fu r_p03_block b d (e+1) L
  else
   if c.c=6 then
    (cat a b).bind fun M=>
    (cat M (⟨#[114,101,116,117,114,110,32]⟩:BA)).bind fun N=>
    (qL fu c).bind fun k=>
    (cat N k).bind fun P=>
    (cat P (⟨#[59,10]⟩:BA)).bind fun Q=>
    lS fu r_p03_block b d (e+1) Q
   else
    if c.c=7 then
     (cat a b).bind fun R=>
     (cat R (⟨#[116,104,114,111,119,32]⟩:BA)).bind fun S=>
     (qL fu c).bind fun l=>
     (cat S l).bind fun U=>
     (cat U (⟨#[59,10]⟩:BA)).bind fun W=>
     lS fu r_p03_block b d (e+1) W
    else
     if c.c=9 then
      (cat a b).bind fun X=>
      (cat X (⟨#[112,114,105,110,116,32]⟩:BA)).bind fun Y=>
      (qL fu c).bind fun m=>
      (cat Y m).bind fun a0=>
      (cat a0 (⟨#[59,10]⟩:BA)).bind fun a1=>
      lS fu r_p03_block b d (e+1) a1
     else
      if c.c=4 then
       (cat a b).bind fun a2=>
       (cat a2 (⟨#[105,102,32]⟩:BA)).bind fun a3=>
       (cat b (⟨#[9]⟩:BA)).bind fun a4=>
       (qL fu c).bind fun p=>
       (cat a3 p).bind fun a5=>
       (cat a5 (⟨#[32,123,10]⟩:BA)).bind fun a6=>
       (r_p03_block c.e a4).bind fun t=>
       (cat a6 t).bind fun B=>
       if 0 < (c.h.length:Int) then
        (cat B b).bind fun a7=>
        (cat a7 (⟨#[125,32,101,108,115,101,32,123,10]⟩:BA)).bind fun a8=>
        (cat b (⟨#[9]⟩:BA)).bind fun a9=>
        (r_p03_block c.h a9).bind fun u=>
        (cat a8 u).bind fun aa=>
        (cat aa b).bind fun ab=>
        (cat ab (⟨#[125,10]⟩:BA)).bind fun ac=>
        lS fu r_p03_block b d (e+1) ac
       else
        (cat B b).bind fun ae=>
        (cat ae (⟨#[125,10]⟩:BA)).bind fun af=>
        lS fu r_p03_block b d (e+1) af
      else
       if c.c=5 then
        (cat a b).bind fun ag=>
        (cat ag (⟨#[119,104,105,108,101,32]⟩:BA)).bind fun ah=>
        (cat b (⟨#[9]⟩:BA)).bind fun ai=>
        (qL fu c).bind fun v=>
        (cat ah v).bind fun aj=>
        (cat aj (⟨#[32,123,10]⟩:BA)).bind fun ak=>
        (r_p03_block c.e ai).bind fun w=>
        (cat ak w).bind fun al=>
        (cat al b).bind fun am=>
        (cat am (⟨#[125,10]⟩:BA)).bind fun an=>
        lS fu r_p03_block b d (e+1) an
       else
        if c.c=8 then
         (cat a b).bind fun ao=>
         (cat ao (⟨#[116,114,121,32,123,10]⟩:BA)).bind fun ap=>
         (cat b (⟨#[9]⟩:BA)).bind fun aq=>
         (cat b (⟨#[9]⟩:BA)).bind fun ar=>
         (r_p03_block c.e aq).bind fun x=>
         (cat ap x).bind fun au=>
         (cat au b).bind fun av=>
         (cat av (⟨#[125,32,99,97,116,99,104,32]⟩:BA)).bind fun aw=>
         (cat aw c.b).bind fun ax=>
         (cat ax (⟨#[32,123,10]⟩:BA)).bind fun ay=>
         (r_p03_block c.h ar).bind fun z=>
         (cat ay z).bind fun az=>
         (cat az b).bind fun aA=>
         (cat aA (⟨#[125,10]⟩:BA)).bind fun aB=>
         lS fu r_p03_block b d (e+1) aB
        else
         lS fu r_p03_block b d (e+1) a
  ) (fun o=>some (.out o))
 ) (fun o=>some (.out o))
def AL (fu:Nat)(r_p03_block:wo)(b:(List Gs))(c:BA):Option BA:=(lS fu r_p03_block c b 0 (⟨#[]⟩:BA)).bind fun d=>d.el (fun a=>some a) (fun o=>some o)
def Ev:Nat→((List Gs)→BA→Option (BA))
 | 0=>(fun _ _=>none)
 | fu+1=>AL fu (Ev fu)
def o8 (fu:Nat):=(Ev fu)
theorem LP (fu:Nat)(r_p03_block:wo)(H_p03_block:Bb r_p03_block):Bb (AL fu r_p03_block):=by
 intro w0 dM C x1 x z r0 hP hM;unfold AL at hM;have c:=hP.bx;clear hP;generalize hG:lH _=G at c ⊢;refine cf func43 r (lG [(0,Z x C z),(1,T x1)] ⟨r,r,y⟩ fun dN=>q (g (s (mX r) (n (q (g (s (mX r) (n (q (q (g (s (mK r) (s (lT Cm r) (s (mi r) (n ?_)))))))))))))));have cr:=(c.dl 0 r).bd;obtain ⟨Y1,a,hM⟩:=bs hM;refine qR (fun f w=>∃ A,Has f [(5,T A)]/\Bx w0 w dM G [] [.l x z C]/\Ld.go A=Y1) (fun J1 bB=>?_) ?_
 ·refine pG (kK (fun dO f w=>∃ D A,dO=C.length - D/\D<=C.length/\Has f [(12,V (D:Int)),(1,T x1),(5,T A),(10,Z x C z),(11,V (C.length:Int))]/\Bx w0 w dM G [] [.l x z C]/\lS fu r_p03_block x1 (C.drop D) D A=some Y1) C.length ⟨0,(⟨#[]⟩:BA),r,uy _,⟨r,r,r,r,r,y⟩,c,a⟩ ?_);clear c a;rintro dO f w ⟨D,A,rfl,ct,hf,c,a⟩ K1 H;obtain ⟨dN,rfl⟩:=mZ hf;rcases yZ D C.length with ai | ai
  ·obtain ⟨b,a2⟩:=lZ (l:=C) ai;rw [mD a2,lS] at a;obtain ⟨cu,bC,c⟩:=c.nm 0 rfl a2;obtain ⟨h,j,m,o,p,t,u,v,rfl,aj,ak,al,am⟩:=jI.out bC;replace c:=c.kF (d:=.l h j b.d) aj;replace c:=c.kF (d:=.l m o b.a) ak;replace c:=c.kF (d:=.l p t b.e) al;replace c:=c.kF (d:=.l u v b.h) am;refine q (g (s (vI r r (by omega)) (n (q (jN r (wk (q (pG (q (g (s (kY Cm jQ r r r (c.dl 5 r) a2) (s (nA [V b.c,V b.f,V b.n,T b.b,T b.k,V b.m,V b.g,Z h b.d j,T b.j,V b.i,Z m b.a o,Z p b.e t,Z u b.h v] lu r jQ r r (c.dc 4 r)) (su c (jT jQ) fun w3 S c=>lD (oM c 0 [V b.c,V b.f,V b.n,T b.b,T b.k,V b.m,V b.g,Z h b.d j,T b.j,V b.i,Z m b.a o,Z p b.e t,Z u b.h v] r jQ r r) fun w4 c=>n (q (g (s (mX r) (n (q ?_))))))))))))))))));obtain ⟨Y5,E,a⟩:=bs a;refine qR (fun f w=>∃ N,Has f [(1,T x1),(5,T A),(7,Pt S),(8,T N),(10,Z x C z),(11,V (C.length:Int)),(12,V (D:Int))]/\Bx w0 w dM G [.box S 122 #[V b.c,V b.f,V b.n,T b.b,T b.k,V b.m,V b.g,Z h b.d j,T b.j,V b.i,Z m b.a o,Z p b.e t,Z u b.h v]] [.l u v b.h,.l p t b.e,.l m o b.a,.l h j b.d,.l x z C]/\Ld.go N=Y5) (fun J5 an=>?_) ?_
   ·unfold yJ at E;refine q (g (s (zI r) (s (BZ r (c.bk 0 r) r) (s (lT uE r) (s (wO r r) (n ?_))))));rcases iv E with ⟨h6,E⟩|⟨h6,E⟩
    ·refine jN (bt h6) (g (s (zI r) (s (BZ r (c.bk 0 r) r) ?_)));obtain ⟨e7,R,E⟩:=bs E;obtain ⟨k7,bE,R⟩:=kN R;obtain ⟨cw,bF,c⟩:=c.nm 3 rfl R;obtain ⟨U,W,rfl,ao⟩:=jA.out bF;replace c:=c.kF (d:=.l U W e7.a) ao;refine s (kY uE jW r r bE (c.dl 5 r) R) (s (nA [V e7.e,V e7.d,V e7.g,T e7.b,T e7.c,Z U e7.a W] mq r jW r r (c.dc 1 r)) ?_);obtain ⟨cq,h9,E⟩:=bs E;refine sc (ec G8 r) (Ho fu (c.pr [] [0] [0] r) h9) ?_;rintro _ w9 ⟨rfl,F⟩;replace c:=c.cn [] [0] F;obtain ⟨bG,ap,E⟩:=bs E;exact s (l5 r r ap) (s (mX r) (n (an _ _ ⟨bG,⟨r,r,r,r,r,r,r,y⟩,c.dp [2,3,4,5,7],sm E⟩)))
    exact jK (bf h6) (wk (an _ _ ⟨(⟨#[]⟩:BA),⟨r,r,r,r,r,r,r,y⟩,c.dp [0,1,2,3,5],sm E⟩))
   clear c;rintro f w ⟨N,hf,c,bH⟩;obtain ⟨dN,rfl⟩:=mZ hf;subst bH;replace a:=gi a;refine q (g (s (zy r) (s (l3 r (c.bk 0 r) r) (n (pG (q (g (s (kT r r) (s (kD r) (n ?_))))))))));rcases iv a with ⟨a4,a⟩|⟨a4,a⟩
   ·refine jN (bt a4) (q (g (s (IL r) (s (l9 r (c.bk 0 r) r) (s (mX r) (n (q ?_)))))));obtain ⟨bI,I,a⟩:=bs a;refine KA c (fun B f w=>∃ K,Has f [(1,T x1),(5,T A),(7,Pt S),(9,T K),(10,Z x C z),(11,V (C.length:Int)),(12,V (D:Int))]/\B w/\Ld.go K=bI) (fun cy X=>?_) ?_
    ·unfold yD at I;refine q (g (s (lI r) (s (tu r r) (n ?_))));rcases iv I with ⟨a5,I⟩|⟨a5,I⟩
     ·exact jN (bt a5) (g (s (mX r) (n (X _ _ ⟨(⟨#[105,110,116]⟩:BA),⟨r,r,r,r,r,r,r,y⟩,c,sm I⟩))))
     exact jK (bf a5) (wk (X _ _ ⟨b.k,⟨r,r,r,r,r,r,r,y⟩,c,sm I⟩))
    clear c;rintro f w ⟨K,hf,c,aq⟩;obtain ⟨dN,rfl⟩:=mZ hf;subst aq;replace a:=gi a;refine q ?_;obtain ⟨bJ,B,a⟩:=bs a;refine qR (fun f w=>∃ L,Has f [(1,T x1),(5,T A),(7,Pt S),(9,T L),(10,Z x C z),(11,V (C.length:Int)),(12,V (D:Int))]/\Bx w0 w dM G [.box S 122 #[V b.c,V b.f,V b.n,T b.b,T b.k,V b.m,V b.g,Z h b.d j,T b.j,V b.i,Z m b.a o,Z p b.e t,Z u b.h v]] [.l u v b.h,.l p t b.e,.l m o b.a,.l h j b.d,.l x z C]/\Ld.go L=bJ) (fun cz Y=>?_) ?_
    ·unfold y7 at B;refine q (g (s (DK r) (s (l3 r (c.bk 0 r) r) (s (wO r r) (n ?_)))));rcases iv B with ⟨a6,B⟩|⟨a6,B⟩
     ·refine jN (bt a6) (g (s (DK r) (s (l3 r (c.bk 0 r) r) ?_)));obtain ⟨bK,bL,B⟩:=bs B;refine sc (ec KU r) (Ct fu (c.pr [] [0] [] r) bL) ?_;rintro _ cA ⟨rfl,F⟩;replace c:=c.cn [] [0] F;obtain ⟨cB,ar,B⟩:=bs B;refine s (l5 r r ar) ?_;obtain ⟨bM,au,B⟩:=bs B;exact s (l5 r r au) (s (mX r) (n (Y _ _ ⟨bM,⟨r,r,r,r,r,r,r,y⟩,c,sm B⟩)))
     exact jK (bf a6) (wk (Y _ _ ⟨K,⟨r,r,r,r,r,r,r,y⟩,c,sm B⟩))
    clear c;rintro f w ⟨L,hf,c,av⟩;obtain ⟨dN,rfl⟩:=mZ hf;subst av;replace a:=gi a;refine g (s (lI r) (s (lI r) ?_));obtain ⟨cC,aw,a⟩:=bs a;refine s (l5 r r aw) ?_;obtain ⟨cD,ax,a⟩:=bs a;refine s (l5 r r ax) (s (Br r) (s (l9 r (c.bk 0 r) r) ?_));obtain ⟨cE,ay,a⟩:=bs a;refine s (l5 r r ay) ?_;obtain ⟨cF,az,a⟩:=bs a;refine s (l5 r r az) (s (lI r) ?_);obtain ⟨cG,aA,a⟩:=bs a;refine s (l5 r r aA) ?_;obtain ⟨bN,aB,a⟩:=bs a;exact s (l5 r r aB) (s (mX r) (n (g (s (nH r r (by omega) (by omega)) (s (mi r) (n (H (C.length - (D+1)) _ _ (by omega) ⟨D+1,bN,r,by omega,⟨r,r,r,r,r,y⟩,c.ad [] [4],a⟩)))))))
   refine jK (bf a4) (q ?_);obtain ⟨bO,J,a⟩:=bs a;refine KA c (fun B f w=>∃ M,Has f [(1,T x1),(5,T A),(7,Pt S),(8,T N),(10,Z x C z),(11,V (C.length:Int)),(12,V (D:Int)),(27,V b.c),(53,.bool M)]/\B w/\Ld.go M=bO) (fun cH a0=>?_) ?_
   ·unfold x9 at J;refine q (g (s (kT r r) (s (kD r) (n ?_))));rcases iv J with ⟨a7,J⟩|⟨a7,J⟩
    ·exact jN (bt a7) (wk (a0 _ _ ⟨decide (b.c=2),⟨r,r,r,r,r,r,r,r,r,y⟩,c,sm J⟩))
    exact jK (bf a7) (g (s (kT r r) (s (kD r) (n (a0 _ _ ⟨decide (b.c=3),⟨r,r,r,r,r,r,r,r,r,y⟩,c,sm J⟩)))))
   clear c;rintro f w ⟨M,hf,c,aC⟩;obtain ⟨dN,rfl⟩:=mZ hf;subst aC;replace a:=gi a;rcases iv a with ⟨Q,a⟩|⟨Q,a⟩
   ·refine jN (cb Q) (g (s (lI r) (s (lI r) ?_)));obtain ⟨cI,aD,a⟩:=bs a;refine s (l5 r r aD) (s (lI r) ?_);obtain ⟨cJ,aE,a⟩:=bs a;refine s (l5 r r aE) (s (l7 [V b.c,V b.f,V b.n,T b.b,T b.k,V b.m,V b.g,Z h b.d j,T b.j,V b.i,Z m b.a o,Z p b.e t,Z u b.h v] lu jQ r (c.bk 0 r)) ?_);obtain ⟨bP,bQ,a⟩:=bs a;refine sc (ec LC r) (wB fu (c.pr [] [0] [3,2,1,0] r) bQ) ?_;rintro _ cK ⟨rfl,F⟩;replace c:=c.cn [] [0] F;obtain ⟨cL,aG,a⟩:=bs a;refine s (l5 r r aG) ?_;obtain ⟨bR,aH,a⟩:=bs a;exact s (l5 r r aH) (s (mX r) (n (g (s (nH r r (by omega) (by omega)) (s (mi r) (n (H (C.length - (D+1)) _ _ (by omega) ⟨D+1,bR,r,by omega,⟨r,r,r,r,r,y⟩,c.ad [] [4],a⟩)))))))
   refine jK (wS Q) (q (g (s (kT r r) (s (kD r) (n ?_)))));rcases iv a with ⟨a8,a⟩|⟨a8,a⟩
   ·refine jN (bt a8) (g (s (lI r) (s (lI r) ?_)));obtain ⟨cM,aI,a⟩:=bs a;refine s (l5 r r aI) ?_;obtain ⟨cN,aJ,a⟩:=bs a;refine s (l5 r r aJ) (s (l7 [V b.c,V b.f,V b.n,T b.b,T b.k,V b.m,V b.g,Z h b.d j,T b.j,V b.i,Z m b.a o,Z p b.e t,Z u b.h v] lu jQ r (c.bk 0 r)) ?_);obtain ⟨bS,bT,a⟩:=bs a;refine sc (ec LC r) (wB fu (c.pr [] [0] [3,2,1,0] r) bT) ?_;rintro _ cO ⟨rfl,F⟩;replace c:=c.cn [] [0] F;obtain ⟨cP,aK,a⟩:=bs a;refine s (l5 r r aK) ?_;obtain ⟨bU,aL,a⟩:=bs a;exact s (l5 r r aL) (s (mX r) (n (g (s (nH r r (by omega) (by omega)) (s (mi r) (n (H (C.length - (D+1)) _ _ (by omega) ⟨D+1,bU,r,by omega,⟨r,r,r,r,r,y⟩,c.ad [] [4],a⟩)))))))
   refine jK (bf a8) (q (g (s (kT r r) (s (kD r) (n ?_)))));rcases iv a with ⟨a9,a⟩|⟨a9,a⟩
   ·refine jN (bt a9) (g (s (lI r) (s (lI r) ?_)));obtain ⟨cQ,aM,a⟩:=bs a;refine s (l5 r r aM) ?_;obtain ⟨cR,aN,a⟩:=bs a;refine s (l5 r r aN) (s (l7 [V b.c,V b.f,V b.n,T b.b,T b.k,V b.m,V b.g,Z h b.d j,T b.j,V b.i,Z m b.a o,Z p b.e t,Z u b.h v] lu jQ r (c.bk 0 r)) ?_);obtain ⟨bV,bW,a⟩:=bs a;refine sc (ec LC r) (wB fu (c.pr [] [0] [3,2,1,0] r) bW) ?_;rintro _ cS ⟨rfl,F⟩;replace c:=c.cn [] [0] F;obtain ⟨cT,aO,a⟩:=bs a;refine s (l5 r r aO) ?_;obtain ⟨bX,aP,a⟩:=bs a;exact s (l5 r r aP) (s (mX r) (n (g (s (nH r r (by omega) (by omega)) (s (mi r) (n (H (C.length - (D+1)) _ _ (by omega) ⟨D+1,bX,r,by omega,⟨r,r,r,r,r,y⟩,c.ad [] [4],a⟩)))))))
   refine jK (bf a9) (q (g (s (kT r r) (s (kD r) (n ?_)))));rcases iv a with ⟨aa,a⟩|⟨aa,a⟩
   ·refine jN (bt aa) (g (s (lI r) (s (lI r) ?_)));obtain ⟨cU,aQ,a⟩:=bs a;refine s (l5 r r aQ) ?_;obtain ⟨cV,aR,a⟩:=bs a;refine s (l5 r r aR) (s (l7 [V b.c,V b.f,V b.n,T b.b,T b.k,V b.m,V b.g,Z h b.d j,T b.j,V b.i,Z m b.a o,Z p b.e t,Z u b.h v] lu jQ r (c.bk 0 r)) ?_);obtain ⟨bY,bZ,a⟩:=bs a;refine sc (ec LC r) (wB fu (c.pr [] [0] [3,2,1,0] r) bZ) ?_;rintro _ cW ⟨rfl,F⟩;replace c:=c.cn [] [0] F;obtain ⟨cX,aS,a⟩:=bs a;refine s (l5 r r aS) ?_;obtain ⟨c0,aT,a⟩:=bs a;exact s (l5 r r aT) (s (mX r) (n (g (s (nH r r (by omega) (by omega)) (s (mi r) (n (H (C.length - (D+1)) _ _ (by omega) ⟨D+1,c0,r,by omega,⟨r,r,r,r,r,y⟩,c.ad [] [4],a⟩)))))))
   refine jK (bf aa) (q (g (s (kT r r) (s (kD r) (n ?_)))));rcases iv a with ⟨ab,a⟩|⟨ab,a⟩
   ·refine jN (bt ab) (q (qA c [0] [] [] (by kernel_rfl) ?_));replace c:=c.drew;have e:=c.dp [];refine pF 0 r (lI r) e (pF 1 r (lI r) e ?_);obtain ⟨cY,aU,a⟩:=bs a;refine pF 2 r (l5 r r aU) e ?_;obtain ⟨cZ,aV,a⟩:=bs a;refine pF 3 r (l5 r r aV) e (uF 4 r (fun hS=>l7 [V b.c,V b.f,V b.n,T b.b,T b.k,V b.m,V b.g,Z h b.d j,T b.j,V b.i,Z m b.a o,Z p b.e t,Z u b.h v] lu jQ r (hS.bk 0 r)) e (pF 8 r (yQ r) e (uF 9 r (fun hS=>SN r (hS.bk 0 r) r) e (pF 10 r (lI r) e ?_))));obtain ⟨d0,aW,a⟩:=bs a;refine pF 11 r (l5 r r aW) e ?_;obtain ⟨c1,c2,a⟩:=bs a;refine hO 5 (oc r r (ec LC r) (wB fu (c.pr [] [0] [3,2,1,0] r) c2) ?_);rintro _ d1 ⟨rfl,F⟩;replace c:=c.cn [] [0] F;have e:=c.dp [];refine ⟨sF e,?_⟩;obtain ⟨d2,aX,a⟩:=bs a;refine pF 6 r (l5 r r aX) e ?_;obtain ⟨d3,aY,a⟩:=bs a;refine pF 7 r (l5 r r aY) e ?_;obtain ⟨c3,c4,a⟩:=bs a;refine hO 12 (oc r r (ec KM r) (H_p03_block (c.pr [] [0] [1] r) c4) ?_);rintro _ d4 ⟨rfl,F⟩;replace c:=c.cn [] [0] F;have e:=c.dp [];refine ⟨sF e,?_⟩;obtain ⟨d5,aZ,a⟩:=bs a;refine pF 13 r (l5 r r aZ) e (pF 14 r (mX r) e (hD (q (q (g (s (zk r) (s (SN r (c.bk 0 r) r) (s (lT Cm r) (s (wO r r) (n ?_))))))))));rcases iv a with ⟨ac,a⟩|⟨ac,a⟩
    ·refine jN (bt ac) (g (s (lI r) (s (lI r) ?_)));obtain ⟨d6,b0,a⟩:=bs a;refine s (l5 r r b0) ?_;obtain ⟨d7,b1,a⟩:=bs a;refine s (l5 r r b1) (s (zk r) (s (SN r (c.bk 0 r) r) (s (lI r) ?_)));obtain ⟨d8,b2,a⟩:=bs a;refine s (l5 r r b2) ?_;obtain ⟨c5,c6,a⟩:=bs a;refine sc (ec KM r) (H_p03_block (c.pr [] [0] [0] r) c6) ?_;rintro _ Pj ⟨rfl,F⟩;replace c:=c.cn [] [0] F;obtain ⟨d9,b4,a⟩:=bs a;refine s (l5 r r b4) (s (mX r) (n (g (s (lI r) (s (lI r) ?_)))));obtain ⟨da,b5,a⟩:=bs a;refine s (l5 r r b5) ?_;obtain ⟨c7,b6,a⟩:=bs a;exact s (l5 r r b6) (s (mX r) (n (g (s (nH r r (by omega) (by omega)) (s (mi r) (n (H (C.length - (D+1)) _ _ (by omega) ⟨D+1,c7,r,by omega,⟨r,r,r,r,r,y⟩,c.ad [] [4],a⟩)))))))
    refine jK (bf ac) (wk (g (s (lI r) (s (lI r) ?_))));obtain ⟨db,b7,a⟩:=bs a;refine s (l5 r r b7) ?_;obtain ⟨c8,b8,a⟩:=bs a;exact s (l5 r r b8) (s (mX r) (n (g (s (nH r r (by omega) (by omega)) (s (mi r) (n (H (C.length - (D+1)) _ _ (by omega) ⟨D+1,c8,r,by omega,⟨r,r,r,r,r,y⟩,c.ad [] [4],a⟩)))))))
   refine jK (bf ab) (q (g (s (kT r r) (s (kD r) (n ?_)))));rcases iv a with ⟨ae,a⟩|⟨ae,a⟩
   ·refine jN (bt ae) (qA c [0] [] [] (by kernel_rfl) ?_);replace c:=c.drew;have e:=c.dp [];refine pF 0 r (lI r) e (pF 1 r (lI r) e ?_);obtain ⟨dd,b9,a⟩:=bs a;refine pF 2 r (l5 r r b9) e ?_;obtain ⟨de,ba,a⟩:=bs a;refine pF 3 r (l5 r r ba) e (uF 4 r (fun hS=>l7 [V b.c,V b.f,V b.n,T b.b,T b.k,V b.m,V b.g,Z h b.d j,T b.j,V b.i,Z m b.a o,Z p b.e t,Z u b.h v] lu jQ r (hS.bk 0 r)) e (pF 8 r (yQ r) e (uF 9 r (fun hS=>SN r (hS.bk 0 r) r) e (pF 10 r (lI r) e ?_))));obtain ⟨df,bb,a⟩:=bs a;refine pF 11 r (l5 r r bb) e (pF 14 r (lI r) e ?_);obtain ⟨c9,cc,a⟩:=bs a;refine hO 5 (oc r r (ec LC r) (wB fu (c.pr [] [0] [3,2,1,0] r) cc) ?_);rintro _ dg ⟨rfl,F⟩;replace c:=c.cn [] [0] F;have e:=c.dp [];refine ⟨sF e,?_⟩;obtain ⟨dh,bc,a⟩:=bs a;refine pF 6 r (l5 r r bc) e ?_;obtain ⟨di,bg,a⟩:=bs a;refine pF 7 r (l5 r r bg) e ?_;obtain ⟨cd,ce,a⟩:=bs a;refine hO 12 (oc r r (ec KM r) (H_p03_block (c.pr [] [0] [1] r) ce) ?_);rintro _ dj ⟨rfl,F⟩;replace c:=c.cn [] [0] F;have e:=c.dp [];refine ⟨sF e,?_⟩;obtain ⟨dk,bh,a⟩:=bs a;refine pF 13 r (l5 r r bh) e ?_;obtain ⟨dm,bi,a⟩:=bs a;refine pF 15 r (l5 r r bi) e ?_;obtain ⟨cg,bj,a⟩:=bs a;exact pF 16 r (l5 r r bj) e (pF 17 r (mX r) e (hD (g (s (nH r r (by omega) (by omega)) (s (mi r) (n (H (C.length - (D+1)) _ _ (by omega) ⟨D+1,cg,r,by omega,⟨r,r,r,r,r,y⟩,c.ad [] [4],a⟩)))))))
   refine jK (bf ae) (q (g (s (kT r r) (s (kD r) (n ?_)))));rcases iv a with ⟨af,a⟩|⟨af,a⟩
   ·refine jN (bt af) (qA c [0] [] [] (by kernel_rfl) ?_);replace c:=c.drew;have e:=c.dp [];refine pF 0 r (lI r) e (pF 1 r (lI r) e ?_);obtain ⟨dn,bl,a⟩:=bs a;refine pF 2 r (l5 r r bl) e ?_;obtain ⟨dq,bm,a⟩:=bs a;refine pF 3 r (l5 r r bm) e (pF 4 r (yQ r) e (uF 5 r (fun hS=>SN r (hS.bk 0 r) r) e (pF 6 r (lI r) e ?_)));obtain ⟨dr,bn,a⟩:=bs a;refine pF 7 r (l5 r r bn) e (pF 10 r (lI r) e (pF 13 r (Br r) e (uF 14 r (fun hS=>l9 r (hS.bk 0 r) r) e (pF 17 r (zk r) e (uF 18 r (fun hS=>SN r (hS.bk 0 r) r) e (pF 19 r (lI r) e ?_))))));obtain ⟨dt,bo,a⟩:=bs a;refine pF 20 r (l5 r r bo) e (pF 23 r (lI r) e ?_);obtain ⟨ch,ci,a⟩:=bs a;refine hO 8 (oc r r (ec KM r) (H_p03_block (c.pr [] [0] [1] r) ci) ?_);rintro _ du ⟨rfl,F⟩;replace c:=c.cn [] [0] F;have e:=c.dp [];refine ⟨sF e,?_⟩;obtain ⟨dv,bp,a⟩:=bs a;refine pF 9 r (l5 r r bp) e ?_;obtain ⟨dw,bq,a⟩:=bs a;refine pF 11 r (l5 r r bq) e ?_;obtain ⟨dx,br,a⟩:=bs a;refine pF 12 r (l5 r r br) e ?_;obtain ⟨dy,bu,a⟩:=bs a;refine pF 15 r (l5 r r bu) e ?_;obtain ⟨dz,bv,a⟩:=bs a;refine pF 16 r (l5 r r bv) e ?_;obtain ⟨cj,ck,a⟩:=bs a;refine hO 21 (oc r r (ec KM r) (H_p03_block (c.pr [] [0] [0] r) ck) ?_);rintro _ dA ⟨rfl,F⟩;replace c:=c.cn [] [0] F;have e:=c.dp [];refine ⟨sF e,?_⟩;obtain ⟨dB,bw,a⟩:=bs a;refine pF 22 r (l5 r r bw) e ?_;obtain ⟨dC,bz,a⟩:=bs a;refine pF 24 r (l5 r r bz) e ?_;obtain ⟨cm,bA,a⟩:=bs a;exact pF 25 r (l5 r r bA) e (pF 26 r (mX r) e (hD (g (s (nH r r (by omega) (by omega)) (s (mi r) (n (H (C.length - (D+1)) _ _ (by omega) ⟨D+1,cm,r,by omega,⟨r,r,r,r,r,y⟩,c.ad [] [4],a⟩)))))))
   exact jK (bf af) (wk (g (s (nH r r (by omega) (by omega)) (s (mi r) (n (H (C.length - (D+1)) _ _ (by omega) ⟨D+1,A,r,by omega,⟨r,r,r,r,r,y⟩,c.ad [] [4],a⟩))))))
  obtain rfl:D=C.length:=by omega
  rw [lW,lS] at a;exact q (g (s (vH r r (by omega)) (n (q (jK r (uS (bB _ _ ⟨A,⟨r,y⟩,c,sm a⟩)))))))
 clear c;rintro f w ⟨A,hf,c,cn⟩;obtain ⟨dN,rfl⟩:=mZ hf;subst cn;replace hM:=gi hM;refine q (g (s (lI r) (s (mX r) (n (kH ?_)))));obtain rfl:=sm hM;exact jC r (kL r) ⟨r,c.dp []⟩
theorem Ka (fu:Nat):Bb (o8 fu):=by
 induction fu with
 | zero=>exact by intro a b;intros;(try intro _);intros;exact nn (by assumption)
 | succ fu ih=>exact LP fu (o8 fu) ih
theorem Mx (fu:Nat):Bb (o8 fu):=(Ka fu)
def Nc (m:jS->Option BA):Prop:=∀ {f i}{e:jS}{a b c d h},Pre f i [] [.l a b e.a,.l c d e.b]->m e=some h-> Calls prog 26 #[.agg #[Z a e.a b,Z c e.b d]] f (pU fun v w=>v=T h/\Bx f w i (lH []) [] [])
def pJ (fu:Nat):List Gr→Nat→BA→Option (Ld (BA) (BA))
 | [],_,a=>some (.go a)
 | e :: f,h,a=>
 (cat a (⟨#[114,101,99,111,114,100,32]⟩:BA)).bind fun i=>
 (cat i e.b).bind fun j=>
 (cat j (⟨#[32,123,32]⟩:BA)).bind fun k=>
 (xV fu e.a).bind fun b=>
 (cat k b).bind fun c=>
 (cat c (⟨#[32,125,10]⟩:BA)).bind fun d=>
 pJ fu f (h+1) d
def og (fu:Nat):List Gn→Nat→BA→Option (Ld (BA) (BA))
 | [],_,a=>some (.go a)
 | b :: e,f,a=>
 (cat a (⟨#[102,117,110,99,32]⟩:BA)).bind fun h=>
 (cat h b.b).bind fun i=>
 (cat i (⟨#[40]⟩:BA)).bind fun j=>
 (xV fu b.a).bind fun c=>
 (cat j c).bind fun k=>
 (cat k (⟨#[41,32,123,10]⟩:BA)).bind fun l=>
 (o8 fu b.e (⟨#[9]⟩:BA)).bind fun d=>
 (cat l d).bind fun m=>
 (cat m (⟨#[125,10]⟩:BA)).bind fun o=>
 og fu e (f+1) o
def vN (fu:Nat)(c:jS):Option BA:=(pJ fu c.a 0 (⟨#[]⟩:BA)).bind fun d=>d.el (fun b=>(og fu c.b 0 b).bind fun d=>d.el (fun a=>some a) (fun o=>some o)) (fun o=>some o)
theorem Ma (fu:Nat):Nc (vN fu):=by
 intro w0 b3 o u v e h r0 hP H;unfold vN at H;have b:=hP.bx;clear hP;generalize hG:lH _=G at b ⊢;refine cf func26 r (lG [(0,.agg #[Z u o.a v,Z e o.b h])] ⟨r,y⟩ fun b5=>q (g (su b (uK r) fun w1 b1 b=>s (mX r) (n (q (g (s (mX r) (n (q (q (g (s (FU r) (s (Yg r (b.bk 0 r) r) (s (lT JM r) (s (mi r) (n ?_))))))))))))))));have ay:=(b.dl 0 r).bd;obtain ⟨Y2,c,H⟩:=bs H;refine qR (fun f w=>∃ p,Has f [(1,Pt b1),(3,T p)]/\Bx w0 w b3 G [.box b1 26 #[Z u o.a v,Z e o.b h]] [.l u v o.a,.l e h o.b]/\Ld.go p=Y2) (fun J2 ac=>?_) ?_
 ·refine pG (kK (fun b6 f w=>∃ I p,b6=o.a.length - I/\I<=o.a.length/\Has f [(11,V (I:Int)),(1,Pt b1),(3,T p),(9,Z u o.a v),(10,V (o.a.length:Int))]/\Bx w0 w b3 G [.box b1 26 #[Z u o.a v,Z e o.b h]] [.l u v o.a,.l e h o.b]/\pJ fu (o.a.drop I) I p=some Y2) o.a.length ⟨0,(⟨#[]⟩:BA),r,uy _,⟨r,r,r,r,r,y⟩,b,c⟩ ?_);clear b c;rintro b6 f w ⟨I,p,rfl,az,hf,b,c⟩ K2 ae;obtain ⟨b5,rfl⟩:=mZ hf;rcases yZ I o.a.length with Q | Q
  ·obtain ⟨K,L⟩:=lZ (l:=o.a) Q;rw [mD L,pJ] at c;obtain ⟨aA,af,b⟩:=b.nm 0 rfl L;obtain ⟨D,E,rfl,R⟩:=kI.out af;replace b:=b.kF (d:=.l D E K.a) R;refine q (g (s (vI r r (by omega)) (n (q (jN r (wk (q (pG (q (g (s (kY JM yL r r r (b.dl 2 r) L) (s (nA [T K.b,Z D K.a E] Lg r yL r r (b.dc 1 r)) (su b (jT yL) fun w4 b4 b=>lD (oM b 0 [T K.b,Z D K.a E] r yL r r) fun w5 b=>n (qA b [0] [] [] (by kernel_rfl) ?_))))))))))))));replace b:=b.drew;have m:=b.ad [0] [];refine pF 0 r (lI r) m ?_;obtain ⟨g6,ag,c⟩:=bs c;refine pF 1 r (l5 r r ag) m (pF 2 r (Mj r) m (uF 3 r (fun hS=>l9 r (hS.bk 0 r) r) m ?_));obtain ⟨g7,ah,c⟩:=bs c;refine pF 4 r (l5 r r ah) m ?_;obtain ⟨g8,ai,c⟩:=bs c;refine pF 5 r (l5 r r ai) m (pF 6 r (Ee r) m (uF 7 r (fun hS=>Ca r (hS.bk 0 r) r) m ?_));obtain ⟨au,h9,c⟩:=bs c;refine hO 8 (oc r r (ec XK r) (Gf fu (b.pr [] [0,1] [0] r) h9) ?_);rintro _ w9 ⟨rfl,S⟩;replace b:=b.cn [] [0,1] S;have m:=b.ad [0] [];refine ⟨sF m,?_⟩;obtain ⟨aC,U,c⟩:=bs c;refine pF 9 r (l5 r r U) m ?_;obtain ⟨aj,W,c⟩:=bs c;exact pF 10 r (l5 r r W) m (pF 11 r (mX r) m (hD (g (s (nH r r (by omega) (by omega)) (s (mi r) (n (ae (o.a.length - (I+1)) _ _ (by omega) ⟨I+1,aj,r,by omega,⟨r,r,r,r,r,y⟩,b.ad [1] [2,3],c⟩)))))))
  obtain rfl:I=o.a.length:=by omega
  rw [lW,pJ] at c;exact q (g (s (vH r r (by omega)) (n (q (jK r (uS (ac _ _ ⟨p,⟨r,r,y⟩,b,sm c⟩)))))))
 clear b;rintro f w ⟨p,hf,b,ak⟩;obtain ⟨b5,rfl⟩:=mZ hf;subst ak;replace H:=gi H;refine q (q (g (s (Bt r) (s (Rb r (b.bk 0 r) r) (s (lT Dw r) (s (mi r) (n ?_)))))));have av:=(b.dl 1 r).bd;obtain ⟨X,a,H⟩:=bs H;refine qR (fun f w=>∃ j,Has f [(3,T j)]/\Bx w0 w b3 G [] [.l e h o.b]/\Ld.go j=X) (fun aD Y=>?_) ?_
 ·refine pG (kK (fun b6 f w=>∃ x j,b6=o.b.length - x/\x<=o.b.length/\Has f [(30,V (x:Int)),(3,T j),(28,Z e o.b h),(29,V (o.b.length:Int))]/\Bx w0 w b3 G [] [.l e h o.b]/\og fu (o.b.drop x) x j=some X) o.b.length ⟨0,p,r,uy _,⟨r,r,r,r,y⟩,b.ad [] [1],a⟩ ?_);clear b a;rintro b6 f w ⟨x,j,rfl,aw,hf,b,a⟩ aE a0;obtain ⟨b5,rfl⟩:=mZ hf;rcases yZ x o.b.length with J | J
  ·obtain ⟨t,F⟩:=lZ (l:=o.b) J;rw [mD F,og] at a;obtain ⟨ax,a1,b⟩:=b.nm 0 rfl F;obtain ⟨z,A,B,C,rfl,M,N⟩:=kW.out a1;replace b:=b.kF (d:=.l z A t.a) M;replace b:=b.kF (d:=.l B C t.e) N;refine q (g (s (vI r r (by omega)) (n (q (jN r (wk (q (pG (q (g (s (kY Dw oU r r r (b.dl 3 r) F) (s (nA [T t.b,V t.f,Z z t.a A,Z B t.e C] El r oU r r (b.dc 2 r)) (su b (jT oU) fun aF aG b=>lD (oM b 0 [T t.b,V t.f,Z z t.a A,Z B t.e C] r oU r r) fun aH b=>n (qA b [0] [] [] (by kernel_rfl) ?_))))))))))))));replace b:=b.drew;have m:=b.dp [];refine pF 0 r (lI r) m ?_;obtain ⟨aI,a2,a⟩:=bs a;refine pF 1 r (l5 r r a2) m (pF 2 r (Oq r) m (uF 3 r (fun hS=>l9 r (hS.bk 0 r) r) m ?_));obtain ⟨aJ,a3,a⟩:=bs a;refine pF 4 r (l5 r r a3) m ?_;obtain ⟨aK,a4,a⟩:=bs a;refine pF 5 r (l5 r r a4) m (pF 6 r (Hf r) m (uF 7 r (fun hS=>Ca r (hS.bk 0 r) r) m (pF 11 r (FP r) m (uF 12 r (fun hS=>SN r (hS.bk 0 r) r) m ?_))));obtain ⟨al,am,a⟩:=bs a;refine hO 8 (oc r r (ec XK r) (Gf fu (b.pr [] [0] [1] r) am) ?_);rintro _ aL ⟨rfl,S⟩;replace b:=b.cn [] [0] S;have m:=b.dp [];refine ⟨sF m,?_⟩;obtain ⟨aM,a5,a⟩:=bs a;refine pF 9 r (l5 r r a5) m ?_;obtain ⟨aN,a6,a⟩:=bs a;refine pF 10 r (l5 r r a6) m ?_;obtain ⟨an,ao,a⟩:=bs a;refine hO 13 (oc r r (ec KM r) (Mx fu (b.pr [] [0] [0] r) ao) ?_);rintro _ aO ⟨rfl,S⟩;replace b:=b.cn [] [0] S;have m:=b.dp [];refine ⟨sF m,?_⟩;obtain ⟨aP,a7,a⟩:=bs a;refine pF 14 r (l5 r r a7) m ?_;obtain ⟨ap,a8,a⟩:=bs a;exact pF 15 r (l5 r r a8) m (pF 16 r (mX r) m (hD (g (s (nH r r (by omega) (by omega)) (s (mi r) (n (a0 (o.b.length - (x+1)) _ _ (by omega) ⟨x+1,ap,r,by omega,⟨r,r,r,r,y⟩,b.ad [] [3],a⟩)))))))
  obtain rfl:x=o.b.length:=by omega
  rw [lW,og] at a;exact q (g (s (vH r r (by omega)) (n (q (jK r (uS (Y _ _ ⟨j,⟨r,y⟩,b,sm a⟩)))))))
 clear b;rintro f w ⟨j,hf,b,a9⟩;obtain ⟨b5,rfl⟩:=mZ hf;subst a9;replace H:=gi H;refine q (g (s (lI r) (s (mX r) (n (kH ?_)))));obtain rfl:=sm H;exact jC r (kL r) ⟨r,b.dp []⟩
end
end Go.Proofs.YtfglbdkfnphjgaaGreat
