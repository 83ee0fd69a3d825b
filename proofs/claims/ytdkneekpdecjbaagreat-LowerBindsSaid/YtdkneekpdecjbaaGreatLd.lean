/- Contracts, printed by gen3.py. -/
import Derived.Test.YtdkneekpdecjbaaGreatZ5
import Derived.Test.YtdkneekpdecjbaaGreatLa
set_option linter.unusedVariables false
set_option maxHeartbeats 12800000
set_option linter.unusedSimpArgs false
set_option maxRecDepth 4000
namespace Go.Proofs.YtdkneekpdecjbaaGreat
open Go.RowKit Go.Fw Go.Proofs.Tryz
noncomputable section
abbrev zA:=jB->Int->Option (ByteArray)
def CS (m:Ge->Int->Option BA):Prop:=∀ {d h}{c:Ge}{e a b f},Pre d h [] [.l a b c.a]->m c e=some f-> Calls prog 90 #[.agg #[V c.e,V c.d,V c.f,T c.c,T c.b,Z a c.a b],V e] d (tV fun v w=>v=T f/\Bx d w h (mW []) [] [])
def zO (fu:Nat)(r_r03_Expr:zA)(a:Ge):Option (Ld Bool BA):=if a.e=3 then some (.go (decide (0 < (a.a.length:Int)))) else some (.go false)
def Ar (fu:Nat)(r_r03_Expr:zA)(b:Ge)(a:Int):Option (Ld Bool BA):=if a=5 then some (.go (decide (0 < (b.a.length:Int)))) else some (.go false)
def zN (fu:Nat)(r_r03_Expr:zA)(a:Int):Option (Ld Int BA):=if a=1 then some (.go 2) else some (.go a)
def zX (fu:Nat)(r_r03_Expr:zA)(a:Ge)(b:Int):Option (Ld BA BA):=if a.e=0 then (sQ fu a.d).bind fun j=>some (.go j) else if a.e=2 then (cat a.c (⟨#[46]⟩:BA)).bind fun F=>(cat F a.b).bind fun G=>some (.go G) else (zO fu r_r03_Expr a).bind fun H=>H.el (fun k=>if k=true then (ix a.a 0).bind fun l=>(cat a.c (⟨#[91]⟩:BA)).bind fun m=>(r_r03_Expr l 1).bind fun c=>(cat m c).bind fun p=>(cat p (⟨#[93]⟩:BA)).bind fun t=>some (.go t) else (Ar fu r_r03_Expr a b).bind fun H=>H.el (fun d=>if d=true then (ix a.a 0).bind fun u=>(ix ([(⟨#[45]⟩:BA),(⟨#[33]⟩:BA)]:List BA) (wr (a.e - 4))).bind fun v=>(r_r03_Expr u 5).bind fun e=>(cat v e).bind fun w=>some (.go w) else if b < 5 then if 1 < (a.a.length:Int) then (zN fu r_r03_Expr b).bind fun H=>H.el (fun f=>(ix a.a 0).bind fun x=>(ix a.a 1).bind fun z=>(ix ([(⟨#[43]⟩:BA),(⟨#[45]⟩:BA),(⟨#[42]⟩:BA),(⟨#[47]⟩:BA),(⟨#[37]⟩:BA),(⟨#[38]⟩:BA),(⟨#[124]⟩:BA),(⟨#[94]⟩:BA),(⟨#[60]⟩:BA),(⟨#[60,61]⟩:BA),(⟨#[61,61]⟩:BA),(⟨#[33,61]⟩:BA)]:List BA) (wr (a.e - 6))).bind fun A=>(r_r03_Expr x f).bind fun h=>(cat h (⟨#[32]⟩:BA)).bind fun B=>(cat B A).bind fun C=>(cat C (⟨#[32]⟩:BA)).bind fun D=>(r_r03_Expr z (wr (b+1))).bind fun i=>(cat D i).bind fun E=>some (.go E)) (fun o=>some (.out o)) else some (.go a.c) else some (.go a.c)) (fun o=>some (.out o))) (fun o=>some (.out o))
def Cn (fu:Nat)(r_r03_Expr:zA)(e:Ge)(f:Int):Option BA:=(BX fu e.e).bind fun a=>(zX fu r_r03_Expr e a).bind fun h=>h.el (fun b=>if a < f then (cat (⟨#[40]⟩:BA) b).bind fun c=>(cat c (⟨#[41]⟩:BA)).bind fun d=>some d else some b) (fun o=>some o)
def G9:Nat→(Ge→Int→Option (BA))
 | 0=>(fun _ _=>none)
 | fu+1=>Cn fu (G9 fu)
def qx (fu:Nat):=(G9 fu)
theorem Ro (fu:Nat)(r_r03_Expr:zA)(H_r03_Expr:CS r_r03_Expr):CS (Cn fu r_r03_Expr):=by
 intro w0 bU e x1 j m r0 hP v;unfold Cn at v;have b:=hP.bx;clear hP;generalize hG:mW _=G at b ⊢;refine cf func90 r (lK [(0,.agg #[V e.e,V e.d,V e.f,T e.c,T e.b,Z j e.a m]),(1,V x1)] ⟨r,r,y⟩ fun bV=>q (g (sW b (uZ r) fun w1 b1 b=>s (ny r) (n (q (g (s (Di r) (s (l3 r (b.bk 0 r) r) ?_))))))));obtain ⟨p,h2,v⟩:=bs v;refine sc (ec acE r) (Pw fu (b.pr [] [0] [] r) h2) ?_;rintro _ w2 ⟨rfl,x⟩;replace b:=b.cn [] [0] x;refine s (xi r) (n (q (g (s (OM r) (s (l9 r (b.bk 0 r) r) (s (ny r) (n (q ?_))))))));obtain ⟨Y3,a,v⟩:=bs v;refine qK (fun f w=>∃ N,Has f [(1,V x1),(5,V p),(6,T N)]/\Bx w0 w bU G [] []/\Ld.go N=Y3) (fun J3 z=>?_) ?_
 ·unfold zX at a;refine pW (q (g (s (Di r) (s (l3 r (b.bk 0 r) r) (s (kM r r) (s (kH r) (n ?_)))))));rcases iv a with ⟨h4,a⟩|⟨h4,a⟩
  ·refine jM (bt h4) (g (s (Oe r) (s (l3 r (b.bk 0 r) r) ?_)));obtain ⟨ao,h5,a⟩:=bs a;refine sc (ec Nc r) (Dn fu (b.pr [] [0] [] r) h5) ?_;rintro _ w5 ⟨rfl,x⟩;replace b:=b.cn [] [0] x;exact s (ny r) (n (z _ _ ⟨ao,⟨r,r,r,y⟩,b.ad [] [],sm a⟩))
  refine jD (bf h4) (q (g (s (Di r) (s (l3 r (b.bk 0 r) r) (s (kM r r) (s (kH r) (n ?_)))))));rcases iv a with ⟨h6,a⟩|⟨h6,a⟩
  ·refine jM (bt h6) (g (s (OM r) (s (l9 r (b.bk 0 r) r) ?_)));obtain ⟨g7,aR,a⟩:=bs a;refine s (mD r r aR) (s (XG r) (s (l9 r (b.bk 0 r) r) ?_));obtain ⟨g8,aS,a⟩:=bs a;exact s (mD r r aS) (s (ny r) (n (z _ _ ⟨g8,⟨r,r,r,y⟩,b.ad [] [],sm a⟩)))
  refine jD (bf h6) (q ?_);obtain ⟨Y9,M,a⟩:=bs a;refine Jv b (fun B f w=>∃ Q,Has f [(1,V x1),(2,Pt b1),(5,V p),(6,T e.c),(31,.bool Q)]/\B w/\Ld.go Q=Y9) (fun J9 ap=>?_) ?_
  ·unfold zO at M;refine g (s (Di r) (s (l3 r (b.bk 0 r) r) (s (kM r r) (s (lJ r) ?_))));rcases iv M with ⟨a8,M⟩|⟨a8,M⟩
   ·rw [vF a8];exact kI r (s (DX r) (kI r (s (Et r (b.bk 0 r) r) (kI r (s (mV vC r) (kI r (s (wV r r) (s (kT r r) (s (kH r) (n (ap _ _ ⟨decide (0 < (e.a.length:Int)),⟨r,r,r,r,r,y⟩,b,sm M⟩)))))))))))
   rw [wm a8];exact jZ r (jZ r (jZ r (jZ r (s (kK r r) (s (kH r) (n (ap _ _ ⟨false,⟨r,r,r,r,r,y⟩,b,sm M⟩)))))))
  clear b;rintro f w ⟨Q,hf,b,aT⟩;obtain ⟨bV,rfl⟩:=nP hf;subst aT;replace a:=gi a;rcases iv a with ⟨R,a⟩|⟨R,a⟩
  ·refine jM (cb R) ?_;obtain ⟨A,H,a⟩:=bs a;obtain ⟨bl,aq,H⟩:=kW H;obtain ⟨b9,ar,b⟩:=b.nm 0 rfl H;obtain ⟨S,U,rfl,a9⟩:=jB.out ar;replace b:=b.jX (d:=.l S U A.a) a9;refine qJ b [0] [0,1,2] [] (by kernel_rfl) ?_;replace b:=b.drew;have c:=b;refine pF 0 r (OM r) c (uF 1 r (fun hS=>l9 r (hS.bk 0 r) r) c ?_);obtain ⟨bm,au,a⟩:=bs a;refine pF 2 r (mD r r au) c (pF 3 r (DX r) c (uF 4 r (fun hS=>Et r (hS.bk 0 r) r) c (pF 5 r (kZ vC jU r r aq (b.dl 2 r) H) c (uF 6 r (fun hS=>nT [V A.e,V A.d,V A.f,T A.c,T A.b,Z S A.a U] nR r jU r r (hS.dc 1 r)) c ?_))));obtain ⟨aU,aV,a⟩:=bs a;refine hO 7 (oc r r (ec Jy r) (H_r03_Expr (b.pr [] [0] [0] r) aV) ?_);rintro _ bn ⟨rfl,x⟩;replace b:=b.cn [] [0] x;have c:=b;refine ⟨sF c,?_⟩;obtain ⟨bo,av,a⟩:=bs a;refine pF 8 r (mD r r av) c ?_;obtain ⟨aW,aw,a⟩:=bs a;exact pF 9 r (mD r r aw) c (pF 10 r (ny r) c (hD (z _ _ ⟨aW,⟨r,r,r,y⟩,b.ad [] [],sm a⟩)))
  refine jD (yu R) (q ?_);obtain ⟨aX,t,a⟩:=bs a;refine Jv b (fun Q f w=>∃ B,Has f [(1,V x1),(2,Pt b1),(5,V p),(6,T e.c),(51,.bool B)]/\Q w/\Ld.go B=aX) (fun bp a5=>?_) ?_
  ·unfold Ar at t;refine g (s (mi r) (s (kM r r) (s (lJ r) ?_)));rcases iv t with ⟨aa,t⟩|⟨aa,t⟩
   ·rw [vF aa];exact kI r (s (DX r) (kI r (s (Et r (b.bk 0 r) r) (kI r (s (mV vC r) (kI r (s (wV r r) (s (kT r r) (s (kH r) (n (a5 _ _ ⟨decide (0 < (e.a.length:Int)),⟨r,r,r,r,r,y⟩,b,sm t⟩)))))))))))
   rw [wm aa];exact jZ r (jZ r (jZ r (jZ r (s (kK r r) (s (kH r) (n (a5 _ _ ⟨false,⟨r,r,r,r,r,y⟩,b,sm t⟩)))))))
  clear b;rintro f w ⟨B,hf,b,ax⟩;obtain ⟨bV,rfl⟩:=nP hf;subst ax;replace a:=gi a;rcases iv a with ⟨W,a⟩|⟨W,a⟩
  ·refine jM (cb W) ?_;obtain ⟨C,I,a⟩:=bs a;obtain ⟨bq,ay,I⟩:=kW I;obtain ⟨ba,az,b⟩:=b.nm 0 rfl I;obtain ⟨X,Y,rfl,ab⟩:=jB.out az;replace b:=b.jX (d:=.l X Y C.a) ab;obtain ⟨ac,o,a⟩:=bs a;obtain ⟨br,a6,o⟩:=kW o;obtain ⟨aY,ae,a⟩:=bs a;obtain ⟨aA,a0,a⟩:=bs a;refine qK (fun f w=>Has f [(1,V x1),(5,V p),(6,T aA)]/\Bx w0 w bU G [] []) (fun Jd hJd=>?_) ?_
   ·refine qJ b [0] [0,1,2] [] (by kernel_rfl) ?_;replace b:=b.drew;have c:=b;refine pF 1 r (Di r) c (uF 2 r (fun hS=>l3 r (hS.bk 0 r) r) c (pF 3 r (zy r r) c (pF 6 r (DX r) c (uF 7 r (fun hS=>Et r (hS.bk 0 r) r) c (pF 8 r (kZ vC jU r r ay (b.dl 2 r) I) c (uF 9 r (fun hS=>nT [V C.e,V C.d,V C.f,T C.c,T C.b,Z X C.a Y] nR r jU r r (hS.dc 1 r)) c (mZ 0 [10] (by kernel_rfl) (jJ ?_ (jJ ?_ l5)))))))))
    ·refine oo r r (jL b [[T (⟨#[45]⟩:BA)],[T (⟨#[33]⟩:BA)]] ([(⟨#[45]⟩:BA),(⟨#[33]⟩:BA)]:List BA) (xB r r) r r (by decide) ⟨r,⟨r,y⟩⟩) ?_;rintro _ bu ⟨bv,rfl,b⟩;have c:=b.ad [1] [1,2,3];refine ⟨sF c,pF 4 r (kZ kX ql r r a6 (b.vw 0 0 r r) o) c (mZ 5 [10] (by kernel_rfl) (jJ ?_ (jJ ?_ l5)))⟩
     ·have c:=b.ad [1] [1,2,3];refine vP r r (kC vN r r ((vD (ds:=[T ac]) (b.vw 0 0 r r) o (fun _ h=>h)) 0 _ r)) (sF c) ?_;refine hO 10 (oc r r (ec Jy r) (H_r03_Expr (b.pr [] [0,1] [1] r) ae) ?_);rintro _ aB ⟨rfl,x⟩;replace b:=b.cn [] [0,1] x;have c:=b.ad [1] [1,2,3];exact ⟨sF c,pF 11 r (mD r r a0) c (pF 12 r (ny r) c (hD (hJd _ _ ⟨⟨r,r,r,y⟩,b.ad [] []⟩)))⟩
     refine oc r r (ec Jy r) (H_r03_Expr (b.pr [] [0,1] [1] r) ae) ?_;rintro _ aB ⟨rfl,x⟩;replace b:=b.cn [] [0,1] x;have c:=b.ad [1] [1,2,3];exact ⟨sF c,hO 5 (vP r r (kC vN r r ((vD (ds:=[T ac]) (b.vw 0 0 r r) o (fun _ h=>h)) 0 _ r)) (sF c) (pF 11 r (mD r r a0) c (pF 12 r (ny r) c (hD (hJd _ _ ⟨⟨r,r,r,y⟩,b.ad [] []⟩)))))⟩
    refine oc r r (ec Jy r) (H_r03_Expr (b.pr [] [0] [0] r) ae) ?_;rintro _ aB ⟨rfl,x⟩;replace b:=b.cn [] [0] x;have c:=b;refine ⟨sF c,hO 0 (oo r r (jL b [[T (⟨#[45]⟩:BA)],[T (⟨#[33]⟩:BA)]] ([(⟨#[45]⟩:BA),(⟨#[33]⟩:BA)]:List BA) (xB r r) r r (by decide) ⟨r,⟨r,y⟩⟩) ?_)⟩;rintro _ bw ⟨bz,rfl,b⟩;have c:=b.ad [1] [1,2,3];exact ⟨sF c,pF 4 r (kZ kX ql r r a6 (b.vw 0 0 r r) o) c (hO 5 (vP r r (kC vN r r ((vD (ds:=[T ac]) (b.vw 0 0 r r) o (fun _ h=>h)) 0 _ r)) (sF c) (pF 11 r (mD r r a0) c (pF 12 r (ny r) c (hD (hJd _ _ ⟨⟨r,r,r,y⟩,b.ad [] []⟩))))))⟩
   clear b;rintro f w ⟨hf,b⟩;obtain ⟨bV,rfl⟩:=nP hf;exact z _ _ ⟨aA,⟨r,r,r,y⟩,b,sm a⟩
  refine jD (yu W) (q (g (s (mi r) (s (qV r r) (s (lJ r) ?_)))));rcases iv a with ⟨af,a⟩|⟨af,a⟩
  ·rw [vF af];refine kI r (s (DX r) (kI r (s (Et r (b.bk 0 r) r) (kI r (s (mV vC r) (kI r (s (wV r r) (s (kT r r) (s (kH r) (n ?_))))))))));rcases iv a with ⟨ag,a⟩|⟨ag,a⟩
   ·refine jM (bt ag) (q (g (qd (jL b [[T (⟨#[43]⟩:BA)],[T (⟨#[45]⟩:BA)],[T (⟨#[42]⟩:BA)],[T (⟨#[47]⟩:BA)],[T (⟨#[37]⟩:BA)],[T (⟨#[38]⟩:BA)],[T (⟨#[124]⟩:BA)],[T (⟨#[94]⟩:BA)],[T (⟨#[60]⟩:BA)],[T (⟨#[60,61]⟩:BA)],[T (⟨#[61,61]⟩:BA)],[T (⟨#[33,61]⟩:BA)]] ([(⟨#[43]⟩:BA),(⟨#[45]⟩:BA),(⟨#[42]⟩:BA),(⟨#[47]⟩:BA),(⟨#[37]⟩:BA),(⟨#[38]⟩:BA),(⟨#[124]⟩:BA),(⟨#[94]⟩:BA),(⟨#[60]⟩:BA),(⟨#[60,61]⟩:BA),(⟨#[61,61]⟩:BA),(⟨#[33,61]⟩:BA)]:List BA) (IE r r r r r r r r r r r r) r r (by decide) ⟨r,⟨r,⟨r,⟨r,⟨r,⟨r,⟨r,⟨r,⟨r,⟨r,⟨r,⟨r,y⟩⟩⟩⟩⟩⟩⟩⟩⟩⟩⟩⟩) ?_)));rintro _ bA ⟨aC,rfl,b⟩;refine s (nA r) (n (q (g (s (mi r) (s (xi r) (n (q ?_)))))));obtain ⟨aZ,u,a⟩:=bs a;refine Jv b (fun B f w=>∃ D,Has f [(1,V x1),(2,Pt b1),(5,V p),(7,.slice (ad aC) ([(⟨#[43]⟩:BA),(⟨#[45]⟩:BA),(⟨#[42]⟩:BA),(⟨#[47]⟩:BA),(⟨#[37]⟩:BA),(⟨#[38]⟩:BA),(⟨#[124]⟩:BA),(⟨#[94]⟩:BA),(⟨#[60]⟩:BA),(⟨#[60,61]⟩:BA),(⟨#[61,61]⟩:BA),(⟨#[33,61]⟩:BA)]:List BA).length 12),(8,V D)]/\B w/\Ld.go D=aZ) (fun bB a7=>?_) ?_
    ·unfold zN at u;refine q (g (s (mi r) (s (kM r r) (n ?_))));rcases iv u with ⟨ah,u⟩|⟨ah,u⟩
     ·exact jM (bt ah) (g (s (xi r) (n (a7 _ _ ⟨2,⟨r,r,r,r,r,y⟩,b,sm u⟩))))
     exact jD (bf ah) (wk (a7 _ _ ⟨p,⟨r,r,r,r,r,y⟩,b,sm u⟩))
    clear b;rintro f w ⟨D,hf,b,aD⟩;obtain ⟨bV,rfl⟩:=nP hf;subst aD;replace a:=gi a;obtain ⟨E,J,a⟩:=bs a;obtain ⟨bC,aE,J⟩:=kW J;obtain ⟨bb,aF,b⟩:=b.nm 1 rfl J;obtain ⟨a1,a2,rfl,ai⟩:=jB.out aF;replace b:=b.jX (d:=.l a1 a2 E.a) ai;obtain ⟨F,K,a⟩:=bs a;obtain ⟨bD,aG,K⟩:=kW K;obtain ⟨bc,aH,b⟩:=b.nm 3 rfl K;obtain ⟨a3,a4,rfl,aj⟩:=jB.out aH;replace b:=b.jX (d:=.l a3 a4 F.a) aj;refine qJ b [0,1] [0,1,2,3,4,5] [] (by kernel_rfl) ?_;replace b:=b.drew;have c:=b;refine pF 0 r (DX r) c (uF 1 r (fun hS=>Et r (hS.bk 1 r) r) c (pF 2 r (kZ vC jU r r aE (b.dl 5 r) J) c (uF 3 r (fun hS=>nT [V E.e,V E.d,V E.f,T E.c,T E.b,Z a1 E.a a2] nR r jU r r (hS.dc 3 r)) c (pF 4 r (mi r) c (pF 7 r (oF r) c (pF 8 r (Di r) c (uF 9 r (fun hS=>l3 r (hS.bk 1 r) r) c (pF 10 r (zy r r) c ?_))))))));obtain ⟨b0,L,a⟩:=bs a;obtain ⟨bE,aI,L⟩:=kW L;refine pF 11 r (kZ kX ql r r aI (b.vw 0 4 r r) L) c (tU 12 r (fun _ hS=>kC vN r r ((vD (ds:=[T b0]) (hS.vw 0 4 r r) L (fun _ h=>h)) 0 _ r)) (sF c) (pF 15 r (DX r) c (uF 16 r (fun hS=>Et r (hS.bk 1 r) r) c (pF 17 r (kZ vC jU r r aG (b.dl 5 r) K) c (uF 18 r (fun hS=>nT [V F.e,V F.d,V F.f,T F.c,T F.b,Z a3 F.a a4] nR r jU r r (hS.dc 1 r)) c (pF 19 r (mi r) c (pF 20 r (kP r r) c ?_)))))));obtain ⟨b2,b3,a⟩:=bs a;refine hO 5 (oc r r (ec Jy r) (H_r03_Expr (b.pr [] [0,1] [2] r) b3) ?_);rintro _ bF ⟨rfl,x⟩;replace b:=b.cn [] [0,1] x;have c:=b;refine ⟨sF c,?_⟩;obtain ⟨bG,aJ,a⟩:=bs a;refine pF 6 r (mD r r aJ) c ?_;obtain ⟨bH,aK,a⟩:=bs a;refine pF 13 r (mD r r aK) c ?_;obtain ⟨bI,aL,a⟩:=bs a;refine pF 14 r (mD r r aL) c ?_;obtain ⟨b4,b5,a⟩:=bs a;refine hO 21 (oc r r (ec Jy r) (H_r03_Expr (b.pr [] [0,1] [0] r) b5) ?_);rintro _ bJ ⟨rfl,x⟩;replace b:=b.cn [] [0,1] x;have c:=b;refine ⟨sF c,?_⟩;obtain ⟨b6,aM,a⟩:=bs a
    exact pF 22 r (mD r r aM) c (pF 23 r (ny r) c (hD (z _ _ ⟨b6,⟨r,r,r,y⟩,b.ad [] [],sm a⟩)))
   exact jD (bf ag) (wk (z _ _ ⟨e.c,⟨r,r,r,y⟩,b.ad [] [],sm a⟩))
  rw [wm af];exact jZ r (jZ r (jZ r (jZ r (s (kK r r) (s (kH r) (n (jD r (wk (z _ _ ⟨e.c,⟨r,r,r,y⟩,b.ad [] [],sm a⟩)))))))))
 clear b;rintro f w ⟨N,hf,b,b7⟩;obtain ⟨bV,rfl⟩:=nP hf;subst b7;replace v:=gi v;refine q (q (g (s (mi r) (s (mi r) (s (qV r r) (n ?_))))));rcases iv v with ⟨ak,v⟩|⟨ak,v⟩
 ·refine jM (bt ak) (q (g (s (lN r) ?_)));obtain ⟨bK,aN,v⟩:=bs v;refine s (mD r r aN) ?_;obtain ⟨bL,aO,v⟩:=bs v;refine s (mD r r aO) (s (ny r) (n (lX ?_)));obtain rfl:=sm v;exact jN r (nH r) ⟨r,b⟩
 refine jD (bf ak) (wk (q (g (s (lN r) (s (ny r) (n (lX ?_)))))));obtain rfl:=sm v;exact jN r (nH r) ⟨r,b⟩
theorem OT (fu:Nat):CS (qx fu):=by
 induction fu with
 | zero=>exact by intro a b;intros;(try intro _);intros;exact nn (by assumption)
 | succ fu ih=>exact Ro fu (qx fu) ih
theorem Ju (fu:Nat):CS (qx fu):=(OT fu)
def Pz (m:(List Ge)->Option BA):Prop:=∀ {c f d a b e},Pre c f [] [.l a b d]->m d=some e-> Calls prog 137 #[Z a d b] c (tV fun v w=>v=T e/\Bx c w f (mW []) [] [])
def zU (fu:Nat)(a:BA)(b:Nat):Option (Ld BA BA):=if 0 < (b:Int) then (cat a (⟨#[44,32]⟩:BA)).bind fun c=>some (.go c) else some (.go a)
def tC (fu:Nat):List Ge→Nat→BA→Option (Ld (BA) (BA))
 | [],_,a=>some (.go a)
 | e :: f,d,a=>
 (zU fu a d).bind fun i=>i.el (fun b=>
 (qx fu e 1).bind fun c=>
 (cat b c).bind fun h=>
 tC fu f (d+1) h
 ) (fun o=>some (.out o))
def zL (fu:Nat)(b:(List Ge)):Option BA:=(tC fu b 0 (⟨#[]⟩:BA)).bind fun c=>c.el (fun a=>some a) (fun o=>some o)
theorem Jq (fu:Nat):Pz (zL fu):=by
 intro B aa o b i r0 L v;unfold zL at v;have e:=L.bx;clear L;generalize hG:mW _=G at e ⊢;refine cf func137 r (lK [(0,Z b o i)] ⟨r,y⟩ fun ab=>q (g (s (ny r) (n (q (g (s (ny r) (n (q (q (g (s (oF r) (s (mV vC r) (s (mi r) (n ?_)))))))))))))));have R:=(e.dl 0 r).bd;obtain ⟨M,c,v⟩:=bs v;refine qK (fun f w=>∃ h,Has f [(3,T h)]/\Bx B w aa G [] [.l b i o]/\Ld.go h=M) (fun J1 C=>?_) ?_
 ·refine pW (kG (fun ac f w=>∃ p h,ac=o.length - p/\p<=o.length/\Has f [(8,V (p:Int)),(3,T h),(6,Z b o i),(7,V (o.length:Int))]/\Bx B w aa G [] [.l b i o]/\tC fu (o.drop p) p h=some M) o.length ⟨0,(⟨#[]⟩:BA),r,uN _,⟨r,r,r,r,y⟩,e,c⟩ ?_);clear e c;rintro ac f w ⟨p,h,rfl,S,hf,e,c⟩ K1 D;obtain ⟨ab,rfl⟩:=nP hf;rcases wz p o.length with x | x
  ·obtain ⟨a,u⟩:=mF (l:=o) x;rw [l6 u,tC] at c;obtain ⟨U,E,e⟩:=e.nm 0 rfl u;obtain ⟨j,k,rfl,z⟩:=jB.out E;replace e:=e.jX (d:=.l j k a.a) z;refine q (g (s (sD r r (by omega)) (n (q (jM r (wk (q (pW (q (g (s (mi r) (s (kZ vC jU r r r (e.dl 2 r) u) (s (nT [V a.e,V a.d,V a.f,T a.c,T a.b,Z j a.a k] nR r jU r r (e.dc 1 r)) (sW e (jQ jU) fun w3 N e=>s (xi r) (lg (mQ e 0 [V a.e,V a.d,V a.f,T a.c,T a.b,Z j a.a k] r jU r r) fun w4 e=>n (q ?_))))))))))))))));obtain ⟨W,m,c⟩:=bs c;refine Jv e (fun Q f w=>∃ t,Has f [(3,T t),(5,Pt N),(6,Z b o i),(7,V (o.length:Int)),(8,V (p:Int))]/\Q w/\Ld.go t=W) (fun J5 A=>?_) ?_
   ·unfold zU at m;refine q (g (s (mi r) (s (wV r r) (n ?_))));rcases iv m with ⟨F,m⟩|⟨F,m⟩
    ·refine jM (bt F) (g (s (lN r) ?_));obtain ⟨X,H,m⟩:=bs m;exact s (mD r r H) (s (ny r) (n (A _ _ ⟨X,⟨r,r,r,r,r,y⟩,e,sm m⟩)))
    exact jD (bf F) (wk (A _ _ ⟨h,⟨r,r,r,r,r,y⟩,e,sm m⟩))
   clear e;rintro f w ⟨t,hf,e,I⟩;obtain ⟨ab,rfl⟩:=nP hf;subst I;replace c:=gi c;refine g (s (lN r) (s (lI [V a.e,V a.d,V a.f,T a.c,T a.b,Z j a.a k] nR jU r (e.bk 0 r)) ?_));obtain ⟨Q,Y,c⟩:=bs c;refine sc (ec Jy r) (Ju fu (e.pr [] [0] [0] r) Y) ?_;rintro _ w8 ⟨rfl,hK⟩;replace e:=e.cn [] [0] hK;obtain ⟨g9,J,c⟩:=bs c;exact s (mD r r J) (s (ny r) (n (g (s (l7 r r (by omega) (by omega)) (s (mi r) (n (D (o.length - (p+1)) _ _ (by omega) ⟨p+1,g9,r,by omega,⟨r,r,r,r,y⟩,e.ad [] [2],c⟩)))))))
  obtain rfl:p=o.length:=by omega
  rw [lT,tC] at c;exact q (g (s (su r r (by omega)) (n (q (jD r (uE (C _ _ ⟨h,⟨r,y⟩,e,sm c⟩)))))))
 clear e;rintro f w ⟨h,hf,e,K⟩;obtain ⟨ab,rfl⟩:=nP hf;subst K;replace v:=gi v;refine q (g (s (lN r) (s (ny r) (n (lX ?_)))));obtain rfl:=sm v;exact jN r (nH r) ⟨r,e.dp []⟩
def O6 (m:(List BA)->Option BA):Prop:=∀ {c f d a b e},Pre c f [] [.l a b d]->m d=some e-> Calls prog 63 #[Z a d b] c (tV fun v w=>v=T e/\Bx c w f (mW []) [] [])
def pQ (fu:Nat):List BA→Nat→BA→Option (Ld (BA) (BA))
 | [],_,a=>some (.go a)
 | c :: d,b,a=>
 if 0 < (b:Int) then
  (cat a (⟨#[44,32]⟩:BA)).bind fun e=>
  (cat e c).bind fun f=>
  pQ fu d (b+1) f
 else
  (cat a c).bind fun h=>
  pQ fu d (b+1) h
def yh (fu:Nat)(b:(List BA)):Option BA:=(pQ fu b 0 (⟨#[]⟩:BA)).bind fun c=>c.el (fun a=>some a) (fun o=>some o)
theorem Ic (fu:Nat):O6 (yh fu):=by
 intro B R e c d K C m;unfold yh at m;have i:=C.bx;clear C;generalize L:mW _=G at i ⊢;refine cf func63 r (lK [(0,Z c e d)] ⟨r,y⟩ fun S=>q (g (s (ny r) (n (q (g (s (ny r) (n (q (q (g (s (oF r) (s (mV kX r) (s (mi r) (n ?_)))))))))))))));have E:=(i.dl 0 r).bd;obtain ⟨D,a,m⟩:=bs m;refine qK (fun f w=>∃ b,Has f [(3,T b)]/\Bx B w R G [] [.l c d e]/\Ld.go b=D) (fun M t=>?_) ?_
 ·refine pW (kG (fun U f w=>∃ j b,U=e.length - j/\j<=e.length/\Has f [(8,V (j:Int)),(3,T b),(6,Z c e d),(7,V (e.length:Int))]/\Bx B w R G [] [.l c d e]/\pQ fu (e.drop j) j b=some D) e.length ⟨0,(⟨#[]⟩:BA),r,uN _,⟨r,r,r,r,y⟩,i,a⟩ ?_);clear i a;rintro U f w ⟨j,b,rfl,F,hf,i,a⟩ N o;obtain ⟨S,rfl⟩:=nP hf;rcases wz j e.length with p | p
  ·obtain ⟨H,k⟩:=mF (l:=e) p;rw [l6 k,pQ] at a;refine q (g (s (sD r r (by omega)) (n (q (jM r (wk (q (pW (q (g (s (mi r) (s (kZ kX ql r r r (i.dl 0 r) k) (s (kC vN r r ((vD (ds:=[T H]) (i.dl 0 r) k (fun _ h=>h)) 0 _ r)) (s (xi r) (s (ny r) (n (q (q (g (s (mi r) (s (wV r r) (n ?_))))))))))))))))))))));rcases iv a with ⟨u,a⟩|⟨u,a⟩
   ·refine jM (bt u) (g (s (lN r) ?_));obtain ⟨Q,v,a⟩:=bs a;refine s (mD r r v) (s (ny r) (n (g (s (lN r) (s (lN r) ?_)))));obtain ⟨I,x,a⟩:=bs a;exact s (mD r r x) (s (ny r) (n (g (s (l7 r r (by omega) (by omega)) (s (mi r) (n (o (e.length - (j+1)) _ _ (by omega) ⟨j+1,I,r,by omega,⟨r,r,r,r,y⟩,i,a⟩)))))))
   refine jD (bf u) (wk (g (s (lN r) (s (lN r) ?_))));obtain ⟨J,z,a⟩:=bs a;exact s (mD r r z) (s (ny r) (n (g (s (l7 r r (by omega) (by omega)) (s (mi r) (n (o (e.length - (j+1)) _ _ (by omega) ⟨j+1,J,r,by omega,⟨r,r,r,r,y⟩,i,a⟩)))))))
  obtain rfl:j=e.length:=by omega
  rw [lT,pQ] at a;exact q (g (s (su r r (by omega)) (n (q (jD r (uE (t _ _ ⟨b,⟨r,y⟩,i,sm a⟩)))))))
 clear i;rintro f w ⟨b,hf,i,A⟩;obtain ⟨S,rfl⟩:=nP hf;subst A;replace m:=gi m;refine q (g (s (lN r) (s (ny r) (n (lX ?_)))));obtain rfl:=sm m;exact jN r (nH r) ⟨r,i.dp []⟩
def N8 (m:Gs->Option BA):Prop:=∀ {k p}{a:Gs}{b c d e f h i j o},Pre k p [] [.l b c a.e,.l d e a.a,.l f h a.d,.l i j a.h]->m a=some o-> Calls prog 92 #[.agg #[V a.b,V a.g,V a.n,T a.c,T a.j,V a.m,V a.f,Z b a.e c,T a.k,V a.i,Z d a.a e,Z f a.d h,Z i a.h j]] k (tV fun v w=>v=T o/\Bx k w p (mW []) [] [])
def qC (fu:Nat)(c:Gs):Option BA:=if ¬ c.k=(⟨#[]⟩:BA) then (cat c.k (⟨#[40]⟩:BA)).bind fun d=>(zL fu c.a).bind fun a=>(cat d a).bind fun e=>(cat e (⟨#[41]⟩:BA)).bind fun f=>some f else (zL fu c.a).bind fun b=>some b
theorem wE (fu:Nat):N8 (qC fu):=by
 intro E R c e f h j l m o p F z b;unfold qC at b;have a:=z.bx;clear z;generalize H:mW _=G at a ⊢;refine cf func92 r (lK [(0,.agg #[V c.b,V c.g,V c.n,T c.c,T c.j,V c.m,V c.f,Z e c.e f,T c.k,V c.i,Z h c.a j,Z l c.d m,Z o c.h p])] ⟨r,y⟩ fun S=>q (g (sW a (uZ r) fun I J a=>s (ny r) (n (q (q (g (s (F8 r) (s (l9 r (a.bk 0 r) r) (s (NU r r) (n ?_)))))))))));rcases iv b with ⟨t,b⟩|⟨t,b⟩
 ·refine jM (bt t) (q (qJ a [0] [] [] (by kernel_rfl) ?_));replace a:=a.drew;have d:=a.dp [];refine pF 0 r (F8 r) d (uF 1 r (fun hS=>l9 r (hS.bk 0 r) r) d ?_);obtain ⟨K,u,b⟩:=bs b;refine pF 2 r (mD r r u) d (pF 3 r (wN r) d (uF 4 r (fun hS=>Et r (hS.bk 0 r) r) d ?_));obtain ⟨A,C,b⟩:=bs b;refine hO 5 (oc r r (ec WB r) (Jq fu (a.pr [] [0] [1] r) C) ?_);rintro _ L ⟨rfl,v⟩;replace a:=a.cn [] [0] v;have d:=a.dp [];refine ⟨sF d,?_⟩;obtain ⟨M,w,b⟩:=bs b;refine pF 6 r (mD r r w) d ?_;obtain ⟨N,x,b⟩:=bs b;refine pF 7 r (mD r r x) d (pF 8 r (ny r) d (hD (lX ?_)));obtain rfl:=sm b;exact jN r (nH r) ⟨r,a.ad [] []⟩
 refine jD (bf t) (wk (q (g (s (wN r) (s (Et r (a.bk 0 r) r) ?_)))));obtain ⟨B,D,b⟩:=bs b;refine sc (ec WB r) (Jq fu (a.pr [] [0] [1] r) D) ?_;rintro _ Q ⟨rfl,v⟩;replace a:=a.cn [] [0] v;refine s (ny r) (n (lX ?_));obtain rfl:=sm b;exact jN r (nH r) ⟨r,a.ad [] []⟩
abbrev vH:=(List jA)->ByteArray->Option (ByteArray)
def BH (m:(List Gs)->BA->Option BA):Prop:=∀ {c h d e a b f},Pre c h [] [.l a b d]->m d e=some f-> Calls prog 64 #[Z a d b,T e] c (tV fun v w=>v=T f/\Bx c w h (mW []) [] [])
def zk (fu:Nat)(r_p03_block:vH)(c:Gs):Option (Ld BA BA):=if 0 < (c.e.length:Int) then (ix c.e 0).bind fun d=>(qx fu d 1).bind fun a=>(cat a (⟨#[32,61,32]⟩:BA)).bind fun b=>some (.go b) else some (.go (⟨#[]⟩:BA))
def zf (fu:Nat)(r_p03_block:vH)(a:Gs):Option (Ld BA BA):=if a.j=(⟨#[]⟩:BA) then some (.go (⟨#[105,110,116]⟩:BA)) else some (.go a.j)
def yE (fu:Nat)(r_p03_block:vH)(e:Gs)(a:BA):Option (Ld BA BA):=if 0 < e.m then (sQ fu e.m).bind fun b=>(cat (⟨#[105,110,116,91]⟩:BA) b).bind fun c=>(cat c (⟨#[93]⟩:BA)).bind fun d=>some (.go d) else some (.go a)
def yB (fu:Nat)(r_p03_block:vH)(a:Gs):Option (Ld Bool BA):=if a.b=2 then some (.go (decide (a.b=2))) else some (.go (decide (a.b=3)))
def lS (fu:Nat)(r_p03_block:vH)(b:BA):List Gs→Nat→BA→Option (Ld (BA) (BA))
 | [],_,a=>some (.go a)
 | c :: d,e,a=>
 (zk fu r_p03_block c).bind fun aC=>aC.el (fun A=>
 if c.b=1 then
  (zf fu r_p03_block c).bind fun aC=>aC.el (fun f=>
  (yE fu r_p03_block c f).bind fun aC=>aC.el (fun h=>
  (cat a b).bind fun C=>
  (cat C (⟨#[118,97,114,32]⟩:BA)).bind fun D=>
  (cat D c.c).bind fun E=>
  (cat E (⟨#[58,32]⟩:BA)).bind fun F=>
  (cat F h).bind fun G=>
  (cat G (⟨#[59,10]⟩:BA)).bind fun H=>
  lS fu r_p03_block b d (e+1) H
  ) (fun o=>some (.out o))
  ) (fun o=>some (.out o))
 else
  (yB fu r_p03_block c).bind fun aC=>aC.el (fun i=>
  if i=true then
   (cat a b).bind fun I=>
   (cat I A).bind fun J=>
   (qC fu c).bind fun j=>
   (cat J j).bind fun K=>
   (cat K (⟨#[59,10]⟩:BA)).bind fun L=>
   lS fu r_p03_block b d (e+1) L
  else
   if c.b=6 then
    (cat a b).bind fun M=>
    (cat M (⟨#[114,101,116,117,114,110,32]⟩:BA)).bind fun N=>
    (qC fu c).bind fun k=>
    (cat N k).bind fun P=>
    (cat P (⟨#[59,10]⟩:BA)).bind fun Q=>
    lS fu r_p03_block b d (e+1) Q
   else
    if c.b=7 then
     (cat a b).bind fun R=>
     (cat R (⟨#[116,104,114,111,119,32]⟩:BA)).bind fun S=>
     (qC fu c).bind fun l=>
     (cat S l).bind fun U=>
     (cat U (⟨#[59,10]⟩:BA)).bind fun W=>
     lS fu r_p03_block b d (e+1) W
    else
     if c.b=9 then
      (cat a b).bind fun X=>
      (cat X (⟨#[112,114,105,110,116,32]⟩:BA)).bind fun Y=>
      (qC fu c).bind fun m=>
      (cat Y m).bind fun a0=>
      (cat a0 (⟨#[59,10]⟩:BA)).bind fun a1=>
      lS fu r_p03_block b d (e+1) a1
     else
      if c.b=4 then
       (cat a b).bind fun a2=>
       (cat a2 (⟨#[105,102,32]⟩:BA)).bind fun a3=>
       (cat b (⟨#[9]⟩:BA)).bind fun a4=>
       (qC fu c).bind fun p=>
       (cat a3 p).bind fun a5=>
       (cat a5 (⟨#[32,123,10]⟩:BA)).bind fun a6=>
       (r_p03_block c.d a4).bind fun t=>
       (cat a6 t).bind fun B=>
       if 0 < (c.h.length:Int) then
        (cat B b).bind fun a7=>
        (cat a7 (⟨#[125,32,101,108,115,101,32,123,10]⟩:BA)).bind fun a8=>
        (cat b (⟨#[9]⟩:BA)).bind fun a9=>
        (r_p03_block c.h a9).bind fun u=>
        (cat a8 u).bind fun aa=>
        (cat aa b).bind fun ab=>
        (cat ab (⟨#[125,10]⟩:BA)).bind fun ac=>
        lS fu r_p03_block b d (e+1) ac
       else
        (cat B b).bind fun ae=>
        (cat ae (⟨#[125,10]⟩:BA)).bind fun af=>
        lS fu r_p03_block b d (e+1) af
      else
       if c.b=5 then
        (cat a b).bind fun ag=>
        (cat ag (⟨#[119,104,105,108,101,32]⟩:BA)).bind fun ah=>
        (cat b (⟨#[9]⟩:BA)).bind fun ai=>
        (qC fu c).bind fun v=>
        (cat ah v).bind fun aj=>
        (cat aj (⟨#[32,123,10]⟩:BA)).bind fun ak=>
        (r_p03_block c.d ai).bind fun w=>
        (cat ak w).bind fun al=>
        (cat al b).bind fun am=>
        (cat am (⟨#[125,10]⟩:BA)).bind fun an=>
        lS fu r_p03_block b d (e+1) an
       else
        if c.b=8 then
         (cat a b).bind fun ao=>
         (cat ao (⟨#[116,114,121,32,123,10]⟩:BA)).bind fun ap=>
         (cat b (⟨#[9]⟩:BA)).bind fun aq=>
         (cat b (⟨#[9]⟩:BA)).bind fun ar=>
         (r_p03_block c.d aq).bind fun x=>
         (cat ap x).bind fun au=>
         (cat au b).bind fun av=>
         (cat av (⟨#[125,32,99,97,116,99,104,32]⟩:BA)).bind fun aw=>
         (cat aw c.c).bind fun ax=>
         (cat ax (⟨#[32,123,10]⟩:BA)).bind fun ay=>
         (r_p03_block c.h ar).bind fun z=>
         (cat ay z).bind fun az=>
         (cat az b).bind fun aA=>
         (cat aA (⟨#[125,10]⟩:BA)).bind fun aB=>
         lS fu r_p03_block b d (e+1) aB
        else
         lS fu r_p03_block b d (e+1) a
  ) (fun o=>some (.out o))
 ) (fun o=>some (.out o))
def Bf (fu:Nat)(r_p03_block:vH)(b:(List Gs))(c:BA):Option BA:=(lS fu r_p03_block c b 0 (⟨#[]⟩:BA)).bind fun d=>d.el (fun a=>some a) (fun o=>some o)
def FM:Nat→((List Gs)→BA→Option (BA))
 | 0=>(fun _ _=>none)
 | fu+1=>Bf fu (FM fu)
def oP (fu:Nat):=(FM fu)
theorem Oi (fu:Nat)(r_p03_block:vH)(H_p03_block:BH r_p03_block):BH (Bf fu r_p03_block):=by
 intro w0 dM D x1 e z r0 hP hM;unfold Bf at hM;have c:=hP.bx;clear hP;generalize hG:mW _=G at c ⊢;refine cf func64 r (lK [(0,Z e D z),(1,T x1)] ⟨r,r,y⟩ fun dN=>q (g (s (ny r) (n (q (g (s (ny r) (n (q (q (g (s (oF r) (s (mV Dv r) (s (mi r) (n ?_)))))))))))))));have cr:=(c.dl 0 r).bd;obtain ⟨Y1,a,hM⟩:=bs hM;refine qK (fun f w=>∃ A,Has f [(5,T A)]/\Bx w0 w dM G [] [.l e z D]/\Ld.go A=Y1) (fun J1 bB=>?_) ?_
 ·refine pW (kG (fun dO f w=>∃ C A,dO=D.length - C/\C<=D.length/\Has f [(12,V (C:Int)),(1,T x1),(5,T A),(10,Z e D z),(11,V (D.length:Int))]/\Bx w0 w dM G [] [.l e z D]/\lS fu r_p03_block x1 (D.drop C) C A=some Y1) D.length ⟨0,(⟨#[]⟩:BA),r,uN _,⟨r,r,r,r,r,y⟩,c,a⟩ ?_);clear c a;rintro dO f w ⟨C,A,rfl,ct,hf,c,a⟩ K1 H;obtain ⟨dN,rfl⟩:=nP hf;rcases wz C D.length with ai | ai
  ·obtain ⟨b,a2⟩:=mF (l:=D) ai;rw [l6 a2,lS] at a;obtain ⟨cu,bC,c⟩:=c.nm 0 rfl a2;obtain ⟨h,j,m,o,p,t,u,v,rfl,aj,ak,al,am⟩:=jA.out bC;replace c:=c.jX (d:=.l h j b.e) aj;replace c:=c.jX (d:=.l m o b.a) ak;replace c:=c.jX (d:=.l p t b.d) al;replace c:=c.jX (d:=.l u v b.h) am;refine q (g (s (sD r r (by omega)) (n (q (jM r (wk (q (pW (q (g (s (kZ Dv jS r r r (c.dl 5 r) a2) (s (nT [V b.b,V b.g,V b.n,T b.c,T b.j,V b.m,V b.f,Z h b.e j,T b.k,V b.i,Z m b.a o,Z p b.d t,Z u b.h v] mJ r jS r r (c.dc 4 r)) (sW c (jQ jS) fun w3 S c=>lg (mQ c 0 [V b.b,V b.g,V b.n,T b.c,T b.j,V b.m,V b.f,Z h b.e j,T b.k,V b.i,Z m b.a o,Z p b.d t,Z u b.h v] r jS r r) fun w4 c=>n (q (g (s (ny r) (n (q ?_))))))))))))))))));obtain ⟨Y5,E,a⟩:=bs a;refine qK (fun f w=>∃ N,Has f [(1,T x1),(5,T A),(7,Pt S),(8,T N),(10,Z e D z),(11,V (D.length:Int)),(12,V (C:Int))]/\Bx w0 w dM G [.box S 115 #[V b.b,V b.g,V b.n,T b.c,T b.j,V b.m,V b.f,Z h b.e j,T b.k,V b.i,Z m b.a o,Z p b.d t,Z u b.h v]] [.l u v b.h,.l p t b.d,.l m o b.a,.l h j b.e,.at (mU e) (nS e+C * sz Gs) [V b.b,V b.g,V b.n,T b.c,T b.j,V b.m,V b.f,Z h b.e j,T b.k,V b.i,Z m b.a o,Z p b.d t,Z u b.h v],.l e z D]/\Ld.go N=Y5) (fun J5 an=>?_) ?_
   ·unfold zk at E;refine q (g (s (zD r) (s (Et r (c.bk 0 r) r) (s (mV vC r) (s (wV r r) (n ?_))))));rcases iv E with ⟨h6,E⟩|⟨h6,E⟩
    ·refine jM (bt h6) (g (s (zD r) (s (Et r (c.bk 0 r) r) ?_)));obtain ⟨e7,R,E⟩:=bs E;obtain ⟨k7,bE,R⟩:=kW R;obtain ⟨cw,bF,c⟩:=c.nm 3 rfl R;obtain ⟨U,W,rfl,ao⟩:=jB.out bF;replace c:=c.jX (d:=.l U W e7.a) ao;refine s (kZ vC jU r r bE (c.dl 5 r) R) (s (nT [V e7.e,V e7.d,V e7.f,T e7.c,T e7.b,Z U e7.a W] nR r jU r r (c.dc 1 r)) ?_);obtain ⟨cq,h9,E⟩:=bs E;refine sc (ec Jy r) (Ju fu (c.pr [] [0] [0] r) h9) ?_;rintro _ w9 ⟨rfl,F⟩;replace c:=c.cn [] [0] F;obtain ⟨bG,ap,E⟩:=bs E;exact s (mD r r ap) (s (ny r) (n (an _ _ ⟨bG,⟨r,r,r,r,r,r,r,y⟩,c.dp [2,3,4,5,6,7],sm E⟩)))
    exact jD (bf h6) (wk (an _ _ ⟨(⟨#[]⟩:BA),⟨r,r,r,r,r,r,r,y⟩,c,sm E⟩))
   clear c;rintro f w ⟨N,hf,c,bH⟩;obtain ⟨dN,rfl⟩:=nP hf;subst bH;replace a:=gi a;refine q (g (s (zF r) (s (l3 r (c.bk 0 r) r) (n (pW (q (g (s (kM r r) (s (kH r) (n ?_))))))))));rcases iv a with ⟨a4,a⟩|⟨a4,a⟩
   ·refine jM (bt a4) (q (g (s (KY r) (s (l9 r (c.bk 0 r) r) (s (ny r) (n (q ?_)))))));obtain ⟨bI,I,a⟩:=bs a;refine Jv c (fun B f w=>∃ K,Has f [(1,T x1),(5,T A),(7,Pt S),(9,T K),(10,Z e D z),(11,V (D.length:Int)),(12,V (C:Int))]/\B w/\Ld.go K=bI) (fun cy X=>?_) ?_
    ·unfold zf at I;refine q (g (s (lN r) (s (tF r r) (n ?_))));rcases iv I with ⟨a5,I⟩|⟨a5,I⟩
     ·exact jM (bt a5) (g (s (ny r) (n (X _ _ ⟨(⟨#[105,110,116]⟩:BA),⟨r,r,r,r,r,r,r,y⟩,c,sm I⟩))))
     exact jD (bf a5) (wk (X _ _ ⟨b.j,⟨r,r,r,r,r,r,r,y⟩,c,sm I⟩))
    clear c;rintro f w ⟨K,hf,c,aq⟩;obtain ⟨dN,rfl⟩:=nP hf;subst aq;replace a:=gi a;refine q ?_;obtain ⟨bJ,B,a⟩:=bs a;refine qK (fun f w=>∃ L,Has f [(1,T x1),(5,T A),(7,Pt S),(9,T L),(10,Z e D z),(11,V (D.length:Int)),(12,V (C:Int))]/\Bx w0 w dM G [.box S 115 #[V b.b,V b.g,V b.n,T b.c,T b.j,V b.m,V b.f,Z h b.e j,T b.k,V b.i,Z m b.a o,Z p b.d t,Z u b.h v]] [.l u v b.h,.l p t b.d,.l m o b.a,.l h j b.e,.at (mU e) (nS e+C * sz Gs) [V b.b,V b.g,V b.n,T b.c,T b.j,V b.m,V b.f,Z h b.e j,T b.k,V b.i,Z m b.a o,Z p b.d t,Z u b.h v],.l e z D]/\Ld.go L=bJ) (fun cz Y=>?_) ?_
    ·unfold yE at B;refine q (g (s (EY r) (s (l3 r (c.bk 0 r) r) (s (wV r r) (n ?_)))));rcases iv B with ⟨a6,B⟩|⟨a6,B⟩
     ·refine jM (bt a6) (g (s (EY r) (s (l3 r (c.bk 0 r) r) ?_)));obtain ⟨bK,bL,B⟩:=bs B;refine sc (ec Nc r) (Dn fu (c.pr [] [0] [] r) bL) ?_;rintro _ cA ⟨rfl,F⟩;replace c:=c.cn [] [0] F;obtain ⟨cB,ar,B⟩:=bs B;refine s (mD r r ar) ?_;obtain ⟨bM,au,B⟩:=bs B;exact s (mD r r au) (s (ny r) (n (Y _ _ ⟨bM,⟨r,r,r,r,r,r,r,y⟩,c,sm B⟩)))
     exact jD (bf a6) (wk (Y _ _ ⟨K,⟨r,r,r,r,r,r,r,y⟩,c,sm B⟩))
    clear c;rintro f w ⟨L,hf,c,av⟩;obtain ⟨dN,rfl⟩:=nP hf;subst av;replace a:=gi a;refine g (s (lN r) (s (lN r) ?_));obtain ⟨cC,aw,a⟩:=bs a;refine s (mD r r aw) ?_;obtain ⟨cD,ax,a⟩:=bs a;refine s (mD r r ax) (s (BR r) (s (l9 r (c.bk 0 r) r) ?_));obtain ⟨cE,ay,a⟩:=bs a;refine s (mD r r ay) ?_;obtain ⟨cF,az,a⟩:=bs a;refine s (mD r r az) (s (lN r) ?_);obtain ⟨cG,aA,a⟩:=bs a;refine s (mD r r aA) ?_;obtain ⟨bN,aB,a⟩:=bs a;exact s (mD r r aB) (s (ny r) (n (g (s (l7 r r (by omega) (by omega)) (s (mi r) (n (H (D.length - (C+1)) _ _ (by omega) ⟨C+1,bN,r,by omega,⟨r,r,r,r,r,y⟩,c.ad [] [5],a⟩)))))))
   refine jD (bf a4) (q ?_);obtain ⟨bO,J,a⟩:=bs a;refine Jv c (fun B f w=>∃ M,Has f [(1,T x1),(5,T A),(7,Pt S),(8,T N),(10,Z e D z),(11,V (D.length:Int)),(12,V (C:Int)),(27,V b.b),(53,.bool M)]/\B w/\Ld.go M=bO) (fun cH a0=>?_) ?_
   ·unfold yB at J;refine q (g (s (kM r r) (s (kH r) (n ?_))));rcases iv J with ⟨a7,J⟩|⟨a7,J⟩
    ·exact jM (bt a7) (wk (a0 _ _ ⟨decide (b.b=2),⟨r,r,r,r,r,r,r,r,r,y⟩,c,sm J⟩))
    exact jD (bf a7) (g (s (kM r r) (s (kH r) (n (a0 _ _ ⟨decide (b.b=3),⟨r,r,r,r,r,r,r,r,r,y⟩,c,sm J⟩)))))
   clear c;rintro f w ⟨M,hf,c,aC⟩;obtain ⟨dN,rfl⟩:=nP hf;subst aC;replace a:=gi a;rcases iv a with ⟨Q,a⟩|⟨Q,a⟩
   ·refine jM (cb Q) (g (s (lN r) (s (lN r) ?_)));obtain ⟨cI,aD,a⟩:=bs a;refine s (mD r r aD) (s (lN r) ?_);obtain ⟨cJ,aE,a⟩:=bs a;refine s (mD r r aE) (s (lI [V b.b,V b.g,V b.n,T b.c,T b.j,V b.m,V b.f,Z h b.e j,T b.k,V b.i,Z m b.a o,Z p b.d t,Z u b.h v] mJ jS r (c.bk 0 r)) ?_);obtain ⟨bP,bQ,a⟩:=bs a;refine sc (ec Nw r) (wE fu (c.pr [] [0] [3,2,1,0] r) bQ) ?_;rintro _ cK ⟨rfl,F⟩;replace c:=c.cn [] [0] F;obtain ⟨cL,aG,a⟩:=bs a;refine s (mD r r aG) ?_;obtain ⟨bR,aH,a⟩:=bs a;exact s (mD r r aH) (s (ny r) (n (g (s (l7 r r (by omega) (by omega)) (s (mi r) (n (H (D.length - (C+1)) _ _ (by omega) ⟨C+1,bR,r,by omega,⟨r,r,r,r,r,y⟩,c.ad [] [5],a⟩)))))))
   refine jD (yu Q) (q (g (s (kM r r) (s (kH r) (n ?_)))));rcases iv a with ⟨a8,a⟩|⟨a8,a⟩
   ·refine jM (bt a8) (g (s (lN r) (s (lN r) ?_)));obtain ⟨cM,aI,a⟩:=bs a;refine s (mD r r aI) ?_;obtain ⟨cN,aJ,a⟩:=bs a;refine s (mD r r aJ) (s (lI [V b.b,V b.g,V b.n,T b.c,T b.j,V b.m,V b.f,Z h b.e j,T b.k,V b.i,Z m b.a o,Z p b.d t,Z u b.h v] mJ jS r (c.bk 0 r)) ?_);obtain ⟨bS,bT,a⟩:=bs a;refine sc (ec Nw r) (wE fu (c.pr [] [0] [3,2,1,0] r) bT) ?_;rintro _ cO ⟨rfl,F⟩;replace c:=c.cn [] [0] F;obtain ⟨cP,aK,a⟩:=bs a;refine s (mD r r aK) ?_;obtain ⟨bU,aL,a⟩:=bs a;exact s (mD r r aL) (s (ny r) (n (g (s (l7 r r (by omega) (by omega)) (s (mi r) (n (H (D.length - (C+1)) _ _ (by omega) ⟨C+1,bU,r,by omega,⟨r,r,r,r,r,y⟩,c.ad [] [5],a⟩)))))))
   refine jD (bf a8) (q (g (s (kM r r) (s (kH r) (n ?_)))));rcases iv a with ⟨a9,a⟩|⟨a9,a⟩
   ·refine jM (bt a9) (g (s (lN r) (s (lN r) ?_)));obtain ⟨cQ,aM,a⟩:=bs a;refine s (mD r r aM) ?_;obtain ⟨cR,aN,a⟩:=bs a;refine s (mD r r aN) (s (lI [V b.b,V b.g,V b.n,T b.c,T b.j,V b.m,V b.f,Z h b.e j,T b.k,V b.i,Z m b.a o,Z p b.d t,Z u b.h v] mJ jS r (c.bk 0 r)) ?_);obtain ⟨bV,bW,a⟩:=bs a;refine sc (ec Nw r) (wE fu (c.pr [] [0] [3,2,1,0] r) bW) ?_;rintro _ cS ⟨rfl,F⟩;replace c:=c.cn [] [0] F;obtain ⟨cT,aO,a⟩:=bs a;refine s (mD r r aO) ?_;obtain ⟨bX,aP,a⟩:=bs a;exact s (mD r r aP) (s (ny r) (n (g (s (l7 r r (by omega) (by omega)) (s (mi r) (n (H (D.length - (C+1)) _ _ (by omega) ⟨C+1,bX,r,by omega,⟨r,r,r,r,r,y⟩,c.ad [] [5],a⟩)))))))
   refine jD (bf a9) (q (g (s (kM r r) (s (kH r) (n ?_)))));rcases iv a with ⟨aa,a⟩|⟨aa,a⟩
   ·refine jM (bt aa) (g (s (lN r) (s (lN r) ?_)));obtain ⟨cU,aQ,a⟩:=bs a;refine s (mD r r aQ) ?_;obtain ⟨cV,aR,a⟩:=bs a;refine s (mD r r aR) (s (lI [V b.b,V b.g,V b.n,T b.c,T b.j,V b.m,V b.f,Z h b.e j,T b.k,V b.i,Z m b.a o,Z p b.d t,Z u b.h v] mJ jS r (c.bk 0 r)) ?_);obtain ⟨bY,bZ,a⟩:=bs a;refine sc (ec Nw r) (wE fu (c.pr [] [0] [3,2,1,0] r) bZ) ?_;rintro _ cW ⟨rfl,F⟩;replace c:=c.cn [] [0] F;obtain ⟨cX,aS,a⟩:=bs a;refine s (mD r r aS) ?_;obtain ⟨c0,aT,a⟩:=bs a;exact s (mD r r aT) (s (ny r) (n (g (s (l7 r r (by omega) (by omega)) (s (mi r) (n (H (D.length - (C+1)) _ _ (by omega) ⟨C+1,c0,r,by omega,⟨r,r,r,r,r,y⟩,c.ad [] [5],a⟩)))))))
   refine jD (bf aa) (q (g (s (kM r r) (s (kH r) (n ?_)))));rcases iv a with ⟨ab,a⟩|⟨ab,a⟩
   ·refine jM (bt ab) (q (qJ c [0] [] [] (by kernel_rfl) ?_));replace c:=c.drew;have x:=c.dp [];refine pF 0 r (lN r) x (pF 1 r (lN r) x ?_);obtain ⟨cY,aU,a⟩:=bs a;refine pF 2 r (mD r r aU) x ?_;obtain ⟨cZ,aV,a⟩:=bs a;refine pF 3 r (mD r r aV) x (uF 4 r (fun hS=>lI [V b.b,V b.g,V b.n,T b.c,T b.j,V b.m,V b.f,Z h b.e j,T b.k,V b.i,Z m b.a o,Z p b.d t,Z u b.h v] mJ jS r (hS.bk 0 r)) x (pF 8 r (zi r) x (uF 9 r (fun hS=>UW r (hS.bk 0 r) r) x (pF 10 r (lN r) x ?_))));obtain ⟨d0,aW,a⟩:=bs a;refine pF 11 r (mD r r aW) x ?_;obtain ⟨c1,c2,a⟩:=bs a;refine hO 5 (oc r r (ec Nw r) (wE fu (c.pr [] [0] [3,2,1,0] r) c2) ?_);rintro _ d1 ⟨rfl,F⟩;replace c:=c.cn [] [0] F;have x:=c.dp [];refine ⟨sF x,?_⟩;obtain ⟨d2,aX,a⟩:=bs a;refine pF 6 r (mD r r aX) x ?_;obtain ⟨d3,aY,a⟩:=bs a;refine pF 7 r (mD r r aY) x ?_;obtain ⟨c3,c4,a⟩:=bs a;refine hO 12 (oc r r (ec NC r) (H_p03_block (c.pr [] [0] [1] r) c4) ?_);rintro _ d4 ⟨rfl,F⟩;replace c:=c.cn [] [0] F;have x:=c.dp [];refine ⟨sF x,?_⟩;obtain ⟨d5,aZ,a⟩:=bs a;refine pF 13 r (mD r r aZ) x (pF 14 r (ny r) x (hD (q (q (g (s (zn r) (s (UW r (c.bk 0 r) r) (s (mV Dv r) (s (wV r r) (n ?_))))))))));rcases iv a with ⟨ac,a⟩|⟨ac,a⟩
    ·refine jM (bt ac) (g (s (lN r) (s (lN r) ?_)));obtain ⟨d6,b0,a⟩:=bs a;refine s (mD r r b0) ?_;obtain ⟨d7,b1,a⟩:=bs a;refine s (mD r r b1) (s (zn r) (s (UW r (c.bk 0 r) r) (s (lN r) ?_)));obtain ⟨d8,b2,a⟩:=bs a;refine s (mD r r b2) ?_;obtain ⟨c5,c6,a⟩:=bs a;refine sc (ec NC r) (H_p03_block (c.pr [] [0] [0] r) c6) ?_;rintro _ Ru ⟨rfl,F⟩;replace c:=c.cn [] [0] F;obtain ⟨d9,b4,a⟩:=bs a;refine s (mD r r b4) (s (ny r) (n (g (s (lN r) (s (lN r) ?_)))));obtain ⟨da,b5,a⟩:=bs a;refine s (mD r r b5) ?_;obtain ⟨c7,b6,a⟩:=bs a;exact s (mD r r b6) (s (ny r) (n (g (s (l7 r r (by omega) (by omega)) (s (mi r) (n (H (D.length - (C+1)) _ _ (by omega) ⟨C+1,c7,r,by omega,⟨r,r,r,r,r,y⟩,c.ad [] [5],a⟩)))))))
    refine jD (bf ac) (wk (g (s (lN r) (s (lN r) ?_))));obtain ⟨db,b7,a⟩:=bs a;refine s (mD r r b7) ?_;obtain ⟨c8,b8,a⟩:=bs a;exact s (mD r r b8) (s (ny r) (n (g (s (l7 r r (by omega) (by omega)) (s (mi r) (n (H (D.length - (C+1)) _ _ (by omega) ⟨C+1,c8,r,by omega,⟨r,r,r,r,r,y⟩,c.ad [] [5],a⟩)))))))
   refine jD (bf ab) (q (g (s (kM r r) (s (kH r) (n ?_)))));rcases iv a with ⟨ae,a⟩|⟨ae,a⟩
   ·refine jM (bt ae) (qJ c [0] [] [] (by kernel_rfl) ?_);replace c:=c.drew;have x:=c.dp [];refine pF 0 r (lN r) x (pF 1 r (lN r) x ?_);obtain ⟨dd,b9,a⟩:=bs a;refine pF 2 r (mD r r b9) x ?_;obtain ⟨de,ba,a⟩:=bs a;refine pF 3 r (mD r r ba) x (uF 4 r (fun hS=>lI [V b.b,V b.g,V b.n,T b.c,T b.j,V b.m,V b.f,Z h b.e j,T b.k,V b.i,Z m b.a o,Z p b.d t,Z u b.h v] mJ jS r (hS.bk 0 r)) x (pF 8 r (zi r) x (uF 9 r (fun hS=>UW r (hS.bk 0 r) r) x (pF 10 r (lN r) x ?_))));obtain ⟨df,bb,a⟩:=bs a;refine pF 11 r (mD r r bb) x (pF 14 r (lN r) x ?_);obtain ⟨c9,cc,a⟩:=bs a;refine hO 5 (oc r r (ec Nw r) (wE fu (c.pr [] [0] [3,2,1,0] r) cc) ?_);rintro _ dg ⟨rfl,F⟩;replace c:=c.cn [] [0] F;have x:=c.dp [];refine ⟨sF x,?_⟩;obtain ⟨dh,bc,a⟩:=bs a;refine pF 6 r (mD r r bc) x ?_;obtain ⟨di,bg,a⟩:=bs a;refine pF 7 r (mD r r bg) x ?_;obtain ⟨cd,ce,a⟩:=bs a;refine hO 12 (oc r r (ec NC r) (H_p03_block (c.pr [] [0] [1] r) ce) ?_);rintro _ dj ⟨rfl,F⟩;replace c:=c.cn [] [0] F;have x:=c.dp [];refine ⟨sF x,?_⟩;obtain ⟨dk,bh,a⟩:=bs a;refine pF 13 r (mD r r bh) x ?_;obtain ⟨dm,bi,a⟩:=bs a;refine pF 15 r (mD r r bi) x ?_;obtain ⟨cg,bj,a⟩:=bs a;exact pF 16 r (mD r r bj) x (pF 17 r (ny r) x (hD (g (s (l7 r r (by omega) (by omega)) (s (mi r) (n (H (D.length - (C+1)) _ _ (by omega) ⟨C+1,cg,r,by omega,⟨r,r,r,r,r,y⟩,c.ad [] [5],a⟩)))))))
   refine jD (bf ae) (q (g (s (kM r r) (s (kH r) (n ?_)))));rcases iv a with ⟨af,a⟩|⟨af,a⟩
   ·refine jM (bt af) (qJ c [0] [] [] (by kernel_rfl) ?_);replace c:=c.drew;have x:=c.dp [];refine pF 0 r (lN r) x (pF 1 r (lN r) x ?_);obtain ⟨dn,bl,a⟩:=bs a;refine pF 2 r (mD r r bl) x ?_;obtain ⟨dq,bm,a⟩:=bs a;refine pF 3 r (mD r r bm) x (pF 4 r (zi r) x (uF 5 r (fun hS=>UW r (hS.bk 0 r) r) x (pF 6 r (lN r) x ?_)));obtain ⟨dr,bn,a⟩:=bs a;refine pF 7 r (mD r r bn) x (pF 10 r (lN r) x (pF 13 r (BR r) x (uF 14 r (fun hS=>l9 r (hS.bk 0 r) r) x (pF 17 r (zn r) x (uF 18 r (fun hS=>UW r (hS.bk 0 r) r) x (pF 19 r (lN r) x ?_))))));obtain ⟨dt,bo,a⟩:=bs a;refine pF 20 r (mD r r bo) x (pF 23 r (lN r) x ?_);obtain ⟨ch,ci,a⟩:=bs a;refine hO 8 (oc r r (ec NC r) (H_p03_block (c.pr [] [0] [1] r) ci) ?_);rintro _ du ⟨rfl,F⟩;replace c:=c.cn [] [0] F;have x:=c.dp [];refine ⟨sF x,?_⟩;obtain ⟨dv,bp,a⟩:=bs a;refine pF 9 r (mD r r bp) x ?_;obtain ⟨dw,bq,a⟩:=bs a;refine pF 11 r (mD r r bq) x ?_;obtain ⟨dx,br,a⟩:=bs a;refine pF 12 r (mD r r br) x ?_;obtain ⟨dy,bu,a⟩:=bs a;refine pF 15 r (mD r r bu) x ?_;obtain ⟨dz,bv,a⟩:=bs a;refine pF 16 r (mD r r bv) x ?_;obtain ⟨cj,ck,a⟩:=bs a;refine hO 21 (oc r r (ec NC r) (H_p03_block (c.pr [] [0] [0] r) ck) ?_);rintro _ dA ⟨rfl,F⟩;replace c:=c.cn [] [0] F;have x:=c.dp [];refine ⟨sF x,?_⟩;obtain ⟨dB,bw,a⟩:=bs a;refine pF 22 r (mD r r bw) x ?_;obtain ⟨dC,bz,a⟩:=bs a;refine pF 24 r (mD r r bz) x ?_;obtain ⟨cm,bA,a⟩:=bs a;exact pF 25 r (mD r r bA) x (pF 26 r (ny r) x (hD (g (s (l7 r r (by omega) (by omega)) (s (mi r) (n (H (D.length - (C+1)) _ _ (by omega) ⟨C+1,cm,r,by omega,⟨r,r,r,r,r,y⟩,c.ad [] [5],a⟩)))))))
   exact jD (bf af) (wk (g (s (l7 r r (by omega) (by omega)) (s (mi r) (n (H (D.length - (C+1)) _ _ (by omega) ⟨C+1,A,r,by omega,⟨r,r,r,r,r,y⟩,c.ad [] [5],a⟩))))))
  obtain rfl:C=D.length:=by omega
  rw [lT,lS] at a;exact q (g (s (su r r (by omega)) (n (q (jD r (uE (bB _ _ ⟨A,⟨r,y⟩,c,sm a⟩)))))))
 clear c;rintro f w ⟨A,hf,c,cn⟩;obtain ⟨dN,rfl⟩:=nP hf;subst cn;replace hM:=gi hM;refine q (g (s (lN r) (s (ny r) (n (lX ?_)))));obtain rfl:=sm hM;exact jN r (nH r) ⟨r,c.dp []⟩
theorem MQ (fu:Nat):BH (oP fu):=by
 induction fu with
 | zero=>exact by intro a b;intros;(try intro _);intros;exact nn (by assumption)
 | succ fu ih=>exact Oi fu (oP fu) ih
theorem NK (fu:Nat):BH (oP fu):=(MQ fu)
def OU (m:jV->Option BA):Prop:=∀ {f i}{e:jV}{a b c d h},Pre f i [] [.l a b e.a,.l c d e.b]->m e=some h-> Calls prog 33 #[.agg #[Z a e.a b,Z c e.b d]] f (tV fun v w=>v=T h/\Bx f w i (mW []) [] [])
def qE (fu:Nat):List Gr→Nat→BA→Option (Ld (BA) (BA))
 | [],_,a=>some (.go a)
 | e :: f,h,a=>
 (cat a (⟨#[114,101,99,111,114,100,32]⟩:BA)).bind fun i=>
 (cat i e.c).bind fun j=>
 (cat j (⟨#[32,123,32]⟩:BA)).bind fun k=>
 (yh fu e.a).bind fun b=>
 (cat k b).bind fun c=>
 (cat c (⟨#[32,125,10]⟩:BA)).bind fun d=>
 qE fu f (h+1) d
def rX (fu:Nat):List Gn→Nat→BA→Option (Ld (BA) (BA))
 | [],_,a=>some (.go a)
 | b :: e,f,a=>
 (cat a (⟨#[102,117,110,99,32]⟩:BA)).bind fun h=>
 (cat h b.c).bind fun i=>
 (cat i (⟨#[40]⟩:BA)).bind fun j=>
 (yh fu b.a).bind fun c=>
 (cat j c).bind fun k=>
 (cat k (⟨#[41,32,123,10]⟩:BA)).bind fun l=>
 (oP fu b.d (⟨#[9]⟩:BA)).bind fun d=>
 (cat l d).bind fun m=>
 (cat m (⟨#[125,10]⟩:BA)).bind fun o=>
 rX fu e (f+1) o
def AO (fu:Nat)(c:jV):Option BA:=(qE fu c.a 0 (⟨#[]⟩:BA)).bind fun d=>d.el (fun b=>(rX fu c.b 0 b).bind fun d=>d.el (fun a=>some a) (fun o=>some o)) (fun o=>some o)
theorem NR (fu:Nat):OU (AO fu):=by
 intro w0 b3 o u v e h r0 hP H;unfold AO at H;have b:=hP.bx;clear hP;generalize hG:mW _=G at b ⊢;refine cf func33 r (lK [(0,.agg #[Z u o.a v,Z e o.b h])] ⟨r,y⟩ fun b5=>q (g (sW b (uZ r) fun w1 b1 b=>s (ny r) (n (q (g (s (ny r) (n (q (q (g (s (Im r) (s (l23 r (b.bk 0 r) r) (s (mV MJ r) (s (mi r) (n ?_))))))))))))))));have ay:=(b.dl 0 r).bd;obtain ⟨Y2,c,H⟩:=bs H;refine qK (fun f w=>∃ p,Has f [(1,Pt b1),(3,T p)]/\Bx w0 w b3 G [.box b1 26 #[Z u o.a v,Z e o.b h]] [.l u v o.a,.l e h o.b]/\Ld.go p=Y2) (fun J2 ac=>?_) ?_
 ·refine pW (kG (fun b6 f w=>∃ I p,b6=o.a.length - I/\I<=o.a.length/\Has f [(11,V (I:Int)),(1,Pt b1),(3,T p),(9,Z u o.a v),(10,V (o.a.length:Int))]/\Bx w0 w b3 G [.box b1 26 #[Z u o.a v,Z e o.b h]] [.l u v o.a,.l e h o.b]/\qE fu (o.a.drop I) I p=some Y2) o.a.length ⟨0,(⟨#[]⟩:BA),r,uN _,⟨r,r,r,r,r,y⟩,b,c⟩ ?_);clear b c;rintro b6 f w ⟨I,p,rfl,az,hf,b,c⟩ K2 ae;obtain ⟨b5,rfl⟩:=nP hf;rcases wz I o.a.length with Q | Q
  ·obtain ⟨K,L⟩:=mF (l:=o.a) Q;rw [l6 L,qE] at c;obtain ⟨aA,af,b⟩:=b.nm 0 rfl L;obtain ⟨D,E,rfl,R⟩:=kg.out af;replace b:=b.jX (d:=.l D E K.a) R;refine q (g (s (sD r r (by omega)) (n (q (jM r (wk (q (pW (q (g (s (kZ MJ yI r r r (b.dl 2 r) L) (s (nT [T K.c,Z D K.a E] Uk r yI r r (b.dc 1 r)) (sW b (jQ yI) fun w4 b4 b=>lg (mQ b 0 [T K.c,Z D K.a E] r yI r r) fun w5 b=>n (qJ b [0] [] [] (by kernel_rfl) ?_))))))))))))));replace b:=b.drew;have m:=b.ad [0] [];refine pF 0 r (lN r) m ?_;obtain ⟨g6,ag,c⟩:=bs c;refine pF 1 r (mD r r ag) m (pF 2 r (N9 r) m (uF 3 r (fun hS=>l9 r (hS.bk 0 r) r) m ?_));obtain ⟨g7,ah,c⟩:=bs c;refine pF 4 r (mD r r ah) m ?_;obtain ⟨g8,ai,c⟩:=bs c;refine pF 5 r (mD r r ai) m (pF 6 r (ES r) m (uF 7 r (fun hS=>Cz r (hS.bk 0 r) r) m ?_));obtain ⟨au,h9,c⟩:=bs c;refine hO 8 (oc r r (ec aai r) (Ic fu (b.pr [] [0,1] [0] r) h9) ?_);rintro _ w9 ⟨rfl,S⟩;replace b:=b.cn [] [0,1] S;have m:=b.ad [0] [];refine ⟨sF m,?_⟩;obtain ⟨aC,U,c⟩:=bs c;refine pF 9 r (mD r r U) m ?_;obtain ⟨aj,W,c⟩:=bs c;exact pF 10 r (mD r r W) m (pF 11 r (ny r) m (hD (g (s (l7 r r (by omega) (by omega)) (s (mi r) (n (ae (o.a.length - (I+1)) _ _ (by omega) ⟨I+1,aj,r,by omega,⟨r,r,r,r,r,y⟩,b.ad [1] [2,3],c⟩)))))))
  obtain rfl:I=o.a.length:=by omega
  rw [lT,qE] at c;exact q (g (s (su r r (by omega)) (n (q (jD r (uE (ac _ _ ⟨p,⟨r,r,y⟩,b,sm c⟩)))))))
 clear b;rintro f w ⟨p,hf,b,ak⟩;obtain ⟨b5,rfl⟩:=nP hf;subst ak;replace H:=gi H;refine q (q (g (s (DJ r) (s (Vo r (b.bk 0 r) r) (s (mV Gt r) (s (mi r) (n ?_)))))));have av:=(b.dl 1 r).bd;obtain ⟨X,a,H⟩:=bs H;refine qK (fun f w=>∃ j,Has f [(3,T j)]/\Bx w0 w b3 G [] [.l e h o.b]/\Ld.go j=X) (fun aD Y=>?_) ?_
 ·refine pW (kG (fun b6 f w=>∃ x j,b6=o.b.length - x/\x<=o.b.length/\Has f [(30,V (x:Int)),(3,T j),(28,Z e o.b h),(29,V (o.b.length:Int))]/\Bx w0 w b3 G [] [.l e h o.b]/\rX fu (o.b.drop x) x j=some X) o.b.length ⟨0,p,r,uN _,⟨r,r,r,r,y⟩,b.ad [] [1],a⟩ ?_);clear b a;rintro b6 f w ⟨x,j,rfl,aw,hf,b,a⟩ aE a0;obtain ⟨b5,rfl⟩:=nP hf;rcases wz x o.b.length with J | J
  ·obtain ⟨t,F⟩:=mF (l:=o.b) J;rw [l6 F,rX] at a;obtain ⟨ax,a1,b⟩:=b.nm 0 rfl F;obtain ⟨z,A,B,C,rfl,M,N⟩:=kN.out a1;replace b:=b.jX (d:=.l z A t.a) M;replace b:=b.jX (d:=.l B C t.d) N;refine q (g (s (sD r r (by omega)) (n (q (jM r (wk (q (pW (q (g (s (kZ Gt oO r r r (b.dl 3 r) F) (s (nT [T t.c,V t.g,Z z t.a A,Z B t.d C] JA r oO r r (b.dc 2 r)) (sW b (jQ oO) fun aF aG b=>lg (mQ b 0 [T t.c,V t.g,Z z t.a A,Z B t.d C] r oO r r) fun aH b=>n (qJ b [0] [] [] (by kernel_rfl) ?_))))))))))))));replace b:=b.drew;have m:=b.dp [];refine pF 0 r (lN r) m ?_;obtain ⟨aI,a2,a⟩:=bs a;refine pF 1 r (mD r r a2) m (pF 2 r (Qe r) m (uF 3 r (fun hS=>l9 r (hS.bk 0 r) r) m ?_));obtain ⟨aJ,a3,a⟩:=bs a;refine pF 4 r (mD r r a3) m ?_;obtain ⟨aK,a4,a⟩:=bs a;refine pF 5 r (mD r r a4) m (pF 6 r (LQ r) m (uF 7 r (fun hS=>Cz r (hS.bk 0 r) r) m (pF 11 r (H6 r) m (uF 12 r (fun hS=>UW r (hS.bk 0 r) r) m ?_))));obtain ⟨al,am,a⟩:=bs a;refine hO 8 (oc r r (ec aai r) (Ic fu (b.pr [] [0] [1] r) am) ?_);rintro _ aL ⟨rfl,S⟩;replace b:=b.cn [] [0] S;have m:=b.dp [];refine ⟨sF m,?_⟩;obtain ⟨aM,a5,a⟩:=bs a;refine pF 9 r (mD r r a5) m ?_;obtain ⟨aN,a6,a⟩:=bs a;refine pF 10 r (mD r r a6) m ?_;obtain ⟨an,ao,a⟩:=bs a;refine hO 13 (oc r r (ec NC r) (NK fu (b.pr [] [0] [0] r) ao) ?_);rintro _ aO ⟨rfl,S⟩;replace b:=b.cn [] [0] S;have m:=b.dp [];refine ⟨sF m,?_⟩;obtain ⟨aP,a7,a⟩:=bs a;refine pF 14 r (mD r r a7) m ?_;obtain ⟨ap,a8,a⟩:=bs a;exact pF 15 r (mD r r a8) m (pF 16 r (ny r) m (hD (g (s (l7 r r (by omega) (by omega)) (s (mi r) (n (a0 (o.b.length - (x+1)) _ _ (by omega) ⟨x+1,ap,r,by omega,⟨r,r,r,r,y⟩,b.ad [] [3],a⟩)))))))
  obtain rfl:x=o.b.length:=by omega
  rw [lT,rX] at a;exact q (g (s (su r r (by omega)) (n (q (jD r (uE (Y _ _ ⟨j,⟨r,y⟩,b,sm a⟩)))))))
 clear b;rintro f w ⟨j,hf,b,a9⟩;obtain ⟨b5,rfl⟩:=nP hf;subst a9;replace H:=gi H;refine q (g (s (lN r) (s (ny r) (n (lX ?_)))));obtain rfl:=sm H;exact jN r (nH r) ⟨r,b.dp []⟩
end
end Go.Proofs.YtdkneekpdecjbaaGreat
