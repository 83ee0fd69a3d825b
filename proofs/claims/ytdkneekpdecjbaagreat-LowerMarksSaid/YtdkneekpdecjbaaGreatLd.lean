/- Contracts, printed by gen3.py. -/
import Derived.Test.YtdkneekpdecjbaaGreatZ5
import Derived.Test.YtdkneekpdecjbaaGreatLa
set_option linter.unusedVariables false
set_option maxHeartbeats 12800000
set_option linter.unusedSimpArgs false
set_option maxRecDepth 4000
namespace Go.Proofs.YtdkneekpdecjbaaGreat
open Go.RowKit Go.Fw Go.Proofs.Tryz
noncomputable section
abbrev yX:=jA->Int->Option (ByteArray)
def BX (m:Ge->Int->Option BA):Prop:=∀ {d h}{c:Ge}{e a b f},Pre d h [] [.l a b c.a]->m c e=some f-> Calls prog 90 #[.agg #[V c.e,V c.d,V c.g,T c.b,T c.c,Z a c.a b],V e] d (sW fun v w=>v=T f/\Bx d w h (mQ []) [] [])
def zw (fu:Nat)(r_r03_Expr:yX)(a:Ge):Option (Ld Bool BA):=if a.e=3 then some (.go (decide (0 < (a.a.length:Int)))) else some (.go false)
def zq (fu:Nat)(r_r03_Expr:yX)(b:Ge)(a:Int):Option (Ld Bool BA):=if a=5 then some (.go (decide (0 < (b.a.length:Int)))) else some (.go false)
def zm (fu:Nat)(r_r03_Expr:yX)(a:Int):Option (Ld Int BA):=if a=1 then some (.go 2) else some (.go a)
def zJ (fu:Nat)(r_r03_Expr:yX)(a:Ge)(b:Int):Option (Ld BA BA):=if a.e=0 then (rR fu a.d).bind fun j=>some (.go j) else if a.e=2 then (cat a.b (⟨#[46]⟩:BA)).bind fun F=>(cat F a.c).bind fun G=>some (.go G) else (zw fu r_r03_Expr a).bind fun H=>H.el (fun k=>if k=true then (ix a.a 0).bind fun l=>(cat a.b (⟨#[91]⟩:BA)).bind fun m=>(r_r03_Expr l 1).bind fun c=>(cat m c).bind fun p=>(cat p (⟨#[93]⟩:BA)).bind fun t=>some (.go t) else (zq fu r_r03_Expr a b).bind fun H=>H.el (fun d=>if d=true then (ix a.a 0).bind fun u=>(ix ([(⟨#[45]⟩:BA),(⟨#[33]⟩:BA)]:List BA) (wr (a.e - 4))).bind fun v=>(r_r03_Expr u 5).bind fun e=>(cat v e).bind fun w=>some (.go w) else if b < 5 then if 1 < (a.a.length:Int) then (zm fu r_r03_Expr b).bind fun H=>H.el (fun f=>(ix a.a 0).bind fun x=>(ix a.a 1).bind fun z=>(ix ([(⟨#[43]⟩:BA),(⟨#[45]⟩:BA),(⟨#[42]⟩:BA),(⟨#[47]⟩:BA),(⟨#[37]⟩:BA),(⟨#[38]⟩:BA),(⟨#[124]⟩:BA),(⟨#[94]⟩:BA),(⟨#[60]⟩:BA),(⟨#[60,61]⟩:BA),(⟨#[61,61]⟩:BA),(⟨#[33,61]⟩:BA)]:List BA) (wr (a.e - 6))).bind fun A=>(r_r03_Expr x f).bind fun h=>(cat h (⟨#[32]⟩:BA)).bind fun B=>(cat B A).bind fun C=>(cat C (⟨#[32]⟩:BA)).bind fun D=>(r_r03_Expr z (wr (b+1))).bind fun i=>(cat D i).bind fun E=>some (.go E)) (fun o=>some (.out o)) else some (.go a.b) else some (.go a.b)) (fun o=>some (.out o))) (fun o=>some (.out o))
def Bv (fu:Nat)(r_r03_Expr:yX)(e:Ge)(f:Int):Option BA:=(Bp fu e.e).bind fun a=>(zJ fu r_r03_Expr e a).bind fun h=>h.el (fun b=>if a < f then (cat (⟨#[40]⟩:BA) b).bind fun c=>(cat c (⟨#[41]⟩:BA)).bind fun d=>some d else some b) (fun o=>some o)
def Ga:Nat→(Ge→Int→Option (BA))
 | 0=>(fun _ _=>none)
 | fu+1=>Bv fu (Ga fu)
def pQ (fu:Nat):=(Ga fu)
theorem Pz (fu:Nat)(r_r03_Expr:yX)(H_r03_Expr:BX r_r03_Expr):BX (Bv fu r_r03_Expr):=by
 intro w0 bU e x1 j m r0 hP v;unfold Bv at v;have b:=hP.bx;clear hP;generalize hG:mQ _=G at b ⊢;refine cf func90 r ?_;refine lH [(0,.agg #[V e.e,V e.d,V e.g,T e.b,T e.c,Z j e.a m]),(1,V x1)] ⟨r,r,y⟩ fun bV=>?_;refine q (g (l5 (kD b (uM r)) ?_));rintro _ w1 ⟨b1,rfl,b⟩;refine s (mP r) (n (q (g (s (Cn r) (s (l3 r (b.bk 0 r) r) ?_)))));obtain ⟨p,h2,v⟩:=bs v;have hc:=(OT fu) (b.pr [] [0] [] r)  h2;refine sc (ec Zm r) hc ?_;rintro _ w2 ⟨rfl,x⟩;replace b:=b.cl [] [0] r x r;try dsimp only [pick,nth,ca,na] at b
 refine s (xi r) (n (q (g (s (ND r) (s (l9 r (b.bk 0 r) r) (s (mP r) (n (q ?_))))))));obtain ⟨Y3,a,v⟩:=bs v;refine oD (fun f w=>∃ (N:BA),Has f [(1,V x1),(5,V p),(6,T N)]/\Bx w0 w bU G [] []/\Ld.go N=Y3) (fun J3 z=>?_) ?_
 ·unfold zJ at a;refine qb (q (g (s (Cn r) (s (l3 r (b.bk 0 r) r) (s (kH r r) (s (kG r) (n ?_)))))));rcases iv a with ⟨h4,a⟩|⟨h4,a⟩
  ·refine jK (bt h4) (g (s (Nv r) (s (l3 r (b.bk 0 r) r) ?_)));obtain ⟨ao,h5,a⟩:=bs a;have hc:=(Cq fu) (b.pr [] [0] [] r)  h5;refine sc (ec LJ r) hc ?_;rintro _ w5 ⟨rfl,x⟩;replace b:=b.cl [] [0] r x r;try dsimp only [pick,nth,ca,na] at b
   refine s (mP r) (n ?_);exact z _ _ ⟨ao,⟨r,r,r,y⟩,b.ad [] [],sm a⟩
  refine jD (bf h4) (q (g (s (Cn r) (s (l3 r (b.bk 0 r) r) (s (kH r r) (s (kG r) (n ?_)))))));rcases iv a with ⟨h6,a⟩|⟨h6,a⟩
  ·refine jK (bt h6) (g (s (ND r) (s (l9 r (b.bk 0 r) r) ?_)));obtain ⟨g7,aR,a⟩:=bs a;refine s (lV r r aR) (s (Uu r) (s (l9 r (b.bk 0 r) r) ?_));obtain ⟨g8,aS,a⟩:=bs a;refine s (lV r r aS) (s (mP r) (n ?_));exact z _ _ ⟨g8,⟨r,r,r,y⟩,b.ad [] [],sm a⟩
  refine jD (bf h6) (q ?_);obtain ⟨Y9,M,a⟩:=bs a;refine oD (fun f w=>∃ (Q:Bool),Has f [(1,V x1),(2,Pt b1),(5,V p),(6,T e.b),(31,.bool Q)]/\Bx w0 w bU G [.box b1 166 #[V e.e,V e.d,V e.g,T e.b,T e.c,Z j e.a m]] [.l j m e.a]/\Ld.go Q=Y9) (fun J9 ap=>?_) ?_
  ·unfold zw at M;refine g (s (Cn r) (s (l3 r (b.bk 0 r) r) (s (kH r r) (s (lI r) ?_))));rcases iv M with ⟨a8,M⟩|⟨a8,M⟩
   ·rw [uD a8];refine kL r (s (CS r) (kL r (s (DI r (b.bk 0 r) r) (kL r (s (mV uH r) (kL r (s (vJ r r) (s (kU r r) (s (kG r) (n ?_))))))))));exact ap _ _ ⟨decide (0 < (e.a.length:Int)),⟨r,r,r,r,r,y⟩,b,sm M⟩
   rw [uL a8];refine ko r (ko r (ko r (ko r (s (kI r r) (s (kG r) (n ?_))))));exact ap _ _ ⟨false,⟨r,r,r,r,r,y⟩,b,sm M⟩
  clear b;rintro f w ⟨Q,hf,b,aT⟩;obtain ⟨bV,rfl⟩:=ng hf;subst aT;replace a:=gi a;rcases iv a with ⟨R,a⟩|⟨R,a⟩
  ·refine jK (cb R) ?_;obtain ⟨A,H,a⟩:=bs a;obtain ⟨bl,aq,H⟩:=lq H;obtain ⟨b9,ar,b⟩:=b.nm 0 rfl H;obtain ⟨S,U,rfl,a9⟩:=jA.out ar;replace b:=b.jZ (d:=.l S U A.a) a9;refine qG b [0] [0,1,2] [] (by kernel_rfl) ?_;replace b:=b.drew;have c:=b;refine pF 0 r (ND r) c (uF 1 r (fun hS=>l9 r (hS.bk 0 r) r) c ?_);obtain ⟨bm,au,a⟩:=bs a;refine pF 2 r (lV r r au) c (pF 3 r (CS r) c (uF 4 r (fun hS=>DI r (hS.bk 0 r) r) c (pF 5 r (lu uH jS r r aq (b.dl 2 r) H) c (uF 6 r (fun hS=>jQ [V A.e,V A.d,V A.g,T A.b,T A.c,Z S A.a U] nI r jS r r (hS.dc 1 r)) c ?_))));obtain ⟨aU,aV,a⟩:=bs a;have hc:=H_r03_Expr (b.pr [] [0] [0] r)  aV;refine hO 7 (oc r r (ec Iw r) hc ?_);rintro _ bn ⟨rfl,x⟩;replace b:=b.cl [] [0] r x r;try dsimp only [pick,nth,ca,na] at b
   have c:=b;refine ⟨sF c,?_⟩;obtain ⟨bo,av,a⟩:=bs a;refine pF 8 r (lV r r av) c ?_;obtain ⟨aW,aw,a⟩:=bs a;refine pF 9 r (lV r r aw) c (pF 10 r (mP r) c (hD ?_));exact z _ _ ⟨aW,⟨r,r,r,y⟩,b.ad [] [],sm a⟩
  refine jD (wV R) (q ?_);obtain ⟨aX,t,a⟩:=bs a;refine oD (fun f w=>∃ (B:Bool),Has f [(1,V x1),(2,Pt b1),(5,V p),(6,T e.b),(51,.bool B)]/\Bx w0 w bU G [.box b1 166 #[V e.e,V e.d,V e.g,T e.b,T e.c,Z j e.a m]] [.l j m e.a]/\Ld.go B=aX) (fun bp a5=>?_) ?_
  ·unfold zq at t;refine g (s (mi r) (s (kH r r) (s (lI r) ?_)));rcases iv t with ⟨aa,t⟩|⟨aa,t⟩
   ·rw [uD aa];refine kL r (s (CS r) (kL r (s (DI r (b.bk 0 r) r) (kL r (s (mV uH r) (kL r (s (vJ r r) (s (kU r r) (s (kG r) (n ?_))))))))));exact a5 _ _ ⟨decide (0 < (e.a.length:Int)),⟨r,r,r,r,r,y⟩,b,sm t⟩
   rw [uL aa];refine ko r (ko r (ko r (ko r (s (kI r r) (s (kG r) (n ?_))))));exact a5 _ _ ⟨false,⟨r,r,r,r,r,y⟩,b,sm t⟩
  clear b;rintro f w ⟨B,hf,b,ax⟩;obtain ⟨bV,rfl⟩:=ng hf;subst ax;replace a:=gi a;rcases iv a with ⟨W,a⟩|⟨W,a⟩
  ·refine jK (cb W) ?_;obtain ⟨C,I,a⟩:=bs a;obtain ⟨bq,ay,I⟩:=lq I;obtain ⟨ba,az,b⟩:=b.nm 0 rfl I;obtain ⟨X,Y,rfl,ab⟩:=jA.out az;replace b:=b.jZ (d:=.l X Y C.a) ab;obtain ⟨ac,o,a⟩:=bs a;obtain ⟨br,a6,o⟩:=lq o;obtain ⟨aY,ae,a⟩:=bs a;obtain ⟨aA,a0,a⟩:=bs a;refine oD (fun f w=>Has f [(1,V x1),(5,V p),(6,T aA)]/\Bx w0 w bU G [] []) (fun Jd hJd=>?_) ?_
   ·refine qG b [0] [0,1,2] [] (by kernel_rfl) ?_;replace b:=b.drew;have c:=b;refine pF 1 r (Cn r) c (uF 2 r (fun hS=>l3 r (hS.bk 0 r) r) c (pF 3 r (yh r r) c (pF 6 r (CS r) c (uF 7 r (fun hS=>DI r (hS.bk 0 r) r) c (pF 8 r (lu uH jS r r ay (b.dl 2 r) I) c (uF 9 r (fun hS=>jQ [V C.e,V C.d,V C.g,T C.b,T C.c,Z X C.a Y] nI r jS r r (hS.dc 1 r)) c ?_))))));refine nG 0 [10] (by kernel_rfl) (jO ?_ (jO ?_ l6))
    ·refine oo r r (jM b [[T (⟨#[45]⟩:BA)],[T (⟨#[33]⟩:BA)]] ([(⟨#[45]⟩:BA),(⟨#[33]⟩:BA)]:List BA) (wB r r) r r (by decide) ⟨r,⟨r,y⟩⟩) ?_;rintro _ bu ⟨bv,rfl,b⟩;have c:=b.ad [1] [1,2,3];refine ⟨sF c,?_⟩;refine pF 4 r (lu kW pJ r r a6 (b.vw 0 0 r r) o) c ?_;refine nG 5 [10] (by kernel_rfl) (jO ?_ (jO ?_ l6))
     ·have c:=b.ad [1] [1,2,3];refine uW r r (kC vg r r ((uE (ds:=[T ac]) (b.vw 0 0 r r) o (fun _ h=>h)) 0 _ r)) (sF c) ?_;have hc:=H_r03_Expr (b.pr [] [0,1] [1] r)  ae;refine hO 10 (oc r r (ec Iw r) hc ?_);rintro _ aB ⟨rfl,x⟩;replace b:=b.cl [] [0,1] r x r;try dsimp only [pick,nth,ca,na] at b
      have c:=b.ad [1] [1,2,3];refine ⟨sF c,?_⟩;refine pF 11 r (lV r r a0) c (pF 12 r (mP r) c (hD ?_));exact hJd _ _ ⟨⟨r,r,r,y⟩,b.ad [] []⟩
     have hc:=H_r03_Expr (b.pr [] [0,1] [1] r)  ae;refine oc r r (ec Iw r) hc ?_;rintro _ aB ⟨rfl,x⟩;replace b:=b.cl [] [0,1] r x r;try dsimp only [pick,nth,ca,na] at b
     have c:=b.ad [1] [1,2,3];refine ⟨sF c,?_⟩;refine hO 5 (uW r r (kC vg r r ((uE (ds:=[T ac]) (b.vw 0 0 r r) o (fun _ h=>h)) 0 _ r)) (sF c) ?_);refine pF 11 r (lV r r a0) c (pF 12 r (mP r) c (hD ?_));exact hJd _ _ ⟨⟨r,r,r,y⟩,b.ad [] []⟩
    have hc:=H_r03_Expr (b.pr [] [0] [0] r)  ae;refine oc r r (ec Iw r) hc ?_;rintro _ aB ⟨rfl,x⟩;replace b:=b.cl [] [0] r x r;try dsimp only [pick,nth,ca,na] at b
    have c:=b;refine ⟨sF c,?_⟩;refine hO 0 (oo r r (jM b [[T (⟨#[45]⟩:BA)],[T (⟨#[33]⟩:BA)]] ([(⟨#[45]⟩:BA),(⟨#[33]⟩:BA)]:List BA) (wB r r) r r (by decide) ⟨r,⟨r,y⟩⟩) ?_);rintro _ bw ⟨bz,rfl,b⟩;have c:=b.ad [1] [1,2,3];refine ⟨sF c,?_⟩;refine pF 4 r (lu kW pJ r r a6 (b.vw 0 0 r r) o) c ?_;refine hO 5 (uW r r (kC vg r r ((uE (ds:=[T ac]) (b.vw 0 0 r r) o (fun _ h=>h)) 0 _ r)) (sF c) ?_);refine pF 11 r (lV r r a0) c (pF 12 r (mP r) c (hD ?_));exact hJd _ _ ⟨⟨r,r,r,y⟩,b.ad [] []⟩
   clear b;rintro f w ⟨hf,b⟩;obtain ⟨bV,rfl⟩:=ng hf;exact z _ _ ⟨aA,⟨r,r,r,y⟩,b,sm a⟩
  refine jD (wV W) (q (g (s (mi r) (s (sj r r) (s (lI r) ?_)))));rcases iv a with ⟨af,a⟩|⟨af,a⟩
  ·rw [uD af];refine kL r (s (CS r) (kL r (s (DI r (b.bk 0 r) r) (kL r (s (mV uH r) (kL r (s (vJ r r) (s (kU r r) (s (kG r) (n ?_))))))))));rcases iv a with ⟨ag,a⟩|⟨ag,a⟩
   ·refine jK (bt ag) (q (g (l5 (jM b [[T (⟨#[43]⟩:BA)],[T (⟨#[45]⟩:BA)],[T (⟨#[42]⟩:BA)],[T (⟨#[47]⟩:BA)],[T (⟨#[37]⟩:BA)],[T (⟨#[38]⟩:BA)],[T (⟨#[124]⟩:BA)],[T (⟨#[94]⟩:BA)],[T (⟨#[60]⟩:BA)],[T (⟨#[60,61]⟩:BA)],[T (⟨#[61,61]⟩:BA)],[T (⟨#[33,61]⟩:BA)]] ([(⟨#[43]⟩:BA),(⟨#[45]⟩:BA),(⟨#[42]⟩:BA),(⟨#[47]⟩:BA),(⟨#[37]⟩:BA),(⟨#[38]⟩:BA),(⟨#[124]⟩:BA),(⟨#[94]⟩:BA),(⟨#[60]⟩:BA),(⟨#[60,61]⟩:BA),(⟨#[61,61]⟩:BA),(⟨#[33,61]⟩:BA)]:List BA) (Hr r r r r r r r r r r r r) r r (by decide) ⟨r,⟨r,⟨r,⟨r,⟨r,⟨r,⟨r,⟨r,⟨r,⟨r,⟨r,⟨r,y⟩⟩⟩⟩⟩⟩⟩⟩⟩⟩⟩⟩) ?_)));rintro _ bA ⟨aC,rfl,b⟩;refine s (og r) (n (q (g (s (mi r) (s (xi r) (n (q ?_)))))));obtain ⟨aZ,u,a⟩:=bs a;refine oD (fun f w=>∃ (D:Int),Has f [(1,V x1),(2,Pt b1),(5,V p),(7,.slice (ad aC) ([(⟨#[43]⟩:BA),(⟨#[45]⟩:BA),(⟨#[42]⟩:BA),(⟨#[47]⟩:BA),(⟨#[37]⟩:BA),(⟨#[38]⟩:BA),(⟨#[124]⟩:BA),(⟨#[94]⟩:BA),(⟨#[60]⟩:BA),(⟨#[60,61]⟩:BA),(⟨#[61,61]⟩:BA),(⟨#[33,61]⟩:BA)]:List BA).length 12),(8,V D)]/\Bx w0 w bU G [O w0.heap.size (ad aC) 12 9 BA [[T (⟨#[43]⟩:BA)],[T (⟨#[45]⟩:BA)],[T (⟨#[42]⟩:BA)],[T (⟨#[47]⟩:BA)],[T (⟨#[37]⟩:BA)],[T (⟨#[38]⟩:BA)],[T (⟨#[124]⟩:BA)],[T (⟨#[94]⟩:BA)],[T (⟨#[60]⟩:BA)],[T (⟨#[60,61]⟩:BA)],[T (⟨#[61,61]⟩:BA)],[T (⟨#[33,61]⟩:BA)]],.box b1 166 #[V e.e,V e.d,V e.g,T e.b,T e.c,Z j e.a m]] [.els [[T (⟨#[43]⟩:BA)],[T (⟨#[45]⟩:BA)],[T (⟨#[42]⟩:BA)],[T (⟨#[47]⟩:BA)],[T (⟨#[37]⟩:BA)],[T (⟨#[38]⟩:BA)],[T (⟨#[124]⟩:BA)],[T (⟨#[94]⟩:BA)],[T (⟨#[60]⟩:BA)],[T (⟨#[60,61]⟩:BA)],[T (⟨#[61,61]⟩:BA)],[T (⟨#[33,61]⟩:BA)]] ([(⟨#[43]⟩:BA),(⟨#[45]⟩:BA),(⟨#[42]⟩:BA),(⟨#[47]⟩:BA),(⟨#[37]⟩:BA),(⟨#[38]⟩:BA),(⟨#[124]⟩:BA),(⟨#[94]⟩:BA),(⟨#[60]⟩:BA),(⟨#[60,61]⟩:BA),(⟨#[61,61]⟩:BA),(⟨#[33,61]⟩:BA)]:List BA),.l j m e.a]/\Ld.go D=aZ) (fun bB a7=>?_) ?_
    ·unfold zm at u;refine q (g (s (mi r) (s (kH r r) (n ?_))));rcases iv u with ⟨ah,u⟩|⟨ah,u⟩
     ·refine jK (bt ah) (g (s (xi r) (n ?_)));exact a7 _ _ ⟨2,⟨r,r,r,r,r,y⟩,b,sm u⟩
     refine jD (bf ah) (wk ?_);exact a7 _ _ ⟨p,⟨r,r,r,r,r,y⟩,b,sm u⟩
    clear b;rintro f w ⟨D,hf,b,aD⟩;obtain ⟨bV,rfl⟩:=ng hf;subst aD;replace a:=gi a;obtain ⟨E,J,a⟩:=bs a;obtain ⟨bC,aE,J⟩:=lq J;obtain ⟨bb,aF,b⟩:=b.nm 1 rfl J;obtain ⟨a1,a2,rfl,ai⟩:=jA.out aF;replace b:=b.jZ (d:=.l a1 a2 E.a) ai;obtain ⟨F,K,a⟩:=bs a;obtain ⟨bD,aG,K⟩:=lq K;obtain ⟨bc,aH,b⟩:=b.nm 3 rfl K;obtain ⟨a3,a4,rfl,aj⟩:=jA.out aH;replace b:=b.jZ (d:=.l a3 a4 F.a) aj;refine qG b [0,1] [0,1,2,3,4,5] [] (by kernel_rfl) ?_;replace b:=b.drew;have c:=b;refine pF 0 r (CS r) c (uF 1 r (fun hS=>DI r (hS.bk 1 r) r) c (pF 2 r (lu uH jS r r aE (b.dl 5 r) J) c (uF 3 r (fun hS=>jQ [V E.e,V E.d,V E.g,T E.b,T E.c,Z a1 E.a a2] nI r jS r r (hS.dc 3 r)) c (pF 4 r (mi r) c (pF 7 r (qw r) c (pF 8 r (Cn r) c (uF 9 r (fun hS=>l3 r (hS.bk 1 r) r) c (pF 10 r (yh r r) c ?_))))))));obtain ⟨b0,L,a⟩:=bs a;obtain ⟨bE,aI,L⟩:=lq L;refine pF 11 r (lu kW pJ r r aI (b.vw 0 4 r r) L) c (tU 12 r (fun _ hS=>kC vg r r ((uE (ds:=[T b0]) (hS.vw 0 4 r r) L (fun _ h=>h)) 0 _ r)) (sF c) (pF 15 r (CS r) c (uF 16 r (fun hS=>DI r (hS.bk 1 r) r) c (pF 17 r (lu uH jS r r aG (b.dl 5 r) K) c (uF 18 r (fun hS=>jQ [V F.e,V F.d,V F.g,T F.b,T F.c,Z a3 F.a a4] nI r jS r r (hS.dc 1 r)) c (pF 19 r (mi r) c (pF 20 r (kN r r) c ?_)))))));obtain ⟨b2,b3,a⟩:=bs a;have hc:=H_r03_Expr (b.pr [] [0,1] [2] r)  b3;refine hO 5 (oc r r (ec Iw r) hc ?_);rintro _ bF ⟨rfl,x⟩;replace b:=b.cl [] [0,1] r x r;try dsimp only [pick,nth,ca,na] at b
    have c:=b;refine ⟨sF c,?_⟩;obtain ⟨bG,aJ,a⟩:=bs a;refine pF 6 r (lV r r aJ) c ?_;obtain ⟨bH,aK,a⟩:=bs a;refine pF 13 r (lV r r aK) c ?_;obtain ⟨bI,aL,a⟩:=bs a;refine pF 14 r (lV r r aL) c ?_;obtain ⟨b4,b5,a⟩:=bs a;have hc:=H_r03_Expr (b.pr [] [0,1] [0] r)  b5;refine hO 21 (oc r r (ec Iw r) hc ?_);rintro _ bJ ⟨rfl,x⟩;replace b:=b.cl [] [0,1] r x r;try dsimp only [pick,nth,ca,na] at b
    have c:=b;refine ⟨sF c,?_⟩;obtain ⟨b6,aM,a⟩:=bs a;refine pF 22 r (lV r r aM) c (pF 23 r (mP r) c (hD ?_));exact z _ _ ⟨b6,⟨r,r,r,y⟩,b.ad [] [],sm a⟩
   refine jD (bf ag) (wk ?_);exact z _ _ ⟨e.b,⟨r,r,r,y⟩,b.ad [] [],sm a⟩
  rw [uL af];refine ko r (ko r (ko r (ko r (s (kI r r) (s (kG r) (n (jD r (wk ?_))))))));exact z _ _ ⟨e.b,⟨r,r,r,y⟩,b.ad [] [],sm a⟩
 clear b;rintro f w ⟨N,hf,b,b7⟩;obtain ⟨bV,rfl⟩:=ng hf;subst b7;replace v:=gi v;refine q (q (g (s (mi r) (s (mi r) (s (sj r r) (n ?_))))));rcases iv v with ⟨ak,v⟩|⟨ak,v⟩
 ·refine jK (bt ak) (q (g (s (lF r) ?_)));obtain ⟨bK,aN,v⟩:=bs v;refine s (lV r r aN) ?_;obtain ⟨bL,aO,v⟩:=bs v;refine s (lV r r aO) (s (mP r) (n (lS ?_)));obtain rfl:=sm v;refine jI r (nu r) ?_;exact ⟨r,b⟩
 refine jD (bf ak) (wk (q (g (s (lF r) (s (mP r) (n (lS ?_)))))));obtain rfl:=sm v;refine jI r (nu r) ?_;exact ⟨r,b⟩
theorem NC (fu:Nat):BX (pQ fu):=by
 induction fu with
 | zero=>exact by intro a b;intros;(try intro _);intros;exact nn (by assumption)
 | succ fu ih=>exact Pz fu (pQ fu) ih
theorem Iy (fu:Nat):BX (pQ fu):=(NC fu)
def O5 (m:(List Ge)->Option BA):Prop:=∀ {c f d a b e},Pre c f [] [.l a b d]->m d=some e-> Calls prog 137 #[Z a d b] c (sW fun v w=>v=T e/\Bx c w f (mQ []) [] [])
def zI (fu:Nat)(a:BA)(b:Nat):Option (Ld BA BA):=if 0 < (b:Int) then (cat a (⟨#[44,32]⟩:BA)).bind fun c=>some (.go c) else some (.go a)
def rW (fu:Nat):List Ge→Nat→BA→Option (Ld (BA) (BA))
 | [],_,a=>some (.go a)
 | e :: f,d,a=>
 (zI fu a d).bind fun i=>i.el (fun b=>
 (pQ fu e 1).bind fun c=>
 (cat b c).bind fun h=>
 rW fu f (d+1) h
 ) (fun o=>some (.out o))
def y5 (fu:Nat)(b:(List Ge)):Option BA:=(rW fu b 0 (⟨#[]⟩:BA)).bind fun c=>c.el (fun a=>some a) (fun o=>some o)
theorem Io (fu:Nat):O5 (y5 fu):=by
 intro B aa o b i r0 L v;unfold y5 at v;have e:=L.bx;clear L;generalize hG:mQ _=G at e ⊢;refine cf func137 r ?_;refine lH [(0,Z b o i)] ⟨r,y⟩ fun ab=>?_;refine q (g (s (mP r) (n (q (g (s (mP r) (n (q (q (g (s (qw r) (s (mV uH r) (s (mi r) ?_)))))))))))));refine n ?_;have R:=(e.dl 0 r).bd;obtain ⟨M,c,v⟩:=bs v;refine oD (fun f w=>∃ (h:BA),Has f [(3,T h)]/\Bx B w aa G [] [.l b i o]/\Ld.go h=M) (fun J1 C=>?_) ?_
 ·refine qb (kM (fun ac f w=>∃ (p:Nat)(h:BA),ac=o.length - p/\p<=o.length/\Has f [(8,V (p:Int)),(3,T h),(6,Z b o i),(7,V (o.length:Int))]/\Bx B w aa G [] [.l b i o]/\rW fu (o.drop p) p h=some M) o.length ⟨0,(⟨#[]⟩:BA),r,uS _,⟨r,r,r,r,y⟩,e,c⟩ ?_);clear e c;rintro ac f w ⟨p,h,rfl,S,hf,e,c⟩ K1 D;obtain ⟨ab,rfl⟩:=ng hf;rcases wY p o.length with x | x
  ·obtain ⟨a,u⟩:=mU (l:=o) x;rw [mR u,rW] at c;obtain ⟨U,E,e⟩:=e.nm 0 rfl u;obtain ⟨j,k,rfl,z⟩:=jA.out E;replace e:=e.jZ (d:=.l j k a.a) z;refine q (g (s (sO r r (by omega)) (n (q (jK r (wk (q (qb (q (g (s (mi r) (s (lu uH jS r r r (e.dl 2 r) u) (s (jQ [V a.e,V a.d,V a.g,T a.b,T a.c,Z j a.a k] nI r jS r r (e.dc 1 r)) ?_)))))))))))));refine l5 (kD e (jP jS)) ?_;rintro _ w3 ⟨N,rfl,e⟩;refine s (xi r) (lg (tb e 0 [V a.e,V a.d,V a.g,T a.b,T a.c,Z j a.a k] r jS r r r r r (show _=#[V a.e,V a.d,V a.g,T a.b,T a.c,Z j a.a k] from r)) ?_);intro w4 e;try dsimp only [List.set] at e
   refine n (q ?_);obtain ⟨W,m,c⟩:=bs c;refine oD (fun f w=>∃ (t:BA),Has f [(3,T t),(5,Pt N),(6,Z b o i),(7,V (o.length:Int)),(8,V (p:Int))]/\Bx B w aa G [.box N 166 #[V a.e,V a.d,V a.g,T a.b,T a.c,Z j a.a k]] [.l j k a.a,.at (nk b) (nX b+p * sz Ge) [V a.e,V a.d,V a.g,T a.b,T a.c,Z j a.a k],.l b i o]/\Ld.go t=W) (fun J5 A=>?_) ?_
   ·unfold zI at m;refine q (g (s (mi r) (s (vJ r r) (n ?_))));rcases iv m with ⟨F,m⟩|⟨F,m⟩
    ·refine jK (bt F) (g (s (lF r) ?_));obtain ⟨X,H,m⟩:=bs m;refine s (lV r r H) (s (mP r) (n ?_));exact A _ _ ⟨X,⟨r,r,r,r,r,y⟩,e,sm m⟩
    refine jD (bf F) (wk ?_);exact A _ _ ⟨h,⟨r,r,r,r,r,y⟩,e,sm m⟩
   clear e;rintro f w ⟨t,hf,e,I⟩;obtain ⟨ab,rfl⟩:=ng hf;subst I;replace c:=gi c;refine g (s (lF r) (s (jQ [V a.e,V a.d,V a.g,T a.b,T a.c,Z j a.a k] nI r jS r r (Cells.part (e.bk 0 r).cells (o2:=0) r)) ?_));obtain ⟨Q,Y,c⟩:=bs c;have hc:=(Iy fu) (e.pr [] [0] [0] r)  Y;refine sc (ec Iw r) hc ?_;rintro _ w8 ⟨rfl,hK⟩;replace e:=e.cl [] [0] r hK r;try dsimp only [pick,nth,ca,na] at e
   obtain ⟨g9,J,c⟩:=bs c;refine s (lV r r J) (s (mP r) (n (g (s (mE r r (by omega) (by omega)) (s (mi r) (n ?_))))));exact D (o.length - (p+1)) _ _ (by omega) ⟨p+1,g9,r,by omega,⟨r,r,r,r,y⟩,e.ad [] [2],c⟩
  obtain rfl:p=o.length:=by omega
  rw [lU,rW] at c;refine q (g (s (sM r r (by omega)) (n (q (jD r (vE ?_))))));exact C _ _ ⟨h,⟨r,y⟩,e,sm c⟩
 clear e;rintro f w ⟨h,hf,e,K⟩;obtain ⟨ab,rfl⟩:=ng hf;subst K;replace v:=gi v;refine q (g (s (lF r) (s (mP r) (n (lS ?_)))));obtain rfl:=sm v;refine jI r (nu r) ?_;exact ⟨r,e.dp []⟩
def MQ (m:(List BA)->Option BA):Prop:=∀ {c f d a b e},Pre c f [] [.l a b d]->m d=some e-> Calls prog 63 #[Z a d b] c (sW fun v w=>v=T e/\Bx c w f (mQ []) [] [])
def oJ (fu:Nat):List BA→Nat→BA→Option (Ld (BA) (BA))
 | [],_,a=>some (.go a)
 | c :: d,b,a=>
 if 0 < (b:Int) then
  (cat a (⟨#[44,32]⟩:BA)).bind fun e=>
  (cat e c).bind fun f=>
  oJ fu d (b+1) f
 else
  (cat a c).bind fun h=>
  oJ fu d (b+1) h
def xw (fu:Nat)(b:(List BA)):Option BA:=(oJ fu b 0 (⟨#[]⟩:BA)).bind fun c=>c.el (fun a=>some a) (fun o=>some o)
theorem Gf (fu:Nat):MQ (xw fu):=by
 intro B R e c d K C m;unfold xw at m;have i:=C.bx;clear C;generalize L:mQ _=G at i ⊢;refine cf func63 r ?_;refine lH [(0,Z c e d)] ⟨r,y⟩ fun S=>?_;refine q (g (s (mP r) (n (q (g (s (mP r) (n (q (q (g (s (qw r) (s (mV kW r) (s (mi r) ?_)))))))))))));refine n ?_;have E:=(i.dl 0 r).bd;obtain ⟨D,a,m⟩:=bs m;refine oD (fun f w=>∃ (b:BA),Has f [(3,T b)]/\Bx B w R G [] [.l c d e]/\Ld.go b=D) (fun M t=>?_) ?_
 ·refine qb (kM (fun U f w=>∃ (j:Nat)(b:BA),U=e.length - j/\j<=e.length/\Has f [(8,V (j:Int)),(3,T b),(6,Z c e d),(7,V (e.length:Int))]/\Bx B w R G [] [.l c d e]/\oJ fu (e.drop j) j b=some D) e.length ⟨0,(⟨#[]⟩:BA),r,uS _,⟨r,r,r,r,y⟩,i,a⟩ ?_);clear i a;rintro U f w ⟨j,b,rfl,F,hf,i,a⟩ N o;obtain ⟨S,rfl⟩:=ng hf;rcases wY j e.length with p | p
  ·obtain ⟨H,k⟩:=mU (l:=e) p;rw [mR k,oJ] at a;refine q (g (s (sO r r (by omega)) (n (q (jK r (wk (q (qb (q (g (s (mi r) (s (lu kW pJ r r r (i.dl 0 r) k) (s (kC vg r r ((uE (ds:=[T H]) (i.dl 0 r) k (fun _ h=>h)) 0 _ r)) ?_)))))))))))));refine s (xi r) (s (mP r) (n (q (q (g (s (mi r) (s (vJ r r) (n ?_))))))));rcases iv a with ⟨u,a⟩|⟨u,a⟩
   ·refine jK (bt u) (g (s (lF r) ?_));obtain ⟨Q,v,a⟩:=bs a;refine s (lV r r v) (s (mP r) (n (g (s (lF r) (s (lF r) ?_)))));obtain ⟨I,x,a⟩:=bs a;refine s (lV r r x) (s (mP r) (n (g (s (mE r r (by omega) (by omega)) (s (mi r) (n ?_))))));exact o (e.length - (j+1)) _ _ (by omega) ⟨j+1,I,r,by omega,⟨r,r,r,r,y⟩,i,a⟩
   refine jD (bf u) (wk (g (s (lF r) (s (lF r) ?_))));obtain ⟨J,z,a⟩:=bs a;refine s (lV r r z) (s (mP r) (n (g (s (mE r r (by omega) (by omega)) (s (mi r) (n ?_))))));exact o (e.length - (j+1)) _ _ (by omega) ⟨j+1,J,r,by omega,⟨r,r,r,r,y⟩,i,a⟩
  obtain rfl:j=e.length:=by omega
  rw [lU,oJ] at a;refine q (g (s (sM r r (by omega)) (n (q (jD r (vE ?_))))));exact t _ _ ⟨b,⟨r,y⟩,i,sm a⟩
 clear i;rintro f w ⟨b,hf,i,A⟩;obtain ⟨S,rfl⟩:=ng hf;subst A;replace m:=gi m;refine q (g (s (lF r) (s (mP r) (n (lS ?_)))));obtain rfl:=sm m;refine jI r (nu r) ?_;exact ⟨r,i.dp []⟩
def MR (m:Gs->Option BA):Prop:=∀ {k p}{a:Gs}{b c d e f h i j o},Pre k p [] [.l b c a.d,.l d e a.a,.l f h a.e,.l i j a.i]->m a=some o-> Calls prog 92 #[.agg #[V a.c,V a.f,V a.n,T a.b,T a.j,V a.m,V a.g,Z b a.d c,T a.k,V a.h,Z d a.a e,Z f a.e h,Z i a.i j]] k (sW fun v w=>v=T o/\Bx k w p (mQ []) [] [])
def qd (fu:Nat)(c:Gs):Option BA:=if ¬ c.k=(⟨#[]⟩:BA) then (cat c.k (⟨#[40]⟩:BA)).bind fun d=>(y5 fu c.a).bind fun a=>(cat d a).bind fun e=>(cat e (⟨#[41]⟩:BA)).bind fun f=>some f else (y5 fu c.a).bind fun b=>some b
theorem vS (fu:Nat):MR (qd fu):=by
 intro E R c e f h j l m o p F z b;unfold qd at b;have a:=z.bx;clear z;generalize H:mQ _=G at a ⊢;refine cf func92 r ?_;refine lH [(0,.agg #[V c.c,V c.f,V c.n,T c.b,T c.j,V c.m,V c.g,Z e c.d f,T c.k,V c.h,Z h c.a j,Z l c.e m,Z o c.i p])] ⟨r,y⟩ fun S=>?_;refine q (g (l5 (kD a (uM r)) ?_));rintro _ I ⟨J,rfl,a⟩;refine s (mP r) (n (q (q (g (s (Fu r) (s (l9 r (a.bk 0 r) r) (s (Nt r r) (n ?_))))))));rcases iv b with ⟨t,b⟩|⟨t,b⟩
 ·refine jK (bt t) (q (qG a [0] [] [] (by kernel_rfl) ?_));replace a:=a.drew;have d:=a.dp [];refine pF 0 r (Fu r) d (uF 1 r (fun hS=>l9 r (hS.bk 0 r) r) d ?_);obtain ⟨K,u,b⟩:=bs b;refine pF 2 r (lV r r u) d (pF 3 r (vF r) d (uF 4 r (fun hS=>DI r (hS.bk 0 r) r) d ?_));obtain ⟨A,C,b⟩:=bs b;have hc:=(Io fu) (a.pr [] [0] [1] r)  C;refine hO 5 (oc r r (ec UQ r) hc ?_);rintro _ L ⟨rfl,v⟩;replace a:=a.cl [] [0] r v r;try dsimp only [pick,nth,ca,na] at a
  have d:=a.dp [];refine ⟨sF d,?_⟩;obtain ⟨M,w,b⟩:=bs b;refine pF 6 r (lV r r w) d ?_;obtain ⟨N,x,b⟩:=bs b;refine pF 7 r (lV r r x) d (pF 8 r (mP r) d (hD (lS ?_)));obtain rfl:=sm b;refine jI r (nu r) ?_;exact ⟨r,a.ad [] []⟩
 refine jD (bf t) (wk (q (g (s (vF r) (s (DI r (a.bk 0 r) r) ?_)))));obtain ⟨B,D,b⟩:=bs b;have hc:=(Io fu) (a.pr [] [0] [1] r)  D;refine sc (ec UQ r) hc ?_;rintro _ Q ⟨rfl,v⟩;replace a:=a.cl [] [0] r v r;try dsimp only [pick,nth,ca,na] at a
 refine s (mP r) (n (lS ?_));obtain rfl:=sm b;refine jI r (nu r) ?_;exact ⟨r,a.ad [] []⟩
abbrev uT:=(List jB)->ByteArray->Option (ByteArray)
def AR (m:(List Gs)->BA->Option BA):Prop:=∀ {c h d e a b f},Pre c h [] [.l a b d]->m d e=some f-> Calls prog 64 #[Z a d b,T e] c (sW fun v w=>v=T f/\Bx c w h (mQ []) [] [])
def xP (fu:Nat)(r_p03_block:uT)(c:Gs):Option (Ld BA BA):=if 0 < (c.d.length:Int) then (ix c.d 0).bind fun d=>(pQ fu d 1).bind fun a=>(cat a (⟨#[32,61,32]⟩:BA)).bind fun b=>some (.go b) else some (.go (⟨#[]⟩:BA))
def x9 (fu:Nat)(r_p03_block:uT)(a:Gs):Option (Ld BA BA):=if a.j=(⟨#[]⟩:BA) then some (.go (⟨#[105,110,116]⟩:BA)) else some (.go a.j)
def yM (fu:Nat)(r_p03_block:uT)(e:Gs)(a:BA):Option (Ld BA BA):=if 0 < e.m then (rR fu e.m).bind fun b=>(cat (⟨#[105,110,116,91]⟩:BA) b).bind fun c=>(cat c (⟨#[93]⟩:BA)).bind fun d=>some (.go d) else some (.go a)
def yI (fu:Nat)(r_p03_block:uT)(a:Gs):Option (Ld Bool BA):=if a.c=2 then some (.go (decide (a.c=2))) else some (.go (decide (a.c=3)))
def lK (fu:Nat)(r_p03_block:uT)(b:BA):List Gs→Nat→BA→Option (Ld (BA) (BA))
 | [],_,a=>some (.go a)
 | c :: d,e,a=>
 (xP fu r_p03_block c).bind fun aC=>aC.el (fun A=>
 if c.c=1 then
  (x9 fu r_p03_block c).bind fun aC=>aC.el (fun f=>
  (yM fu r_p03_block c f).bind fun aC=>aC.el (fun h=>
  (cat a b).bind fun C=>
  (cat C (⟨#[118,97,114,32]⟩:BA)).bind fun D=>
  (cat D c.b).bind fun E=>
  (cat E (⟨#[58,32]⟩:BA)).bind fun F=>
  (cat F h).bind fun G=>
  (cat G (⟨#[59,10]⟩:BA)).bind fun H=>
  lK fu r_p03_block b d (e+1) H
  ) (fun o=>some (.out o))
  ) (fun o=>some (.out o))
 else
  (yI fu r_p03_block c).bind fun aC=>aC.el (fun i=>
  if i=true then
   (cat a b).bind fun I=>
   (cat I A).bind fun J=>
   (qd fu c).bind fun j=>
   (cat J j).bind fun K=>
   (cat K (⟨#[59,10]⟩:BA)).bind fun L=>
   lK fu r_p03_block b d (e+1) L
  else
   if c.c=6 then
    (cat a b).bind fun M=>
    (cat M (⟨#[114,101,116,117,114,110,32]⟩:BA)).bind fun N=>
    (qd fu c).bind fun k=>
    (cat N k).bind fun P=>
    (cat P (⟨#[59,10]⟩:BA)).bind fun Q=>
    lK fu r_p03_block b d (e+1) Q
   else
    if c.c=7 then
     (cat a b).bind fun R=>
     (cat R (⟨#[116,104,114,111,119,32]⟩:BA)).bind fun S=>
     (qd fu c).bind fun l=>
     (cat S l).bind fun U=>
     (cat U (⟨#[59,10]⟩:BA)).bind fun W=>
     lK fu r_p03_block b d (e+1) W
    else
     if c.c=9 then
      (cat a b).bind fun X=>
      (cat X (⟨#[112,114,105,110,116,32]⟩:BA)).bind fun Y=>
      (qd fu c).bind fun m=>
      (cat Y m).bind fun a0=>
      (cat a0 (⟨#[59,10]⟩:BA)).bind fun a1=>
      lK fu r_p03_block b d (e+1) a1
     else
      if c.c=4 then
       (cat a b).bind fun a2=>
       (cat a2 (⟨#[105,102,32]⟩:BA)).bind fun a3=>
       (cat b (⟨#[9]⟩:BA)).bind fun a4=>
       (qd fu c).bind fun p=>
       (cat a3 p).bind fun a5=>
       (cat a5 (⟨#[32,123,10]⟩:BA)).bind fun a6=>
       (r_p03_block c.e a4).bind fun t=>
       (cat a6 t).bind fun B=>
       if 0 < (c.i.length:Int) then
        (cat B b).bind fun a7=>
        (cat a7 (⟨#[125,32,101,108,115,101,32,123,10]⟩:BA)).bind fun a8=>
        (cat b (⟨#[9]⟩:BA)).bind fun a9=>
        (r_p03_block c.i a9).bind fun u=>
        (cat a8 u).bind fun aa=>
        (cat aa b).bind fun ab=>
        (cat ab (⟨#[125,10]⟩:BA)).bind fun ac=>
        lK fu r_p03_block b d (e+1) ac
       else
        (cat B b).bind fun ae=>
        (cat ae (⟨#[125,10]⟩:BA)).bind fun af=>
        lK fu r_p03_block b d (e+1) af
      else
       if c.c=5 then
        (cat a b).bind fun ag=>
        (cat ag (⟨#[119,104,105,108,101,32]⟩:BA)).bind fun ah=>
        (cat b (⟨#[9]⟩:BA)).bind fun ai=>
        (qd fu c).bind fun v=>
        (cat ah v).bind fun aj=>
        (cat aj (⟨#[32,123,10]⟩:BA)).bind fun ak=>
        (r_p03_block c.e ai).bind fun w=>
        (cat ak w).bind fun al=>
        (cat al b).bind fun am=>
        (cat am (⟨#[125,10]⟩:BA)).bind fun an=>
        lK fu r_p03_block b d (e+1) an
       else
        if c.c=8 then
         (cat a b).bind fun ao=>
         (cat ao (⟨#[116,114,121,32,123,10]⟩:BA)).bind fun ap=>
         (cat b (⟨#[9]⟩:BA)).bind fun aq=>
         (cat b (⟨#[9]⟩:BA)).bind fun ar=>
         (r_p03_block c.e aq).bind fun x=>
         (cat ap x).bind fun au=>
         (cat au b).bind fun av=>
         (cat av (⟨#[125,32,99,97,116,99,104,32]⟩:BA)).bind fun aw=>
         (cat aw c.b).bind fun ax=>
         (cat ax (⟨#[32,123,10]⟩:BA)).bind fun ay=>
         (r_p03_block c.i ar).bind fun z=>
         (cat ay z).bind fun az=>
         (cat az b).bind fun aA=>
         (cat aA (⟨#[125,10]⟩:BA)).bind fun aB=>
         lK fu r_p03_block b d (e+1) aB
        else
         lK fu r_p03_block b d (e+1) a
  ) (fun o=>some (.out o))
 ) (fun o=>some (.out o))
def zX (fu:Nat)(r_p03_block:uT)(b:(List Gs))(c:BA):Option BA:=(lK fu r_p03_block c b 0 (⟨#[]⟩:BA)).bind fun d=>d.el (fun a=>some a) (fun o=>some o)
def EU:Nat→((List Gs)→BA→Option (BA))
 | 0=>(fun _ _=>none)
 | fu+1=>zX fu (EU fu)
def ou (fu:Nat):=(EU fu)
theorem MF (fu:Nat)(r_p03_block:uT)(H_p03_block:AR r_p03_block):AR (zX fu r_p03_block):=by
 intro w0 dM D x1 e z r0 hP hM;unfold zX at hM;have c:=hP.bx;clear hP;generalize hG:mQ _=G at c ⊢;refine cf func64 r ?_;refine lH [(0,Z e D z),(1,T x1)] ⟨r,r,y⟩ fun dN=>?_;refine q (g (s (mP r) (n (q (g (s (mP r) (n (q (q (g (s (qw r) (s (mV CF r) (s (mi r) ?_)))))))))))));refine n ?_;have cr:=(c.dl 0 r).bd;obtain ⟨Y1,a,hM⟩:=bs hM;refine oD (fun f w=>∃ (A:BA),Has f [(5,T A)]/\Bx w0 w dM G [] [.l e z D]/\Ld.go A=Y1) (fun J1 bB=>?_) ?_
 ·refine qb (kM (fun dO f w=>∃ (C:Nat)(A:BA),dO=D.length - C/\C<=D.length/\Has f [(12,V (C:Int)),(1,T x1),(5,T A),(10,Z e D z),(11,V (D.length:Int))]/\Bx w0 w dM G [] [.l e z D]/\lK fu r_p03_block x1 (D.drop C) C A=some Y1) D.length ⟨0,(⟨#[]⟩:BA),r,uS _,⟨r,r,r,r,r,y⟩,c,a⟩ ?_);clear c a;rintro dO f w ⟨C,A,rfl,ct,hf,c,a⟩ K1 H;obtain ⟨dN,rfl⟩:=ng hf;rcases wY C D.length with ai | ai
  ·obtain ⟨b,a2⟩:=mU (l:=D) ai;rw [mR a2,lK] at a;obtain ⟨cu,bC,c⟩:=c.nm 0 rfl a2;obtain ⟨h,j,m,o,p,t,u,v,rfl,aj,ak,al,am⟩:=jB.out bC;replace c:=c.jZ (d:=.l h j b.d) aj;replace c:=c.jZ (d:=.l m o b.a) ak;replace c:=c.jZ (d:=.l p t b.e) al;replace c:=c.jZ (d:=.l u v b.i) am;refine q (g (s (sO r r (by omega)) (n (q (jK r (wk (q (qb (q (g (s (lu CF jR r r r (c.dl 5 r) a2) (s (jQ [V b.c,V b.f,V b.n,T b.b,T b.j,V b.m,V b.g,Z h b.d j,T b.k,V b.h,Z m b.a o,Z p b.e t,Z u b.i v] mh r jR r r (c.dc 4 r)) (l5 (kD c (jP jR)) ?_)))))))))))));rintro _ w3 ⟨S,rfl,c⟩;refine lg (tb c 0 [V b.c,V b.f,V b.n,T b.b,T b.j,V b.m,V b.g,Z h b.d j,T b.k,V b.h,Z m b.a o,Z p b.e t,Z u b.i v] r jR r r r r r (show _=#[V b.c,V b.f,V b.n,T b.b,T b.j,V b.m,V b.g,Z h b.d j,T b.k,V b.h,Z m b.a o,Z p b.e t,Z u b.i v] from r)) ?_;intro w4 c;try dsimp only [List.set] at c
   refine n (q (g (s (mP r) (n (q ?_)))));obtain ⟨Y5,E,a⟩:=bs a;refine oD (fun f w=>∃ (N:BA),Has f [(1,T x1),(5,T A),(7,Pt S),(8,T N),(10,Z e D z),(11,V (D.length:Int)),(12,V (C:Int))]/\Bx w0 w dM G [.box S 115 #[V b.c,V b.f,V b.n,T b.b,T b.j,V b.m,V b.g,Z h b.d j,T b.k,V b.h,Z m b.a o,Z p b.e t,Z u b.i v]] [.l u v b.i,.l p t b.e,.l m o b.a,.l h j b.d,.at (nk e) (nX e+C * sz Gs) [V b.c,V b.f,V b.n,T b.b,T b.j,V b.m,V b.g,Z h b.d j,T b.k,V b.h,Z m b.a o,Z p b.e t,Z u b.i v],.l e z D]/\Ld.go N=Y5) (fun J5 an=>?_) ?_
   ·unfold xP at E;refine q (g (s (y8 r) (s (DI r (c.bk 0 r) r) (s (mV uH r) (s (vJ r r) (n ?_))))));rcases iv E with ⟨h6,E⟩|⟨h6,E⟩
    ·refine jK (bt h6) (g (s (y8 r) (s (DI r (c.bk 0 r) r) ?_)));obtain ⟨e7,R,E⟩:=bs E;obtain ⟨k7,bE,R⟩:=lq R;obtain ⟨cw,bF,c⟩:=c.nm 3 rfl R;obtain ⟨U,W,rfl,ao⟩:=jA.out bF;replace c:=c.jZ (d:=.l U W e7.a) ao;refine s (lu uH jS r r bE (c.dl 5 r) R) (s (jQ [V e7.e,V e7.d,V e7.g,T e7.b,T e7.c,Z U e7.a W] nI r jS r r (c.dc 1 r)) ?_);obtain ⟨cq,h9,E⟩:=bs E;have hc:=(Iy fu) (c.pr [] [0] [0] r)  h9;refine sc (ec Iw r) hc ?_;rintro _ w9 ⟨rfl,F⟩;replace c:=c.cl [] [0] r F r;try dsimp only [pick,nth,ca,na] at c
     obtain ⟨bG,ap,E⟩:=bs E;refine s (lV r r ap) (s (mP r) (n ?_));exact an _ _ ⟨bG,⟨r,r,r,r,r,r,r,y⟩,c.dp [2,3,4,5,6,7],sm E⟩
    refine jD (bf h6) (wk ?_);exact an _ _ ⟨(⟨#[]⟩:BA),⟨r,r,r,r,r,r,r,y⟩,c,sm E⟩
   clear c;rintro f w ⟨N,hf,c,bH⟩;obtain ⟨dN,rfl⟩:=ng hf;subst bH;replace a:=gi a;refine q (g (s (ze r) (s (l3 r (c.bk 0 r) r) (n (qb (q (g (s (kH r r) (s (kG r) (n ?_))))))))));rcases iv a with ⟨a4,a⟩|⟨a4,a⟩
   ·refine jK (bt a4) (q (g (s (Jh r) (s (l9 r (c.bk 0 r) r) (s (mP r) (n (q ?_)))))));obtain ⟨bI,I,a⟩:=bs a;refine oD (fun f w=>∃ (K:BA),Has f [(1,T x1),(5,T A),(7,Pt S),(9,T K),(10,Z e D z),(11,V (D.length:Int)),(12,V (C:Int))]/\Bx w0 w dM G [.box S 115 #[V b.c,V b.f,V b.n,T b.b,T b.j,V b.m,V b.g,Z h b.d j,T b.k,V b.h,Z m b.a o,Z p b.e t,Z u b.i v]] [.l u v b.i,.l p t b.e,.l m o b.a,.l h j b.d,.at (nk e) (nX e+C * sz Gs) [V b.c,V b.f,V b.n,T b.b,T b.j,V b.m,V b.g,Z h b.d j,T b.k,V b.h,Z m b.a o,Z p b.e t,Z u b.i v],.l e z D]/\Ld.go K=bI) (fun cy X=>?_) ?_
    ·unfold x9 at I;refine q (g (s (lF r) (s (rY r r) (n ?_))));rcases iv I with ⟨a5,I⟩|⟨a5,I⟩
     ·refine jK (bt a5) (g (s (mP r) (n ?_)));exact X _ _ ⟨(⟨#[105,110,116]⟩:BA),⟨r,r,r,r,r,r,r,y⟩,c,sm I⟩
     refine jD (bf a5) (wk ?_);exact X _ _ ⟨b.j,⟨r,r,r,r,r,r,r,y⟩,c,sm I⟩
    clear c;rintro f w ⟨K,hf,c,aq⟩;obtain ⟨dN,rfl⟩:=ng hf;subst aq;replace a:=gi a;refine q ?_;obtain ⟨bJ,B,a⟩:=bs a;refine oD (fun f w=>∃ (L:BA),Has f [(1,T x1),(5,T A),(7,Pt S),(9,T L),(10,Z e D z),(11,V (D.length:Int)),(12,V (C:Int))]/\Bx w0 w dM G [.box S 115 #[V b.c,V b.f,V b.n,T b.b,T b.j,V b.m,V b.g,Z h b.d j,T b.k,V b.h,Z m b.a o,Z p b.e t,Z u b.i v]] [.l u v b.i,.l p t b.e,.l m o b.a,.l h j b.d,.at (nk e) (nX e+C * sz Gs) [V b.c,V b.f,V b.n,T b.b,T b.j,V b.m,V b.g,Z h b.d j,T b.k,V b.h,Z m b.a o,Z p b.e t,Z u b.i v],.l e z D]/\Ld.go L=bJ) (fun cz Y=>?_) ?_
    ·unfold yM at B;refine q (g (s (DJ r) (s (l3 r (c.bk 0 r) r) (s (vJ r r) (n ?_)))));rcases iv B with ⟨a6,B⟩|⟨a6,B⟩
     ·refine jK (bt a6) (g (s (DJ r) (s (l3 r (c.bk 0 r) r) ?_)));obtain ⟨bK,bL,B⟩:=bs B;have hc:=(Cq fu) (c.pr [] [0] [] r)  bL;refine sc (ec LJ r) hc ?_;rintro _ cA ⟨rfl,F⟩;replace c:=c.cl [] [0] r F r;try dsimp only [pick,nth,ca,na] at c
      obtain ⟨cB,ar,B⟩:=bs B;refine s (lV r r ar) ?_;obtain ⟨bM,au,B⟩:=bs B;refine s (lV r r au) (s (mP r) (n ?_));exact Y _ _ ⟨bM,⟨r,r,r,r,r,r,r,y⟩,c,sm B⟩
     refine jD (bf a6) (wk ?_);exact Y _ _ ⟨K,⟨r,r,r,r,r,r,r,y⟩,c,sm B⟩
    clear c;rintro f w ⟨L,hf,c,av⟩;obtain ⟨dN,rfl⟩:=ng hf;subst av;replace a:=gi a;refine g (s (lF r) (s (lF r) ?_));obtain ⟨cC,aw,a⟩:=bs a;refine s (lV r r aw) ?_;obtain ⟨cD,ax,a⟩:=bs a;refine s (lV r r ax) (s (BD r) (s (l9 r (c.bk 0 r) r) ?_));obtain ⟨cE,ay,a⟩:=bs a;refine s (lV r r ay) ?_;obtain ⟨cF,az,a⟩:=bs a;refine s (lV r r az) (s (lF r) ?_);obtain ⟨cG,aA,a⟩:=bs a;refine s (lV r r aA) ?_;obtain ⟨bN,aB,a⟩:=bs a;refine s (lV r r aB) (s (mP r) (n (g (s (mE r r (by omega) (by omega)) (s (mi r) (n ?_))))));exact H (D.length - (C+1)) _ _ (by omega) ⟨C+1,bN,r,by omega,⟨r,r,r,r,r,y⟩,c.ad [] [5],a⟩
   refine jD (bf a4) (q ?_);obtain ⟨bO,J,a⟩:=bs a;refine oD (fun f w=>∃ (M:Bool),Has f [(1,T x1),(5,T A),(7,Pt S),(8,T N),(10,Z e D z),(11,V (D.length:Int)),(12,V (C:Int)),(27,V b.c),(53,.bool M)]/\Bx w0 w dM G [.box S 115 #[V b.c,V b.f,V b.n,T b.b,T b.j,V b.m,V b.g,Z h b.d j,T b.k,V b.h,Z m b.a o,Z p b.e t,Z u b.i v]] [.l u v b.i,.l p t b.e,.l m o b.a,.l h j b.d,.at (nk e) (nX e+C * sz Gs) [V b.c,V b.f,V b.n,T b.b,T b.j,V b.m,V b.g,Z h b.d j,T b.k,V b.h,Z m b.a o,Z p b.e t,Z u b.i v],.l e z D]/\Ld.go M=bO) (fun cH a0=>?_) ?_
   ·unfold yI at J;refine q (g (s (kH r r) (s (kG r) (n ?_))));rcases iv J with ⟨a7,J⟩|⟨a7,J⟩
    ·refine jK (bt a7) (wk ?_);exact a0 _ _ ⟨decide (b.c=2),⟨r,r,r,r,r,r,r,r,r,y⟩,c,sm J⟩
    refine jD (bf a7) (g (s (kH r r) (s (kG r) (n ?_))));exact a0 _ _ ⟨decide (b.c=3),⟨r,r,r,r,r,r,r,r,r,y⟩,c,sm J⟩
   clear c;rintro f w ⟨M,hf,c,aC⟩;obtain ⟨dN,rfl⟩:=ng hf;subst aC;replace a:=gi a;rcases iv a with ⟨Q,a⟩|⟨Q,a⟩
   ·refine jK (cb Q) (g (s (lF r) (s (lF r) ?_)));obtain ⟨cI,aD,a⟩:=bs a;refine s (lV r r aD) (s (lF r) ?_);obtain ⟨cJ,aE,a⟩:=bs a;refine s (lV r r aE) (s (jQ [V b.c,V b.f,V b.n,T b.b,T b.j,V b.m,V b.g,Z h b.d j,T b.k,V b.h,Z m b.a o,Z p b.e t,Z u b.i v] mh r jR r r (Cells.part (c.bk 0 r).cells (o2:=0) r)) ?_);obtain ⟨bP,bQ,a⟩:=bs a;have hc:=(vS fu) (c.pr [] [0] [3,2,1,0] r)  bQ;refine sc (ec LX r) hc ?_;rintro _ cK ⟨rfl,F⟩;replace c:=c.cl [] [0] r F r;try dsimp only [pick,nth,ca,na] at c
    obtain ⟨cL,aG,a⟩:=bs a;refine s (lV r r aG) ?_;obtain ⟨bR,aH,a⟩:=bs a;refine s (lV r r aH) (s (mP r) (n (g (s (mE r r (by omega) (by omega)) (s (mi r) (n ?_))))));exact H (D.length - (C+1)) _ _ (by omega) ⟨C+1,bR,r,by omega,⟨r,r,r,r,r,y⟩,c.ad [] [5],a⟩
   refine jD (wV Q) (q (g (s (kH r r) (s (kG r) (n ?_)))));rcases iv a with ⟨a8,a⟩|⟨a8,a⟩
   ·refine jK (bt a8) (g (s (lF r) (s (lF r) ?_)));obtain ⟨cM,aI,a⟩:=bs a;refine s (lV r r aI) ?_;obtain ⟨cN,aJ,a⟩:=bs a;refine s (lV r r aJ) (s (jQ [V b.c,V b.f,V b.n,T b.b,T b.j,V b.m,V b.g,Z h b.d j,T b.k,V b.h,Z m b.a o,Z p b.e t,Z u b.i v] mh r jR r r (Cells.part (c.bk 0 r).cells (o2:=0) r)) ?_);obtain ⟨bS,bT,a⟩:=bs a;have hc:=(vS fu) (c.pr [] [0] [3,2,1,0] r)  bT;refine sc (ec LX r) hc ?_;rintro _ cO ⟨rfl,F⟩;replace c:=c.cl [] [0] r F r;try dsimp only [pick,nth,ca,na] at c
    obtain ⟨cP,aK,a⟩:=bs a;refine s (lV r r aK) ?_;obtain ⟨bU,aL,a⟩:=bs a;refine s (lV r r aL) (s (mP r) (n (g (s (mE r r (by omega) (by omega)) (s (mi r) (n ?_))))));exact H (D.length - (C+1)) _ _ (by omega) ⟨C+1,bU,r,by omega,⟨r,r,r,r,r,y⟩,c.ad [] [5],a⟩
   refine jD (bf a8) (q (g (s (kH r r) (s (kG r) (n ?_)))));rcases iv a with ⟨a9,a⟩|⟨a9,a⟩
   ·refine jK (bt a9) (g (s (lF r) (s (lF r) ?_)));obtain ⟨cQ,aM,a⟩:=bs a;refine s (lV r r aM) ?_;obtain ⟨cR,aN,a⟩:=bs a;refine s (lV r r aN) (s (jQ [V b.c,V b.f,V b.n,T b.b,T b.j,V b.m,V b.g,Z h b.d j,T b.k,V b.h,Z m b.a o,Z p b.e t,Z u b.i v] mh r jR r r (Cells.part (c.bk 0 r).cells (o2:=0) r)) ?_);obtain ⟨bV,bW,a⟩:=bs a;have hc:=(vS fu) (c.pr [] [0] [3,2,1,0] r)  bW;refine sc (ec LX r) hc ?_;rintro _ cS ⟨rfl,F⟩;replace c:=c.cl [] [0] r F r;try dsimp only [pick,nth,ca,na] at c
    obtain ⟨cT,aO,a⟩:=bs a;refine s (lV r r aO) ?_;obtain ⟨bX,aP,a⟩:=bs a;refine s (lV r r aP) (s (mP r) (n (g (s (mE r r (by omega) (by omega)) (s (mi r) (n ?_))))));exact H (D.length - (C+1)) _ _ (by omega) ⟨C+1,bX,r,by omega,⟨r,r,r,r,r,y⟩,c.ad [] [5],a⟩
   refine jD (bf a9) (q (g (s (kH r r) (s (kG r) (n ?_)))));rcases iv a with ⟨aa,a⟩|⟨aa,a⟩
   ·refine jK (bt aa) (g (s (lF r) (s (lF r) ?_)));obtain ⟨cU,aQ,a⟩:=bs a;refine s (lV r r aQ) ?_;obtain ⟨cV,aR,a⟩:=bs a;refine s (lV r r aR) (s (jQ [V b.c,V b.f,V b.n,T b.b,T b.j,V b.m,V b.g,Z h b.d j,T b.k,V b.h,Z m b.a o,Z p b.e t,Z u b.i v] mh r jR r r (Cells.part (c.bk 0 r).cells (o2:=0) r)) ?_);obtain ⟨bY,bZ,a⟩:=bs a;have hc:=(vS fu) (c.pr [] [0] [3,2,1,0] r)  bZ;refine sc (ec LX r) hc ?_;rintro _ cW ⟨rfl,F⟩;replace c:=c.cl [] [0] r F r;try dsimp only [pick,nth,ca,na] at c
    obtain ⟨cX,aS,a⟩:=bs a;refine s (lV r r aS) ?_;obtain ⟨c0,aT,a⟩:=bs a;refine s (lV r r aT) (s (mP r) (n (g (s (mE r r (by omega) (by omega)) (s (mi r) (n ?_))))));exact H (D.length - (C+1)) _ _ (by omega) ⟨C+1,c0,r,by omega,⟨r,r,r,r,r,y⟩,c.ad [] [5],a⟩
   refine jD (bf aa) (q (g (s (kH r r) (s (kG r) (n ?_)))));rcases iv a with ⟨ab,a⟩|⟨ab,a⟩
   ·refine jK (bt ab) (q (qG c [0] [] [] (by kernel_rfl) ?_));replace c:=c.drew;have x:=c.dp [];refine pF 0 r (lF r) x (pF 1 r (lF r) x ?_);obtain ⟨cY,aU,a⟩:=bs a;refine pF 2 r (lV r r aU) x ?_;obtain ⟨cZ,aV,a⟩:=bs a;refine pF 3 r (lV r r aV) x (uF 4 r (fun hS=>jQ [V b.c,V b.f,V b.n,T b.b,T b.j,V b.m,V b.g,Z h b.d j,T b.k,V b.h,Z m b.a o,Z p b.e t,Z u b.i v] mh r jR r r (Cells.part (hS.bk 0 r).cells (o2:=0) r)) x (pF 8 r (yx r) x (uF 9 r (fun hS=>Td r (hS.bk 0 r) r) x (pF 10 r (lF r) x ?_))));obtain ⟨d0,aW,a⟩:=bs a;refine pF 11 r (lV r r aW) x ?_;obtain ⟨c1,c2,a⟩:=bs a;have hc:=(vS fu) (c.pr [] [0] [3,2,1,0] r)  c2;refine hO 5 (oc r r (ec LX r) hc ?_);rintro _ d1 ⟨rfl,F⟩;replace c:=c.cl [] [0] r F r;try dsimp only [pick,nth,ca,na] at c
    have x:=c.dp [];refine ⟨sF x,?_⟩;obtain ⟨d2,aX,a⟩:=bs a;refine pF 6 r (lV r r aX) x ?_;obtain ⟨d3,aY,a⟩:=bs a;refine pF 7 r (lV r r aY) x ?_;obtain ⟨c3,c4,a⟩:=bs a;have hc:=H_p03_block (c.pr [] [0] [1] r)  c4;refine hO 12 (oc r r (ec LU r) hc ?_);rintro _ d4 ⟨rfl,F⟩;replace c:=c.cl [] [0] r F r;try dsimp only [pick,nth,ca,na] at c
    have x:=c.dp [];refine ⟨sF x,?_⟩;obtain ⟨d5,aZ,a⟩:=bs a;refine pF 13 r (lV r r aZ) x (pF 14 r (mP r) x (hD (q (q (g (s (xU r) (s (Td r (c.bk 0 r) r) (s (mV CF r) (s (vJ r r) (n ?_))))))))));rcases iv a with ⟨ac,a⟩|⟨ac,a⟩
    ·refine jK (bt ac) (g (s (lF r) (s (lF r) ?_)));obtain ⟨d6,b0,a⟩:=bs a;refine s (lV r r b0) ?_;obtain ⟨d7,b1,a⟩:=bs a;refine s (lV r r b1) (s (xU r) (s (Td r (c.bk 0 r) r) (s (lF r) ?_)));obtain ⟨d8,b2,a⟩:=bs a;refine s (lV r r b2) ?_;obtain ⟨c5,c6,a⟩:=bs a;have hc:=H_p03_block (c.pr [] [0] [0] r)  c6;refine sc (ec LU r) hc ?_;rintro _ TH ⟨rfl,F⟩;replace c:=c.cl [] [0] r F r;try dsimp only [pick,nth,ca,na] at c
     obtain ⟨d9,b4,a⟩:=bs a;refine s (lV r r b4) (s (mP r) (n (g (s (lF r) (s (lF r) ?_)))));obtain ⟨da,b5,a⟩:=bs a;refine s (lV r r b5) ?_;obtain ⟨c7,b6,a⟩:=bs a;refine s (lV r r b6) (s (mP r) (n (g (s (mE r r (by omega) (by omega)) (s (mi r) (n ?_))))));exact H (D.length - (C+1)) _ _ (by omega) ⟨C+1,c7,r,by omega,⟨r,r,r,r,r,y⟩,c.ad [] [5],a⟩
    refine jD (bf ac) (wk (g (s (lF r) (s (lF r) ?_))));obtain ⟨db,b7,a⟩:=bs a;refine s (lV r r b7) ?_;obtain ⟨c8,b8,a⟩:=bs a;refine s (lV r r b8) (s (mP r) (n (g (s (mE r r (by omega) (by omega)) (s (mi r) (n ?_))))));exact H (D.length - (C+1)) _ _ (by omega) ⟨C+1,c8,r,by omega,⟨r,r,r,r,r,y⟩,c.ad [] [5],a⟩
   refine jD (bf ab) (q (g (s (kH r r) (s (kG r) (n ?_)))));rcases iv a with ⟨ae,a⟩|⟨ae,a⟩
   ·refine jK (bt ae) (qG c [0] [] [] (by kernel_rfl) ?_);replace c:=c.drew;have x:=c.dp [];refine pF 0 r (lF r) x (pF 1 r (lF r) x ?_);obtain ⟨dd,b9,a⟩:=bs a;refine pF 2 r (lV r r b9) x ?_;obtain ⟨de,ba,a⟩:=bs a;refine pF 3 r (lV r r ba) x (uF 4 r (fun hS=>jQ [V b.c,V b.f,V b.n,T b.b,T b.j,V b.m,V b.g,Z h b.d j,T b.k,V b.h,Z m b.a o,Z p b.e t,Z u b.i v] mh r jR r r (Cells.part (hS.bk 0 r).cells (o2:=0) r)) x (pF 8 r (yx r) x (uF 9 r (fun hS=>Td r (hS.bk 0 r) r) x (pF 10 r (lF r) x ?_))));obtain ⟨df,bb,a⟩:=bs a;refine pF 11 r (lV r r bb) x (pF 14 r (lF r) x ?_);obtain ⟨c9,cc,a⟩:=bs a;have hc:=(vS fu) (c.pr [] [0] [3,2,1,0] r)  cc;refine hO 5 (oc r r (ec LX r) hc ?_);rintro _ dg ⟨rfl,F⟩;replace c:=c.cl [] [0] r F r;try dsimp only [pick,nth,ca,na] at c
    have x:=c.dp [];refine ⟨sF x,?_⟩;obtain ⟨dh,bc,a⟩:=bs a;refine pF 6 r (lV r r bc) x ?_;obtain ⟨di,bg,a⟩:=bs a;refine pF 7 r (lV r r bg) x ?_;obtain ⟨cd,ce,a⟩:=bs a;have hc:=H_p03_block (c.pr [] [0] [1] r)  ce;refine hO 12 (oc r r (ec LU r) hc ?_);rintro _ dj ⟨rfl,F⟩;replace c:=c.cl [] [0] r F r;try dsimp only [pick,nth,ca,na] at c
    have x:=c.dp [];refine ⟨sF x,?_⟩;obtain ⟨dk,bh,a⟩:=bs a;refine pF 13 r (lV r r bh) x ?_;obtain ⟨dm,bi,a⟩:=bs a;refine pF 15 r (lV r r bi) x ?_;obtain ⟨cg,bj,a⟩:=bs a;refine pF 16 r (lV r r bj) x (pF 17 r (mP r) x (hD (g (s (mE r r (by omega) (by omega)) (s (mi r) (n ?_))))));exact H (D.length - (C+1)) _ _ (by omega) ⟨C+1,cg,r,by omega,⟨r,r,r,r,r,y⟩,c.ad [] [5],a⟩
   refine jD (bf ae) (q (g (s (kH r r) (s (kG r) (n ?_)))));rcases iv a with ⟨af,a⟩|⟨af,a⟩
   ·refine jK (bt af) (qG c [0] [] [] (by kernel_rfl) ?_);replace c:=c.drew;have x:=c.dp [];refine pF 0 r (lF r) x (pF 1 r (lF r) x ?_);obtain ⟨dn,bl,a⟩:=bs a;refine pF 2 r (lV r r bl) x ?_;obtain ⟨dq,bm,a⟩:=bs a;refine pF 3 r (lV r r bm) x (pF 4 r (yx r) x (uF 5 r (fun hS=>Td r (hS.bk 0 r) r) x (pF 6 r (lF r) x ?_)));obtain ⟨dr,bn,a⟩:=bs a;refine pF 7 r (lV r r bn) x (pF 10 r (lF r) x (pF 13 r (BD r) x (uF 14 r (fun hS=>l9 r (hS.bk 0 r) r) x (pF 17 r (xU r) x (uF 18 r (fun hS=>Td r (hS.bk 0 r) r) x (pF 19 r (lF r) x ?_))))));obtain ⟨dt,bo,a⟩:=bs a;refine pF 20 r (lV r r bo) x (pF 23 r (lF r) x ?_);obtain ⟨ch,ci,a⟩:=bs a;have hc:=H_p03_block (c.pr [] [0] [1] r)  ci;refine hO 8 (oc r r (ec LU r) hc ?_);rintro _ du ⟨rfl,F⟩;replace c:=c.cl [] [0] r F r;try dsimp only [pick,nth,ca,na] at c
    have x:=c.dp [];refine ⟨sF x,?_⟩;obtain ⟨dv,bp,a⟩:=bs a;refine pF 9 r (lV r r bp) x ?_;obtain ⟨dw,bq,a⟩:=bs a;refine pF 11 r (lV r r bq) x ?_;obtain ⟨dx,br,a⟩:=bs a;refine pF 12 r (lV r r br) x ?_;obtain ⟨dy,bu,a⟩:=bs a;refine pF 15 r (lV r r bu) x ?_;obtain ⟨dz,bv,a⟩:=bs a;refine pF 16 r (lV r r bv) x ?_;obtain ⟨cj,ck,a⟩:=bs a;have hc:=H_p03_block (c.pr [] [0] [0] r)  ck;refine hO 21 (oc r r (ec LU r) hc ?_);rintro _ dA ⟨rfl,F⟩;replace c:=c.cl [] [0] r F r;try dsimp only [pick,nth,ca,na] at c
    have x:=c.dp [];refine ⟨sF x,?_⟩;obtain ⟨dB,bw,a⟩:=bs a;refine pF 22 r (lV r r bw) x ?_;obtain ⟨dC,bz,a⟩:=bs a;refine pF 24 r (lV r r bz) x ?_;obtain ⟨cm,bA,a⟩:=bs a;refine pF 25 r (lV r r bA) x (pF 26 r (mP r) x (hD (g (s (mE r r (by omega) (by omega)) (s (mi r) (n ?_))))));exact H (D.length - (C+1)) _ _ (by omega) ⟨C+1,cm,r,by omega,⟨r,r,r,r,r,y⟩,c.ad [] [5],a⟩
   refine jD (bf af) (wk (g (s (mE r r (by omega) (by omega)) (s (mi r) (n ?_)))));exact H (D.length - (C+1)) _ _ (by omega) ⟨C+1,A,r,by omega,⟨r,r,r,r,r,y⟩,c.ad [] [5],a⟩
  obtain rfl:C=D.length:=by omega
  rw [lU,lK] at a;refine q (g (s (sM r r (by omega)) (n (q (jD r (vE ?_))))));exact bB _ _ ⟨A,⟨r,y⟩,c,sm a⟩
 clear c;rintro f w ⟨A,hf,c,cn⟩;obtain ⟨dN,rfl⟩:=ng hf;subst cn;replace hM:=gi hM;refine q (g (s (lF r) (s (mP r) (n (lS ?_)))));obtain rfl:=sm hM;refine jI r (nu r) ?_;exact ⟨r,c.dp []⟩
theorem KY (fu:Nat):AR (ou fu):=by
 induction fu with
 | zero=>exact by intro a b;intros;(try intro _);intros;exact nn (by assumption)
 | succ fu ih=>exact MF fu (ou fu) ih
theorem Nk (fu:Nat):AR (ou fu):=(KY fu)
def MN (m:jV->Option BA):Prop:=∀ {f i}{e:jV}{a b c d h},Pre f i [] [.l a b e.a,.l c d e.b]->m e=some h-> Calls prog 33 #[.agg #[Z a e.a b,Z c e.b d]] f (sW fun v w=>v=T h/\Bx f w i (mQ []) [] [])
def ql (fu:Nat):List Gr→Nat→BA→Option (Ld (BA) (BA))
 | [],_,a=>some (.go a)
 | e :: f,h,a=>
 (cat a (⟨#[114,101,99,111,114,100,32]⟩:BA)).bind fun i=>
 (cat i e.b).bind fun j=>
 (cat j (⟨#[32,123,32]⟩:BA)).bind fun k=>
 (xw fu e.a).bind fun b=>
 (cat k b).bind fun c=>
 (cat c (⟨#[32,125,10]⟩:BA)).bind fun d=>
 ql fu f (h+1) d
def qY (fu:Nat):List Gn→Nat→BA→Option (Ld (BA) (BA))
 | [],_,a=>some (.go a)
 | b :: e,f,a=>
 (cat a (⟨#[102,117,110,99,32]⟩:BA)).bind fun h=>
 (cat h b.b).bind fun i=>
 (cat i (⟨#[40]⟩:BA)).bind fun j=>
 (xw fu b.a).bind fun c=>
 (cat j c).bind fun k=>
 (cat k (⟨#[41,32,123,10]⟩:BA)).bind fun l=>
 (ou fu b.e (⟨#[9]⟩:BA)).bind fun d=>
 (cat l d).bind fun m=>
 (cat m (⟨#[125,10]⟩:BA)).bind fun o=>
 qY fu e (f+1) o
def zM (fu:Nat)(c:jV):Option BA:=(ql fu c.a 0 (⟨#[]⟩:BA)).bind fun d=>d.el (fun b=>(qY fu c.b 0 b).bind fun d=>d.el (fun a=>some a) (fun o=>some o)) (fun o=>some o)
theorem NQ (fu:Nat):MN (zM fu):=by
 intro w0 b3 o u v e h r0 hP H;unfold zM at H;have b:=hP.bx;clear hP;generalize hG:mQ _=G at b ⊢;refine cf func33 r ?_;refine lH [(0,.agg #[Z u o.a v,Z e o.b h])] ⟨r,y⟩ fun b5=>?_;refine q (g (l5 (kD b (uM r)) ?_));rintro _ w1 ⟨b1,rfl,b⟩;refine s (mP r) (n (q (g (s (mP r) (n (q (q (g (s (GL r) (s (YD r (b.bk 0 r) r) (s (mV KN r) (s (mi r) (n ?_)))))))))))));have ay:=(b.dl 0 r).bd;obtain ⟨Y2,c,H⟩:=bs H;refine oD (fun f w=>∃ (p:BA),Has f [(1,Pt b1),(3,T p)]/\Bx w0 w b3 G [.box b1 26 #[Z u o.a v,Z e o.b h]] [.l u v o.a,.l e h o.b]/\Ld.go p=Y2) (fun J2 ac=>?_) ?_
 ·refine qb (kM (fun b6 f w=>∃ (I:Nat)(p:BA),b6=o.a.length - I/\I<=o.a.length/\Has f [(11,V (I:Int)),(1,Pt b1),(3,T p),(9,Z u o.a v),(10,V (o.a.length:Int))]/\Bx w0 w b3 G [.box b1 26 #[Z u o.a v,Z e o.b h]] [.l u v o.a,.l e h o.b]/\ql fu (o.a.drop I) I p=some Y2) o.a.length ⟨0,(⟨#[]⟩:BA),r,uS _,⟨r,r,r,r,r,y⟩,b,c⟩ ?_);clear b c;rintro b6 f w ⟨I,p,rfl,az,hf,b,c⟩ K2 ae;obtain ⟨b5,rfl⟩:=ng hf;rcases wY I o.a.length with Q | Q
  ·obtain ⟨K,L⟩:=mU (l:=o.a) Q;rw [mR L,ql] at c;obtain ⟨aA,af,b⟩:=b.nm 0 rfl L;obtain ⟨D,E,rfl,R⟩:=kr.out af;replace b:=b.jZ (d:=.l D E K.a) R;refine q (g (s (sO r r (by omega)) (n (q (jK r (wk (q (qb (q (g (s (lu KN yE r r r (b.dl 2 r) L) (s (jQ [T K.b,Z D K.a E] R4 r yE r r (b.dc 1 r)) (l5 (kD b (jP yE)) ?_)))))))))))));rintro _ w4 ⟨b4,rfl,b⟩;refine lg (tb b 0 [T K.b,Z D K.a E] r yE r r r r r (show _=#[T K.b,Z D K.a E] from r)) ?_;intro w5 b;try dsimp only [List.set] at b
   refine n (qG b [0] [] [] (by kernel_rfl) ?_);replace b:=b.drew;have m:=b.ad [0] [];refine pF 0 r (lF r) m ?_;obtain ⟨g6,ag,c⟩:=bs c;refine pF 1 r (lV r r ag) m (pF 2 r (MI r) m (uF 3 r (fun hS=>l9 r (hS.bk 0 r) r) m ?_));obtain ⟨g7,ah,c⟩:=bs c;refine pF 4 r (lV r r ah) m ?_;obtain ⟨g8,ai,c⟩:=bs c;refine pF 5 r (lV r r ai) m (pF 6 r (Em r) m (uF 7 r (fun hS=>BO r (hS.bk 0 r) r) m ?_));obtain ⟨au,h9,c⟩:=bs c;have hc:=(Gf fu) (b.pr [] [0,1] [0] r)  h9;refine hO 8 (oc r r (ec Yo r) hc ?_);rintro _ w9 ⟨rfl,S⟩;replace b:=b.cl [] [0,1] r S r;try dsimp only [pick,nth,ca,na] at b
   have m:=b.ad [0] [];refine ⟨sF m,?_⟩;obtain ⟨aC,U,c⟩:=bs c;refine pF 9 r (lV r r U) m ?_;obtain ⟨aj,W,c⟩:=bs c;refine pF 10 r (lV r r W) m (pF 11 r (mP r) m (hD (g (s (mE r r (by omega) (by omega)) (s (mi r) (n ?_))))));exact ae (o.a.length - (I+1)) _ _ (by omega) ⟨I+1,aj,r,by omega,⟨r,r,r,r,r,y⟩,b.ad [1] [2,3],c⟩
  obtain rfl:I=o.a.length:=by omega
  rw [lU,ql] at c;refine q (g (s (sM r r (by omega)) (n (q (jD r (vE ?_))))));exact ac _ _ ⟨p,⟨r,r,y⟩,b,sm c⟩
 clear b;rintro f w ⟨p,hf,b,ak⟩;obtain ⟨b5,rfl⟩:=ng hf;subst ak;replace H:=gi H;refine q (q (g (s (CJ r) (s (TK r (b.bk 0 r) r) (s (mV Fb r) (s (mi r) (n ?_)))))));have av:=(b.dl 1 r).bd;obtain ⟨X,a,H⟩:=bs H;refine oD (fun f w=>∃ (j:BA),Has f [(3,T j)]/\Bx w0 w b3 G [] [.l e h o.b]/\Ld.go j=X) (fun aD Y=>?_) ?_
 ·refine qb (kM (fun b6 f w=>∃ (x:Nat)(j:BA),b6=o.b.length - x/\x<=o.b.length/\Has f [(30,V (x:Int)),(3,T j),(28,Z e o.b h),(29,V (o.b.length:Int))]/\Bx w0 w b3 G [] [.l e h o.b]/\qY fu (o.b.drop x) x j=some X) o.b.length ⟨0,p,r,uS _,⟨r,r,r,r,y⟩,b.ad [] [1],a⟩ ?_);clear b a;rintro b6 f w ⟨x,j,rfl,aw,hf,b,a⟩ aE a0;obtain ⟨b5,rfl⟩:=ng hf;rcases wY x o.b.length with J | J
  ·obtain ⟨t,F⟩:=mU (l:=o.b) J;rw [mR F,qY] at a;obtain ⟨ax,a1,b⟩:=b.nm 0 rfl F;obtain ⟨z,A,B,C,rfl,M,N⟩:=kV.out a1;replace b:=b.jZ (d:=.l z A t.a) M;replace b:=b.jZ (d:=.l B C t.e) N;refine q (g (s (sO r r (by omega)) (n (q (jK r (wk (q (qb (q (g (s (lu Fb nZ r r r (b.dl 3 r) F) (s (jQ [T t.b,V t.f,Z z t.a A,Z B t.e C] IE r nZ r r (b.dc 2 r)) (l5 (kD b (jP nZ)) ?_)))))))))))));rintro _ aF ⟨aG,rfl,b⟩;refine lg (tb b 0 [T t.b,V t.f,Z z t.a A,Z B t.e C] r nZ r r r r r (show _=#[T t.b,V t.f,Z z t.a A,Z B t.e C] from r)) ?_;intro aH b;try dsimp only [List.set] at b
   refine n (qG b [0] [] [] (by kernel_rfl) ?_);replace b:=b.drew;have m:=b.dp [];refine pF 0 r (lF r) m ?_;obtain ⟨aI,a2,a⟩:=bs a;refine pF 1 r (lV r r a2) m (pF 2 r (Pe r) m (uF 3 r (fun hS=>l9 r (hS.bk 0 r) r) m ?_));obtain ⟨aJ,a3,a⟩:=bs a;refine pF 4 r (lV r r a3) m ?_;obtain ⟨aK,a4,a⟩:=bs a;refine pF 5 r (lV r r a4) m (pF 6 r (Kl r) m (uF 7 r (fun hS=>BO r (hS.bk 0 r) r) m (pF 11 r (Gq r) m (uF 12 r (fun hS=>Td r (hS.bk 0 r) r) m ?_))));obtain ⟨al,am,a⟩:=bs a;have hc:=(Gf fu) (b.pr [] [0] [1] r)  am;refine hO 8 (oc r r (ec Yo r) hc ?_);rintro _ aL ⟨rfl,S⟩;replace b:=b.cl [] [0] r S r;try dsimp only [pick,nth,ca,na] at b
   have m:=b.dp [];refine ⟨sF m,?_⟩;obtain ⟨aM,a5,a⟩:=bs a;refine pF 9 r (lV r r a5) m ?_;obtain ⟨aN,a6,a⟩:=bs a;refine pF 10 r (lV r r a6) m ?_;obtain ⟨an,ao,a⟩:=bs a;have hc:=(Nk fu) (b.pr [] [0] [0] r)  ao;refine hO 13 (oc r r (ec LU r) hc ?_);rintro _ aO ⟨rfl,S⟩;replace b:=b.cl [] [0] r S r;try dsimp only [pick,nth,ca,na] at b
   have m:=b.dp [];refine ⟨sF m,?_⟩;obtain ⟨aP,a7,a⟩:=bs a;refine pF 14 r (lV r r a7) m ?_;obtain ⟨ap,a8,a⟩:=bs a;refine pF 15 r (lV r r a8) m (pF 16 r (mP r) m (hD (g (s (mE r r (by omega) (by omega)) (s (mi r) (n ?_))))));exact a0 (o.b.length - (x+1)) _ _ (by omega) ⟨x+1,ap,r,by omega,⟨r,r,r,r,y⟩,b.ad [] [3],a⟩
  obtain rfl:x=o.b.length:=by omega
  rw [lU,qY] at a;refine q (g (s (sM r r (by omega)) (n (q (jD r (vE ?_))))));exact Y _ _ ⟨j,⟨r,y⟩,b,sm a⟩
 clear b;rintro f w ⟨j,hf,b,a9⟩;obtain ⟨b5,rfl⟩:=ng hf;subst a9;replace H:=gi H;refine q (g (s (lF r) (s (mP r) (n (lS ?_)))));obtain rfl:=sm H;refine jI r (nu r) ?_;exact ⟨r,b.dp []⟩
end
end Go.Proofs.YtdkneekpdecjbaaGreat
