/- Contracts, printed by gen3.py. -/
import Derived.Test.YtfglbdkfnphjgaaZt
import Derived.Test.YtfglbdkfnphjgaaLa
set_option linter.unusedVariables false
set_option maxHeartbeats 12800000
set_option linter.unusedSimpArgs false
set_option maxRecDepth 4000
namespace Go.Proofs.Ytfglbdkfnphjgaa
open Go.RowKit Go.Fw
noncomputable section
abbrev yM:=jL→Int→Option (ByteArray)
def AO (m:Ge→Int→Option (BA)):Prop:=∀ {d:World} {h:Nat→Prop} {c:Ge} {e:Int} {a:Option Addr} {b:Nat} {f:BA},Pre d h [] [.l a b c.b]→m c e=some f→
 Calls Try.prog 78 #[.agg #[V c.e,V c.d,V c.j,T c.a,T c.c,Z a c.b b],V e] d (rf fun v w=>v=T f∧Bx d w h (lT []) [] [])
def yY (fu:Nat)(r_r03_Expr:yM) (a:Ge):Option (Ld (Bool) (BA)):=
 if a.e=3 then
  some (.go (decide (0 < (a.b.length:Int))))
 else
  some (.go false)
def yZ (fu:Nat)(r_r03_Expr:yM) (b:Ge) (a:Int):Option (Ld (Bool) (BA)):=
 if a=5 then
  some (.go (decide (0 < (b.b.length:Int))))
 else
  some (.go false)
def zo (fu:Nat)(r_r03_Expr:yM) (a:Int):Option (Ld (Int) (BA)):=
 if a=1 then
  some (.go 2)
 else
  some (.go a)
def yT (fu:Nat)(r_r03_Expr:yM) (a:Ge) (b:Int):Option (Ld (BA) (BA)):=
 if a.e=0 then
  (um fu a.d).bind fun j=>
  some (.go j)
 else
  if a.e=2 then
   (qw a.a (⟨#[46]⟩:BA)).bind fun F=>
   (qw F a.c).bind fun G=>
   some (.go G)
  else
   (yY fu r_r03_Expr a).bind fun H=>H.el (fun k=>
   if k=true then
    (ix a.b 0).bind fun l=>
    (qw a.a (⟨#[91]⟩:BA)).bind fun m=>
    (r_r03_Expr l 1).bind fun c=>
    (qw m c).bind fun p=>
    (qw p (⟨#[93]⟩:BA)).bind fun t=>
    some (.go t)
   else
    (yZ fu r_r03_Expr a b).bind fun H=>H.el (fun d=>
    if d=true then
     (ix a.b 0).bind fun u=>
     (ix ([(⟨#[45]⟩:BA),(⟨#[33]⟩:BA)]:List BA) (wr (a.e - 4))).bind fun v=>
     (r_r03_Expr u 5).bind fun e=>
     (qw v e).bind fun w=>
     some (.go w)
    else
     if b < 5 then
      if 1 < (a.b.length:Int) then
       (zo fu r_r03_Expr b).bind fun H=>H.el (fun f=>
       (ix a.b 0).bind fun x=>
       (ix a.b 1).bind fun z=>
       (ix ([(⟨#[43]⟩:BA),(⟨#[45]⟩:BA),(⟨#[42]⟩:BA),(⟨#[47]⟩:BA),(⟨#[37]⟩:BA),(⟨#[38]⟩:BA),(⟨#[124]⟩:BA),(⟨#[94]⟩:BA),(⟨#[60]⟩:BA),(⟨#[60,61]⟩:BA),(⟨#[61,61]⟩:BA),(⟨#[33,61]⟩:BA)]:List BA) (wr (a.e - 6))).bind fun A=>
       (r_r03_Expr x f).bind fun h=>
       (qw h (⟨#[32]⟩:BA)).bind fun B=>
       (qw B A).bind fun C=>
       (qw C (⟨#[32]⟩:BA)).bind fun D=>
       (r_r03_Expr z (wr (b+1))).bind fun i=>
       (qw D i).bind fun E=>
       some (.go E)
       ) (fun o=>some (.out o))
      else
       some (.go a.a)
     else
      some (.go a.a)
    ) (fun o=>some (.out o))
   ) (fun o=>some (.out o))
def Au (fu:Nat)(r_r03_Expr:yM) (e:Ge) (f:Int):Option (BA):=
 (Aq fu e.e).bind fun a=>
 (yT fu r_r03_Expr e a).bind fun h=>h.el (fun b=>
 if a < f then
  (qw (⟨#[40]⟩:BA) b).bind fun c=>
  (qw c (⟨#[41]⟩:BA)).bind fun d=>
  some d
 else
  some b
 ) (fun o=>some o)
def DL:Nat→(Ge→Int→Option (BA))
 | 0=>(fun _ _=>none)
 | fu+1=>Au fu (DL fu)
def qA (fu:Nat):=(DL fu)
theorem LF (fu:Nat)(r_r03_Expr:yM) (H_r03_Expr:AO r_r03_Expr):AO (Au fu r_r03_Expr):=by
 intro w0 bU e x1 j m r0 hP v
 unfold Au at v
 have b:=hP.bx
 clear hP
 generalize hG:lT _=G at b ⊢
 refine cf Try.func78 r (ma [(0,.agg #[V e.e,V e.d,V e.j,T e.a,T e.c,Z j e.b m]),(1,V x1)] ⟨r,r,y⟩ fun bV=>q (g (tL b (yI r) fun w1 b1 b=>s (mZ r) (n (q (g (s (wD r) (s (l3 r (b.bk 0 r) r) ?_))))))))
 obtain ⟨p,h2,v⟩:=bs v
 refine sc (ec RQ r) (KY fu (b.pr [] [0] [] r) h2) ?_
 rintro _ w2 ⟨rfl,x⟩
 replace b:=b.cn [] [0] x
 refine s (xi r) (n (q (g (s (Dq r) (s (l9 r (b.bk 0 r) r) (s (mZ r) (n (q ?_))))))))
 obtain ⟨Y3,a,v⟩:=bs v
 refine oC (fun f w=>∃ (N:BA),Has f [(1,V x1),(5,V p),(6,T N)]∧Bx w0 w bU G [] []∧Ld.go N=Y3) (fun J3 z=>?_) ?_
 ·unfold yT at a
  refine nZ (q (g (s (wD r) (s (l3 r (b.bk 0 r) r) (s (kK r r) (s (jU r) (n ?_)))))))
  rcases iv a with ⟨h4,a⟩|⟨h4,a⟩
  ·refine jH (bt h4) (g (s (Cs r) (s (l3 r (b.bk 0 r) r) ?_)))
   obtain ⟨ao,h5,a⟩:=bs a
   refine sc (ec I4 r) (Bc fu (b.pr [] [0] [] r) h5) ?_
   rintro _ w5 ⟨rfl,x⟩
   replace b:=b.cn [] [0] x
   exact s (mZ r) (n (z _ _ ⟨ao,⟨r,r,r,y⟩,(b.ad [] []),sm a⟩))
  refine jI (bf h4) (q (g (s (wD r) (s (l3 r (b.bk 0 r) r) (s (kK r r) (s (jU r) (n ?_)))))))
  rcases iv a with ⟨h6,a⟩|⟨h6,a⟩
  ·refine jH (bt h6) (g (s (Dq r) (s (l9 r (b.bk 0 r) r) ?_)))
   obtain ⟨g7,aR,a⟩:=bs a
   refine s (l7 r r aR) (s (G5 r) (s (l9 r (b.bk 0 r) r) ?_))
   obtain ⟨g8,aS,a⟩:=bs a
   exact s (l7 r r aS) (s (mZ r) (n (z _ _ ⟨g8,⟨r,r,r,y⟩,(b.ad [] []),sm a⟩)))
  refine jI (bf h6) (q ?_)
  obtain ⟨Y9,M,a⟩:=bs a
  refine oC (fun f w=>∃ (Q:Bool),Has f [(1,V x1),(2,Pt b1),(5,V p),(6,T e.a),(31,.bool Q)]∧Bx w0 w bU G [.box b1 138 #[V e.e,V e.d,V e.j,T e.a,T e.c,Z j e.b m]] [.l j m e.b]∧Ld.go Q=Y9) (fun J9 ap=>?_) ?_
  ·unfold yY at M
   refine g (s (wD r) (s (l3 r (b.bk 0 r) r) (s (kK r r) (s (jZ r) ?_))))
   rcases iv M with ⟨a8,M⟩|⟨a8,M⟩
   ·rw [decide_eq_true a8]
    exact jQ r (s (yS r) (jQ r (s (xe r (b.bk 0 r) r) (jQ r (s (lg qJ r) (jQ r (s (vG r r) (s (jN r r) (s (jU r) (n (ap _ _ ⟨(decide (0 < (e.b.length:Int))),⟨r,r,r,r,r,y⟩,b,sm M⟩)))))))))))
   rw [decide_eq_false a8]
   exact jB r (jB r (jB r (jB r (s (jX r r) (s (jU r) (n (ap _ _ ⟨false,⟨r,r,r,r,r,y⟩,b,sm M⟩)))))))
  clear b
  rintro f w ⟨Q,hf,b,aT⟩
  obtain ⟨bV,rfl⟩:=gP _ _ hf
  clear hf
  subst aT
  replace a:=gi a
  rcases iv a with ⟨R,a⟩|⟨R,a⟩
  ·refine jH (cb R) ?_
   obtain ⟨A,H,a⟩:=bs a
   obtain ⟨bl,aq,H⟩:=kG H
   obtain ⟨b9,ar,b⟩:=b.nm 0 rfl H
   obtain ⟨S,U,rfl,a9⟩:=jL.out ar
   replace b:=b.ku (d:=.l S U A.b) a9
   refine oJ b [0] [0,1,2] [] (by kernel_rfl) ?_
   replace b:=b.drew
   have c:=b
   refine pF 0 r (Dq r) c (uF 1 r (fun hS=>l9 r (hS.bk 0 r) r) c ?_)
   obtain ⟨bm,au,a⟩:=bs a
   refine pF 2 r (l7 r r au) c (pF 3 r (yS r) c (uF 4 r (fun hS=>xe r (hS.bk 0 r) r) c (pF 5 r (kZ qJ jT r r aq (b.dl 2 r) H) c (uF 6 r (fun hS=>oL [V A.e,V A.d,V A.j,T A.a,T A.c,Z S A.b U] mo r jT r r (hS.dc 1 r)) c ?_))))
   obtain ⟨aU,aV,a⟩:=bs a
   refine hO 7 (oc r r (ec EZ r) (H_r03_Expr (b.pr [] [0] [0] r) aV) ?_)
   rintro _ bn ⟨rfl,x⟩
   replace b:=b.cn [] [0] x
   have c:=b
   refine ⟨(sF c),?_⟩
   obtain ⟨bo,av,a⟩:=bs a
   refine pF 8 r (l7 r r av) c ?_
   obtain ⟨aW,aw,a⟩:=bs a
   exact pF 9 r (l7 r r aw) c (pF 10 r (mZ r) c (hD (z _ _ ⟨aW,⟨r,r,r,y⟩,(b.ad [] []),sm a⟩)))
  replace R:=nt R
  refine jI (cb R) (q ?_)
  obtain ⟨aX,t,a⟩:=bs a
  refine oC (fun f w=>∃ (B:Bool),Has f [(1,V x1),(2,Pt b1),(5,V p),(6,T e.a),(51,.bool B)]∧Bx w0 w bU G [.box b1 138 #[V e.e,V e.d,V e.j,T e.a,T e.c,Z j e.b m]] [.l j m e.b]∧Ld.go B=aX) (fun bp a5=>?_) ?_
  ·unfold yZ at t
   refine g (s (mi r) (s (kK r r) (s (jZ r) ?_)))
   rcases iv t with ⟨aa,t⟩|⟨aa,t⟩
   ·rw [decide_eq_true aa]
    exact jQ r (s (yS r) (jQ r (s (xe r (b.bk 0 r) r) (jQ r (s (lg qJ r) (jQ r (s (vG r r) (s (jN r r) (s (jU r) (n (a5 _ _ ⟨(decide (0 < (e.b.length:Int))),⟨r,r,r,r,r,y⟩,b,sm t⟩)))))))))))
   rw [decide_eq_false aa]
   exact jB r (jB r (jB r (jB r (s (jX r r) (s (jU r) (n (a5 _ _ ⟨false,⟨r,r,r,r,r,y⟩,b,sm t⟩)))))))
  clear b
  rintro f w ⟨B,hf,b,ax⟩
  obtain ⟨bV,rfl⟩:=gP _ _ hf
  clear hf
  subst ax
  replace a:=gi a
  rcases iv a with ⟨W,a⟩|⟨W,a⟩
  ·refine jH (cb W) ?_
   obtain ⟨C,I,a⟩:=bs a
   obtain ⟨bq,ay,I⟩:=kG I
   obtain ⟨ba,az,b⟩:=b.nm 0 rfl I
   obtain ⟨X,Y,rfl,ab⟩:=jL.out az
   replace b:=b.ku (d:=.l X Y C.b) ab
   obtain ⟨ac,o,a⟩:=bs a
   obtain ⟨br,a6,o⟩:=kG o
   obtain ⟨aY,ae,a⟩:=bs a
   obtain ⟨aA,a0,a⟩:=bs a
   refine oC (fun f w=>Has f [(1,V x1),(5,V p),(6,T aA)]∧Bx w0 w bU G [] []) (fun Jd hJd=>?_) ?_
   ·refine oJ b [0] [0,1,2] [] (by kernel_rfl) ?_
    replace b:=b.drew
    have c:=b
    refine pF 1 r (wD r) c (uF 2 r (fun hS=>l3 r (hS.bk 0 r) r) c (pF 3 r (xU r r) c (pF 6 r (yS r) c (uF 7 r (fun hS=>xe r (hS.bk 0 r) r) c (pF 8 r (kZ qJ jT r r ay (b.dl 2 r) I) c (uF 9 r (fun hS=>oL [V C.e,V C.d,V C.j,T C.a,T C.c,Z X C.b Y] mo r jT r r (hS.dc 1 r)) c (nI 0 [10] (by kernel_rfl) (jS ?_ (jS ?_ lX)))))))))
    ·refine oo r r (jV b [[T (⟨#[45]⟩:BA)],[T (⟨#[33]⟩:BA)]] ([(⟨#[45]⟩:BA),(⟨#[33]⟩:BA)]:List BA) (wF r r) r r (by decide) ⟨r,⟨r,y⟩⟩) ?_
     rintro _ bu ⟨bv,rfl,b⟩
     have c:=(b.ad [1] [1,2,3])
     refine ⟨(sF c),(pF 4 r (kZ kL pV r r a6 (b.vw 0 0 r r) o) c (nI 5 [10] (by kernel_rfl) (jS ?_ (jS ?_ lX))))⟩
     ·have c:=(b.ad [1] [1,2,3])
      refine vI r r (kz rH r r ((vo (ds:=[T ac]) (b.vw 0 0 r r) o (fun _ h=>h)) 0 _ r)) (sF c) (hO 10 (oc r r (ec EZ r) (H_r03_Expr (b.pr [] [0,1] [1] r) ae) ?_))
      rintro _ aB ⟨rfl,x⟩
      replace b:=b.cn [] [0,1] x
      have c:=(b.ad [1] [1,2,3])
      exact ⟨(sF c),(pF 11 r (l7 r r a0) c (pF 12 r (mZ r) c (hD (hJd _ _ ⟨⟨r,r,r,y⟩,(b.ad [] [])⟩))))⟩
     refine oc r r (ec EZ r) (H_r03_Expr (b.pr [] [0,1] [1] r) ae) ?_
     rintro _ aB ⟨rfl,x⟩
     replace b:=b.cn [] [0,1] x
     have c:=(b.ad [1] [1,2,3])
     exact ⟨(sF c),(hO 5 (vI r r (kz rH r r ((vo (ds:=[T ac]) (b.vw 0 0 r r) o (fun _ h=>h)) 0 _ r)) (sF c) (pF 11 r (l7 r r a0) c (pF 12 r (mZ r) c (hD (hJd _ _ ⟨⟨r,r,r,y⟩,(b.ad [] [])⟩))))))⟩
    refine oc r r (ec EZ r) (H_r03_Expr (b.pr [] [0] [0] r) ae) ?_
    rintro _ aB ⟨rfl,x⟩
    replace b:=b.cn [] [0] x
    have c:=b
    refine ⟨(sF c),(hO 0 (oo r r (jV b [[T (⟨#[45]⟩:BA)],[T (⟨#[33]⟩:BA)]] ([(⟨#[45]⟩:BA),(⟨#[33]⟩:BA)]:List BA) (wF r r) r r (by decide) ⟨r,⟨r,y⟩⟩) ?_))⟩
    rintro _ bw ⟨bz,rfl,b⟩
    have c:=(b.ad [1] [1,2,3])
    exact ⟨(sF c),(pF 4 r (kZ kL pV r r a6 (b.vw 0 0 r r) o) c (hO 5 (vI r r (kz rH r r ((vo (ds:=[T ac]) (b.vw 0 0 r r) o (fun _ h=>h)) 0 _ r)) (sF c) (pF 11 r (l7 r r a0) c (pF 12 r (mZ r) c (hD (hJd _ _ ⟨⟨r,r,r,y⟩,(b.ad [] [])⟩)))))))⟩
   clear b
   rintro f w ⟨hf,b⟩
   obtain ⟨bV,rfl⟩:=gP _ _ hf
   clear hf
   exact z _ _ ⟨aA,⟨r,r,r,y⟩,b,sm a⟩
  replace W:=nt W
  refine jI (cb W) (q (g (s (mi r) (s (qB r r) (s (jZ r) ?_)))))
  rcases iv a with ⟨af,a⟩|⟨af,a⟩
  ·rw [decide_eq_true af]
   refine jQ r (s (yS r) (jQ r (s (xe r (b.bk 0 r) r) (jQ r (s (lg qJ r) (jQ r (s (vG r r) (s (jN r r) (s (jU r) (n ?_))))))))))
   rcases iv a with ⟨ag,a⟩|⟨ag,a⟩
   ·refine jH (bt ag) (q (g (qF (jV b [[T (⟨#[43]⟩:BA)],[T (⟨#[45]⟩:BA)],[T (⟨#[42]⟩:BA)],[T (⟨#[47]⟩:BA)],[T (⟨#[37]⟩:BA)],[T (⟨#[38]⟩:BA)],[T (⟨#[124]⟩:BA)],[T (⟨#[94]⟩:BA)],[T (⟨#[60]⟩:BA)],[T (⟨#[60,61]⟩:BA)],[T (⟨#[61,61]⟩:BA)],[T (⟨#[33,61]⟩:BA)]] ([(⟨#[43]⟩:BA),(⟨#[45]⟩:BA),(⟨#[42]⟩:BA),(⟨#[47]⟩:BA),(⟨#[37]⟩:BA),(⟨#[38]⟩:BA),(⟨#[124]⟩:BA),(⟨#[94]⟩:BA),(⟨#[60]⟩:BA),(⟨#[60,61]⟩:BA),(⟨#[61,61]⟩:BA),(⟨#[33,61]⟩:BA)]:List BA) (Es r r r r r r r r r r r r) r r (by decide) ⟨r,⟨r,⟨r,⟨r,⟨r,⟨r,⟨r,⟨r,⟨r,⟨r,⟨r,⟨r,y⟩⟩⟩⟩⟩⟩⟩⟩⟩⟩⟩⟩) ?_)))
    rintro _ bA ⟨aC,rfl,b⟩
    refine s (nJ r) (n (q (g (s (mi r) (s (xi r) (n (q ?_)))))))
    obtain ⟨aZ,u,a⟩:=bs a
    refine oC (fun f w=>∃ (D:Int),Has f [(1,V x1),(2,Pt b1),(5,V p),(7,.slice (ad aC) ([(⟨#[43]⟩:BA),(⟨#[45]⟩:BA),(⟨#[42]⟩:BA),(⟨#[47]⟩:BA),(⟨#[37]⟩:BA),(⟨#[38]⟩:BA),(⟨#[124]⟩:BA),(⟨#[94]⟩:BA),(⟨#[60]⟩:BA),(⟨#[60,61]⟩:BA),(⟨#[61,61]⟩:BA),(⟨#[33,61]⟩:BA)]:List BA).length 12),(8,V D)]∧Bx w0 w bU G [O w0.heap.size (ad aC) 12 9 BA [[T (⟨#[43]⟩:BA)],[T (⟨#[45]⟩:BA)],[T (⟨#[42]⟩:BA)],[T (⟨#[47]⟩:BA)],[T (⟨#[37]⟩:BA)],[T (⟨#[38]⟩:BA)],[T (⟨#[124]⟩:BA)],[T (⟨#[94]⟩:BA)],[T (⟨#[60]⟩:BA)],[T (⟨#[60,61]⟩:BA)],[T (⟨#[61,61]⟩:BA)],[T (⟨#[33,61]⟩:BA)]],.box b1 138 #[V e.e,V e.d,V e.j,T e.a,T e.c,Z j e.b m]] [.els [[T (⟨#[43]⟩:BA)],[T (⟨#[45]⟩:BA)],[T (⟨#[42]⟩:BA)],[T (⟨#[47]⟩:BA)],[T (⟨#[37]⟩:BA)],[T (⟨#[38]⟩:BA)],[T (⟨#[124]⟩:BA)],[T (⟨#[94]⟩:BA)],[T (⟨#[60]⟩:BA)],[T (⟨#[60,61]⟩:BA)],[T (⟨#[61,61]⟩:BA)],[T (⟨#[33,61]⟩:BA)]] ([(⟨#[43]⟩:BA),(⟨#[45]⟩:BA),(⟨#[42]⟩:BA),(⟨#[47]⟩:BA),(⟨#[37]⟩:BA),(⟨#[38]⟩:BA),(⟨#[124]⟩:BA),(⟨#[94]⟩:BA),(⟨#[60]⟩:BA),(⟨#[60,61]⟩:BA),(⟨#[61,61]⟩:BA),(⟨#[33,61]⟩:BA)]:List BA),.l j m e.b]∧Ld.go D=aZ) (fun bB a7=>?_) ?_
    ·unfold zo at u
     refine q (g (s (mi r) (s (kK r r) (n ?_))))
     rcases iv u with ⟨ah,u⟩|⟨ah,u⟩
     ·exact jH (bt ah) (g (s (xi r) (n (a7 _ _ ⟨2,⟨r,r,r,r,r,y⟩,b,sm u⟩))))
     exact jI (bf ah) (wk (a7 _ _ ⟨p,⟨r,r,r,r,r,y⟩,b,sm u⟩))
    clear b
    rintro f w ⟨D,hf,b,aD⟩
    obtain ⟨bV,rfl⟩:=gP _ _ hf
    clear hf
    subst aD
    replace a:=gi a
    obtain ⟨E,J,a⟩:=bs a
    obtain ⟨bC,aE,J⟩:=kG J
    obtain ⟨bb,aF,b⟩:=b.nm 1 rfl J
    obtain ⟨a1,a2,rfl,ai⟩:=jL.out aF
    replace b:=b.ku (d:=.l a1 a2 E.b) ai
    obtain ⟨F,K,a⟩:=bs a
    obtain ⟨bD,aG,K⟩:=kG K
    obtain ⟨bc,aH,b⟩:=b.nm 3 rfl K
    obtain ⟨a3,a4,rfl,aj⟩:=jL.out aH
    replace b:=b.ku (d:=.l a3 a4 F.b) aj
    refine oJ b [0,1] [0,1,2,3,4,5] [] (by kernel_rfl) ?_
    replace b:=b.drew
    have c:=b
    refine pF 0 r (yS r) c (uF 1 r (fun hS=>xe r (hS.bk 1 r) r) c (pF 2 r (kZ qJ jT r r aE (b.dl 5 r) J) c (uF 3 r (fun hS=>oL [V E.e,V E.d,V E.j,T E.a,T E.c,Z a1 E.b a2] mo r jT r r (hS.dc 3 r)) c (pF 4 r (mi r) c (pF 7 r (mD r) c (pF 8 r (wD r) c (uF 9 r (fun hS=>l3 r (hS.bk 1 r) r) c (pF 10 r (xU r r) c ?_))))))))
    obtain ⟨b0,L,a⟩:=bs a
    obtain ⟨bE,aI,L⟩:=kG L
    refine pF 11 r (kZ kL pV r r aI (b.vw 0 4 r r) L) c (tU 12 r (fun _ hS=>kz rH r r ((vo (ds:=[T b0]) (hS.vw 0 4 r r) L (fun _ h=>h)) 0 _ r)) (sF c) (pF 15 r (yS r) c (uF 16 r (fun hS=>xe r (hS.bk 1 r) r) c (pF 17 r (kZ qJ jT r r aG (b.dl 5 r) K) c (uF 18 r (fun hS=>oL [V F.e,V F.d,V F.j,T F.a,T F.c,Z a3 F.b a4] mo r jT r r (hS.dc 1 r)) c (pF 19 r (mi r) c (pF 20 r (kN r r) c ?_)))))))
    obtain ⟨b2,b3,a⟩:=bs a
    refine hO 5 (oc r r (ec EZ r) (H_r03_Expr (b.pr [] [0,1] [2] r) b3) ?_)
    rintro _ bF ⟨rfl,x⟩
    replace b:=b.cn [] [0,1] x
    have c:=b
    refine ⟨(sF c),?_⟩
    obtain ⟨bG,aJ,a⟩:=bs a
    refine pF 6 r (l7 r r aJ) c ?_
    obtain ⟨bH,aK,a⟩:=bs a
    refine pF 13 r (l7 r r aK) c ?_
    obtain ⟨bI,aL,a⟩:=bs a
    refine pF 14 r (l7 r r aL) c ?_
    obtain ⟨b4,b5,a⟩:=bs a
    refine hO 21 (oc r r (ec EZ r) (H_r03_Expr (b.pr [] [0,1] [0] r) b5) ?_)
    rintro _ bJ ⟨rfl,x⟩
    replace b:=b.cn [] [0,1] x
    have c:=b
    refine ⟨(sF c),?_⟩
    obtain ⟨b6,aM,a⟩:=bs a
    exact pF 22 r (l7 r r aM) c (pF 23 r (mZ r) c (hD (z _ _ ⟨b6,⟨r,r,r,y⟩,(b.ad [] []),sm a⟩)))
   exact jI (bf ag) (wk (z _ _ ⟨e.a,⟨r,r,r,y⟩,(b.ad [] []),sm a⟩))
  rw [decide_eq_false af]
  exact jB r (jB r (jB r (jB r (s (jX r r) (s (jU r) (n (jI r (wk (z _ _ ⟨e.a,⟨r,r,r,y⟩,(b.ad [] []),sm a⟩)))))))))
 clear b
 rintro f w ⟨N,hf,b,b7⟩
 obtain ⟨bV,rfl⟩:=gP _ _ hf
 clear hf
 subst b7
 replace v:=gi v
 refine q (q (g (s (mi r) (s (mi r) (s (qB r r) (n ?_))))))
 rcases iv v with ⟨ak,v⟩|⟨ak,v⟩
 ·refine jH (bt ak) (q (g (s (lc r) ?_)))
  obtain ⟨bK,aN,v⟩:=bs v
  refine s (l7 r r aN) ?_
  obtain ⟨bL,aO,v⟩:=bs v
  refine s (l7 r r aO) (s (mZ r) (n (kP ?_)))
  obtain rfl:=sm v
  exact jC r (kT r) ⟨r,b⟩
 refine jI (bf ak) (wk (q (g (s (lc r) (s (mZ r) (n (kP ?_)))))))
 obtain rfl:=sm v
 exact jC r (kT r) ⟨r,b⟩
theorem JJ (fu:Nat):AO (qA fu):=by
 induction fu with
 | zero=>exact by intro a b;intros;exact nn (by assumption)
 | succ fu ih=>exact LF fu (qA fu) ih
theorem EX (fu:Nat):AO (qA fu):=(JJ fu)
def KV (m:(List Ge)→Option (BA)):Prop:=∀ {c:World} {f:Nat→Prop} {d:(List Ge)} {a:Option Addr} {b:Nat} {e:BA},Pre c f [] [.l a b d]→m d=some e→
 Calls Try.prog 107 #[Z a d b] c (rf fun v w=>v=T e∧Bx c w f (lT []) [] [])
def yU (fu:Nat)(a:BA) (b:Nat):Option (Ld (BA) (BA)):=
 if 0 < (b:Int) then
  (qw a (⟨#[44,32]⟩:BA)).bind fun c=>
  some (.go c)
 else
  some (.go a)
def uw (fu:Nat):List Ge→Nat→BA→Option (Ld (BA) (BA))
 | [],_,a=>some (.go a)
 | e :: f,d,a=>
 (yU fu a d).bind fun i=>i.el (fun b=>
 (qA fu e 1).bind fun c=>
 (qw b c).bind fun h=>
 uw fu f (d+1) h
 ) (fun o=>some (.out o))
def yP (fu:Nat)(b:(List Ge)):Option (BA):=
 (uw fu b 0 (⟨#[]⟩:BA)).bind fun c=>c.el (fun a=>
 some a
 ) (fun o=>some o)
theorem E8 (fu:Nat):KV (yP fu):=by
 intro B aa o h i r0 L v
 unfold yP at v
 have c:=L.bx
 clear L
 generalize hG:lT _=G at c ⊢
 refine cf Try.func107 r (ma [(0,Z h o i)] ⟨r,y⟩ fun ab=>q (g (s (mZ r) (n (q (g (s (mZ r) (n (q (q (g (s (mD r) (s (lg qJ r) (s (mi r) (n ?_)))))))))))))))
 have R:=(c.dl 0 r).bd
 obtain ⟨M,b,v⟩:=bs v
 refine oC (fun f w=>∃ (e:BA),Has f [(3,T e)]∧Bx B w aa G [] [.l h i o]∧Ld.go e=M) (fun J1 C=>?_) ?_
 ·refine nZ (kH (fun ac f w=>∃ (p:Nat)(e:BA),ac=o.length - p∧p≤o.length∧Has f [(8,V (p:Int)),(3,T e),(6,Z h o i),(7,V (o.length:Int))]∧Bx B w aa G [] [.l h i o]∧uw fu (o.drop p) p e=some M) (o.length) ⟨0,(⟨#[]⟩:BA),r,Nat.zero_le _,⟨r,r,r,r,y⟩,c,b⟩ ?_)
  clear c b
  rintro ac f w ⟨p,e,rfl,S,hf,c,b⟩ K1 D
  obtain ⟨ab,rfl⟩:=gP _ _ hf
  clear hf
  rcases Nat.lt_or_ge p o.length with x | x
  ·obtain ⟨a,u⟩:=lL (l:=o) x
   rw [mQ u,uw] at b
   obtain ⟨U,E,c⟩:=c.nm 0 rfl u
   obtain ⟨j,k,rfl,z⟩:=jL.out E
   replace c:=c.ku (d:=.l j k a.b) z
   refine q (g (s (qK r r (by omega)) (n (q (jH r (wk (q (nZ (q (g (s (mi r) (s (kZ qJ jT r r r (c.dl 2 r) u) (s (oL [V a.e,V a.d,V a.j,T a.a,T a.c,Z j a.b k] mo r jT r r (c.dc 1 r)) (tL c (ko jT) fun w3 N c=>s (xi r) (lu (nD c 0 [V a.e,V a.d,V a.j,T a.a,T a.c,Z j a.b k] r jT r r) fun w4 c=>n (q ?_))))))))))))))))
   obtain ⟨W,m,b⟩:=bs b
   refine oC (fun f w=>∃ (t:BA),Has f [(3,T t),(5,Pt N),(6,Z h o i),(7,V (o.length:Int)),(8,V (p:Int))]∧Bx B w aa G [.box N 138 #[V a.e,V a.d,V a.j,T a.a,T a.c,Z j a.b k]] [.l j k a.b,.l h i o]∧Ld.go t=W) (fun J5 A=>?_) ?_
   ·unfold yU at m
    refine q (g (s (mi r) (s (vG r r) (n ?_))))
    rcases iv m with ⟨F,m⟩|⟨F,m⟩
    ·refine jH (bt F) (g (s (lc r) ?_))
     obtain ⟨X,H,m⟩:=bs m
     exact s (l7 r r H) (s (mZ r) (n (A _ _ ⟨X,⟨r,r,r,r,r,y⟩,(c.dp [0,2]),sm m⟩)))
    exact jI (bf F) (wk (A _ _ ⟨e,⟨r,r,r,r,r,y⟩,(c.dp [0,2]),sm m⟩))
   clear c
   rintro f w ⟨t,hf,c,I⟩
   obtain ⟨ab,rfl⟩:=gP _ _ hf
   clear hf
   subst I
   replace b:=gi b
   refine g (s (lc r) (s (mE [V a.e,V a.d,V a.j,T a.a,T a.c,Z j a.b k] mo jT r (c.bk 0 r)) ?_))
   obtain ⟨Q,Y,b⟩:=bs b
   refine sc (ec EZ r) (EX fu (c.pr [] [0] [0] r) Y) ?_
   rintro _ w8 ⟨rfl,hK⟩
   replace c:=c.cn [] [0] hK
   obtain ⟨g9,J,b⟩:=bs b
   exact s (l7 r r J) (s (mZ r) (n (g (s (mg r r (by omega) (by omega)) (s (mi r) (n (D (o.length - (p+1)) _ _ (by omega) ⟨p+1,g9,r,by omega,⟨r,r,r,r,y⟩,(c.ad [] [1]),b⟩)))))))
  obtain rfl:p=o.length:=by omega
  rw [lH,uw] at b
  exact q (g (s (qL r r (by omega)) (n (q (jI r (uW (C _ _ ⟨e,⟨r,y⟩,c,sm b⟩)))))))
 clear c
 rintro f w ⟨e,hf,c,K⟩
 obtain ⟨ab,rfl⟩:=gP _ _ hf
 clear hf
 subst K
 replace v:=gi v
 refine q (g (s (lc r) (s (mZ r) (n (kP ?_)))))
 obtain rfl:=sm v
 exact jC r (kT r) ⟨r,(c.dp [])⟩
def Ke (m:(List BA)→Option (BA)):Prop:=∀ {c:World} {f:Nat→Prop} {d:(List BA)} {a:Option Addr} {b:Nat} {e:BA},Pre c f [] [.l a b d]→m d=some e→
 Calls Try.prog 55 #[Z a d b] c (rf fun v w=>v=T e∧Bx c w f (lT []) [] [])
def qf (fu:Nat):List BA→Nat→BA→Option (Ld (BA) (BA))
 | [],_,a=>some (.go a)
 | c :: d,b,a=>
 if 0 < (b:Int) then
  (qw a (⟨#[44,32]⟩:BA)).bind fun e=>
  (qw e c).bind fun f=>
  qf fu d (b+1) f
 else
  (qw a c).bind fun h=>
  qf fu d (b+1) h
def xC (fu:Nat)(b:(List BA)):Option (BA):=
 (qf fu b 0 (⟨#[]⟩:BA)).bind fun c=>c.el (fun a=>
 some a
 ) (fun o=>some o)
theorem Eg (fu:Nat):Ke (xC fu):=by
 intro B R e c d K C m
 unfold xC at m
 have i:=C.bx
 clear C
 generalize L:lT _=G at i ⊢
 refine cf Try.func55 r (ma [(0,Z c e d)] ⟨r,y⟩ fun S=>q (g (s (mZ r) (n (q (g (s (mZ r) (n (q (q (g (s (mD r) (s (lg kL r) (s (mi r) (n ?_)))))))))))))))
 have E:=(i.dl 0 r).bd
 obtain ⟨D,a,m⟩:=bs m
 refine oC (fun f w=>∃ (b:BA),Has f [(3,T b)]∧Bx B w R G [] [.l c d e]∧Ld.go b=D) (fun M t=>?_) ?_
 ·refine nZ (kH (fun U f w=>∃ (j:Nat)(b:BA),U=e.length - j∧j≤e.length∧Has f [(8,V (j:Int)),(3,T b),(6,Z c e d),(7,V (e.length:Int))]∧Bx B w R G [] [.l c d e]∧qf fu (e.drop j) j b=some D) (e.length) ⟨0,(⟨#[]⟩:BA),r,Nat.zero_le _,⟨r,r,r,r,y⟩,i,a⟩ ?_)
  clear i a
  rintro U f w ⟨j,b,rfl,F,hf,i,a⟩ N o
  obtain ⟨S,rfl⟩:=gP _ _ hf
  clear hf
  rcases Nat.lt_or_ge j e.length with p | p
  ·obtain ⟨H,k⟩:=lL (l:=e) p
   rw [mQ k,qf] at a
   refine q (g (s (qK r r (by omega)) (n (q (jH r (wk (q (nZ (q (g (s (mi r) (s (kZ kL pV r r r (i.dl 0 r) k) (s (kz rH r r ((vo (ds:=[T H]) (i.dl 0 r) k (fun _ h=>h)) 0 _ r)) (s (xi r) (s (mZ r) (n (q (q (g (s (mi r) (s (vG r r) (n ?_))))))))))))))))))))))
   rcases iv a with ⟨u,a⟩|⟨u,a⟩
   ·refine jH (bt u) (g (s (lc r) ?_))
    obtain ⟨Q,v,a⟩:=bs a
    refine s (l7 r r v) (s (mZ r) (n (g (s (lc r) (s (lc r) ?_)))))
    obtain ⟨I,x,a⟩:=bs a
    exact s (l7 r r x) (s (mZ r) (n (g (s (mg r r (by omega) (by omega)) (s (mi r) (n (o (e.length - (j+1)) _ _ (by omega) ⟨j+1,I,r,by omega,⟨r,r,r,r,y⟩,i,a⟩)))))))
   refine jI (bf u) (wk (g (s (lc r) (s (lc r) ?_))))
   obtain ⟨J,z,a⟩:=bs a
   exact s (l7 r r z) (s (mZ r) (n (g (s (mg r r (by omega) (by omega)) (s (mi r) (n (o (e.length - (j+1)) _ _ (by omega) ⟨j+1,J,r,by omega,⟨r,r,r,r,y⟩,i,a⟩)))))))
  obtain rfl:j=e.length:=by omega
  rw [lH,qf] at a
  exact q (g (s (qL r r (by omega)) (n (q (jI r (uW (t _ _ ⟨b,⟨r,y⟩,i,sm a⟩)))))))
 clear i
 rintro f w ⟨b,hf,i,A⟩
 obtain ⟨S,rfl⟩:=gP _ _ hf
 clear hf
 subst A
 replace m:=gi m
 refine q (g (s (lc r) (s (mZ r) (n (kP ?_)))))
 obtain rfl:=sm m
 exact jC r (kT r) ⟨r,(i.dp [])⟩
def Kj (m:Gs→Option (BA)):Prop:=∀ {k:World} {p:Nat→Prop} {a:Gs} {b:Option Addr} {c:Nat} {d:Option Addr} {e:Nat} {f:Option Addr} {h:Nat} {i:Option Addr} {j:Nat} {o:BA},Pre k p [] [.l b c a.d,.l d e a.b,.l f h a.f,.l i j a.i]→m a=some o→
 Calls Try.prog 80 #[.agg #[V a.e,V a.c,V a.n,T a.a,T a.g,V a.m,V a.j,Z b a.d c,T a.k,V a.h,Z d a.b e,Z f a.f h,Z i a.i j]] k (rf fun v w=>v=T o∧Bx k w p (lT []) [] [])
def qR (fu:Nat)(c:Gs):Option (BA):=
 if ¬ c.k=(⟨#[]⟩:BA) then
  (qw c.k (⟨#[40]⟩:BA)).bind fun d=>
  (yP fu c.b).bind fun a=>
  (qw d a).bind fun e=>
  (qw e (⟨#[41]⟩:BA)).bind fun f=>
  some f
 else
  (yP fu c.b).bind fun b=>
  some b
theorem wh (fu:Nat):Kj (qR fu):=by
 intro E R c e f h j l m o p F z b
 unfold qR at b
 have a:=z.bx
 clear z
 generalize H:lT _=G at a ⊢
 refine cf Try.func80 r (ma [(0,.agg #[V c.e,V c.c,V c.n,T c.a,T c.g,V c.m,V c.j,Z e c.d f,T c.k,V c.h,Z h c.b j,Z l c.f m,Z o c.i p])] ⟨r,y⟩ fun S=>q (g (tL a (yI r) fun I J a=>s (mZ r) (n (q (q (g (s (Ai r) (s (l9 r (a.bk 0 r) r) (s (yO r r) (n ?_)))))))))))
 rcases iv b with ⟨t,b⟩|⟨t,b⟩
 ·refine jH (bt t) (q (oJ a [0] [] [] (by kernel_rfl) ?_))
  replace a:=a.drew
  have d:=(a.dp [])
  refine pF 0 r (Ai r) d (uF 1 r (fun hS=>l9 r (hS.bk 0 r) r) d ?_)
  obtain ⟨K,u,b⟩:=bs b
  refine pF 2 r (l7 r r u) d (pF 3 r (qD r) d (uF 4 r (fun hS=>xe r (hS.bk 0 r) r) d ?_))
  obtain ⟨A,C,b⟩:=bs b
  refine hO 5 (oc r r (ec Oe r) (E8 fu (a.pr [] [0] [1] r) C) ?_)
  rintro _ L ⟨rfl,v⟩
  replace a:=a.cn [] [0] v
  have d:=(a.dp [])
  refine ⟨(sF d),?_⟩
  obtain ⟨M,w,b⟩:=bs b
  refine pF 6 r (l7 r r w) d ?_
  obtain ⟨N,x,b⟩:=bs b
  refine pF 7 r (l7 r r x) d (pF 8 r (mZ r) d (hD (kP ?_)))
  obtain rfl:=sm b
  exact jC r (kT r) ⟨r,(a.ad [] [])⟩
 refine jI (bf t) (wk (q (g (s (qD r) (s (xe r (a.bk 0 r) r) ?_)))))
 obtain ⟨B,D,b⟩:=bs b
 refine sc (ec Oe r) (E8 fu (a.pr [] [0] [1] r) D) ?_
 rintro _ Q ⟨rfl,v⟩
 replace a:=a.cn [] [0] v
 refine s (mZ r) (n (kP ?_))
 obtain rfl:=sm b
 exact jC r (kT r) ⟨r,(a.ad [] [])⟩
abbrev vU:=(List jM)→ByteArray→Option (ByteArray)
def z8 (m:(List Gs)→BA→Option (BA)):Prop:=∀ {c:World} {h:Nat→Prop} {d:(List Gs)} {e:BA} {a:Option Addr} {b:Nat} {f:BA},Pre c h [] [.l a b d]→m d e=some f→
 Calls Try.prog 56 #[Z a d b,T e] c (rf fun v w=>v=T f∧Bx c w h (lT []) [] [])
def xL (fu:Nat)(r_p03_block:vU) (c:Gs):Option (Ld (BA) (BA)):=
 if 0 < (c.d.length:Int) then
  (ix c.d 0).bind fun d=>
  (qA fu d 1).bind fun a=>
  (qw a (⟨#[32,61,32]⟩:BA)).bind fun b=>
  some (.go b)
 else
  some (.go (⟨#[]⟩:BA))
def xX (fu:Nat)(r_p03_block:vU) (a:Gs):Option (Ld (BA) (BA)):=
 if a.g=(⟨#[]⟩:BA) then
  some (.go (⟨#[105,110,116]⟩:BA))
 else
  some (.go a.g)
def xW (fu:Nat)(r_p03_block:vU) (e:Gs) (a:BA):Option (Ld (BA) (BA)):=
 if 0 < e.m then
  (um fu e.m).bind fun b=>
  (qw (⟨#[105,110,116,91]⟩:BA) b).bind fun c=>
  (qw c (⟨#[93]⟩:BA)).bind fun d=>
  some (.go d)
 else
  some (.go a)
def xQ (fu:Nat)(r_p03_block:vU) (a:Gs):Option (Ld (Bool) (BA)):=
 if a.e=2 then
  some (.go (decide (a.e=2)))
 else
  some (.go (decide (a.e=3)))
def lJ (fu:Nat)(r_p03_block:vU) (b:BA):List Gs→Nat→BA→Option (Ld (BA) (BA))
 | [],_,a=>some (.go a)
 | c :: d,e,a=>
 (xL fu r_p03_block c).bind fun aC=>aC.el (fun A=>
 if c.e=1 then
  (xX fu r_p03_block c).bind fun aC=>aC.el (fun f=>
  (xW fu r_p03_block c f).bind fun aC=>aC.el (fun h=>
  (qw a b).bind fun C=>
  (qw C (⟨#[118,97,114,32]⟩:BA)).bind fun D=>
  (qw D c.a).bind fun E=>
  (qw E (⟨#[58,32]⟩:BA)).bind fun F=>
  (qw F h).bind fun G=>
  (qw G (⟨#[59,10]⟩:BA)).bind fun H=>
  lJ fu r_p03_block b d (e+1) H
  ) (fun o=>some (.out o))
  ) (fun o=>some (.out o))
 else
  (xQ fu r_p03_block c).bind fun aC=>aC.el (fun i=>
  if i=true then
   (qw a b).bind fun I=>
   (qw I A).bind fun J=>
   (qR fu c).bind fun j=>
   (qw J j).bind fun K=>
   (qw K (⟨#[59,10]⟩:BA)).bind fun L=>
   lJ fu r_p03_block b d (e+1) L
  else
   if c.e=6 then
    (qw a b).bind fun M=>
    (qw M (⟨#[114,101,116,117,114,110,32]⟩:BA)).bind fun N=>
    (qR fu c).bind fun k=>
    (qw N k).bind fun P=>
    (qw P (⟨#[59,10]⟩:BA)).bind fun Q=>
    lJ fu r_p03_block b d (e+1) Q
   else
    if c.e=7 then
     (qw a b).bind fun R=>
     (qw R (⟨#[116,104,114,111,119,32]⟩:BA)).bind fun S=>
     (qR fu c).bind fun l=>
     (qw S l).bind fun U=>
     (qw U (⟨#[59,10]⟩:BA)).bind fun W=>
     lJ fu r_p03_block b d (e+1) W
    else
     if c.e=9 then
      (qw a b).bind fun X=>
      (qw X (⟨#[112,114,105,110,116,32]⟩:BA)).bind fun Y=>
      (qR fu c).bind fun m=>
      (qw Y m).bind fun a0=>
      (qw a0 (⟨#[59,10]⟩:BA)).bind fun a1=>
      lJ fu r_p03_block b d (e+1) a1
     else
      if c.e=4 then
       (qw a b).bind fun a2=>
       (qw a2 (⟨#[105,102,32]⟩:BA)).bind fun a3=>
       (qw b (⟨#[9]⟩:BA)).bind fun a4=>
       (qR fu c).bind fun p=>
       (qw a3 p).bind fun a5=>
       (qw a5 (⟨#[32,123,10]⟩:BA)).bind fun a6=>
       (r_p03_block c.f a4).bind fun t=>
       (qw a6 t).bind fun B=>
       if 0 < (c.i.length:Int) then
        (qw B b).bind fun a7=>
        (qw a7 (⟨#[125,32,101,108,115,101,32,123,10]⟩:BA)).bind fun a8=>
        (qw b (⟨#[9]⟩:BA)).bind fun a9=>
        (r_p03_block c.i a9).bind fun u=>
        (qw a8 u).bind fun aa=>
        (qw aa b).bind fun ab=>
        (qw ab (⟨#[125,10]⟩:BA)).bind fun ac=>
        lJ fu r_p03_block b d (e+1) ac
       else
        (qw B b).bind fun ae=>
        (qw ae (⟨#[125,10]⟩:BA)).bind fun af=>
        lJ fu r_p03_block b d (e+1) af
      else
       if c.e=5 then
        (qw a b).bind fun ag=>
        (qw ag (⟨#[119,104,105,108,101,32]⟩:BA)).bind fun ah=>
        (qw b (⟨#[9]⟩:BA)).bind fun ai=>
        (qR fu c).bind fun v=>
        (qw ah v).bind fun aj=>
        (qw aj (⟨#[32,123,10]⟩:BA)).bind fun ak=>
        (r_p03_block c.f ai).bind fun w=>
        (qw ak w).bind fun al=>
        (qw al b).bind fun am=>
        (qw am (⟨#[125,10]⟩:BA)).bind fun an=>
        lJ fu r_p03_block b d (e+1) an
       else
        if c.e=8 then
         (qw a b).bind fun ao=>
         (qw ao (⟨#[116,114,121,32,123,10]⟩:BA)).bind fun ap=>
         (qw b (⟨#[9]⟩:BA)).bind fun aq=>
         (qw b (⟨#[9]⟩:BA)).bind fun ar=>
         (r_p03_block c.f aq).bind fun x=>
         (qw ap x).bind fun au=>
         (qw au b).bind fun av=>
         (qw av (⟨#[125,32,99,97,116,99,104,32]⟩:BA)).bind fun aw=>
         (qw aw c.a).bind fun ax=>
         (qw ax (⟨#[32,123,10]⟩:BA)).bind fun ay=>
         (r_p03_block c.i ar).bind fun z=>
         (qw ay z).bind fun az=>
         (qw az b).bind fun aA=>
         (qw aA (⟨#[125,10]⟩:BA)).bind fun aB=>
         lJ fu r_p03_block b d (e+1) aB
        else
         lJ fu r_p03_block b d (e+1) a
  ) (fun o=>some (.out o))
 ) (fun o=>some (.out o))
def zK (fu:Nat)(r_p03_block:vU) (b:(List Gs)) (c:BA):Option (BA):=
 (lJ fu r_p03_block c b 0 (⟨#[]⟩:BA)).bind fun d=>d.el (fun a=>
 some a
 ) (fun o=>some o)
def CL:Nat→((List Gs)→BA→Option (BA))
 | 0=>(fun _ _=>none)
 | fu+1=>zK fu (CL fu)
def pu (fu:Nat):=(CL fu)
theorem Jz (fu:Nat)(r_p03_block:vU) (H_p03_block:z8 r_p03_block):z8 (zK fu r_p03_block):=by
 intro w0 dM C x1 x z r0 hP hM
 unfold zK at hM
 have c:=hP.bx
 clear hP
 generalize hG:lT _=G at c ⊢
 refine cf Try.func56 r (ma [(0,Z x C z),(1,T x1)] ⟨r,r,y⟩ fun dN=>q (g (s (mZ r) (n (q (g (s (mZ r) (n (q (q (g (s (mD r) (s (lg yH r) (s (mi r) (n ?_)))))))))))))))
 have cr:=(c.dl 0 r).bd
 obtain ⟨Y1,a,hM⟩:=bs hM
 refine oC (fun f w=>∃ (A:BA),Has f [(5,T A)]∧Bx w0 w dM G [] [.l x z C]∧Ld.go A=Y1) (fun J1 bB=>?_) ?_
 ·refine nZ (kH (fun dO f w=>∃ (D:Nat)(A:BA),dO=C.length - D∧D≤C.length∧Has f [(12,V (D:Int)),(1,T x1),(5,T A),(10,Z x C z),(11,V (C.length:Int))]∧Bx w0 w dM G [] [.l x z C]∧lJ fu r_p03_block x1 (C.drop D) D A=some Y1) (C.length) ⟨0,(⟨#[]⟩:BA),r,Nat.zero_le _,⟨r,r,r,r,r,y⟩,c,a⟩ ?_)
  clear c a
  rintro dO f w ⟨D,A,rfl,ct,hf,c,a⟩ K1 H
  obtain ⟨dN,rfl⟩:=gP _ _ hf
  clear hf
  rcases Nat.lt_or_ge D C.length with ai | ai
  ·obtain ⟨b,a2⟩:=lL (l:=C) ai
   rw [mQ a2,lJ] at a
   obtain ⟨cu,bC,c⟩:=c.nm 0 rfl a2
   obtain ⟨h,j,m,o,p,t,u,v,rfl,aj,ak,al,am⟩:=jM.out bC
   replace c:=c.ku (d:=.l h j b.d) aj
   replace c:=c.ku (d:=.l m o b.b) ak
   replace c:=c.ku (d:=.l p t b.f) al
   replace c:=c.ku (d:=.l u v b.i) am
   refine q (g (s (qK r r (by omega)) (n (q (jH r (wk (q (nZ (q (g (s (kZ yH jP r r r (c.dl 5 r) a2) (s (oL [V b.e,V b.c,V b.n,T b.a,T b.g,V b.m,V b.j,Z h b.d j,T b.k,V b.h,Z m b.b o,Z p b.f t,Z u b.i v] lG r jP r r (c.dc 4 r)) (tL c (ko jP) fun w3 S c=>lu (nD c 0 [V b.e,V b.c,V b.n,T b.a,T b.g,V b.m,V b.j,Z h b.d j,T b.k,V b.h,Z m b.b o,Z p b.f t,Z u b.i v] r jP r r) fun w4 c=>n (q (g (s (mZ r) (n (q ?_))))))))))))))))))
   obtain ⟨Y5,E,a⟩:=bs a
   refine oC (fun f w=>∃ (N:BA),Has f [(1,T x1),(5,T A),(7,Pt S),(8,T N),(10,Z x C z),(11,V (C.length:Int)),(12,V (D:Int))]∧Bx w0 w dM G [.box S 111 #[V b.e,V b.c,V b.n,T b.a,T b.g,V b.m,V b.j,Z h b.d j,T b.k,V b.h,Z m b.b o,Z p b.f t,Z u b.i v]] [.l u v b.i,.l p t b.f,.l m o b.b,.l h j b.d,.l x z C]∧Ld.go N=Y5) (fun J5 an=>?_) ?_
   ·unfold xL at E
    refine q (g (s (uA r) (s (xe r (c.bk 0 r) r) (s (lg qJ r) (s (vG r r) (n ?_))))))
    rcases iv E with ⟨h6,E⟩|⟨h6,E⟩
    ·refine jH (bt h6) (g (s (uA r) (s (xe r (c.bk 0 r) r) ?_)))
     obtain ⟨e7,R,E⟩:=bs E
     obtain ⟨k7,bE,R⟩:=kG R
     obtain ⟨cw,bF,c⟩:=c.nm 3 rfl R
     obtain ⟨U,W,rfl,ao⟩:=jL.out bF
     replace c:=c.ku (d:=.l U W e7.b) ao
     refine s (kZ qJ jT r r bE (c.dl 5 r) R) (s (oL [V e7.e,V e7.d,V e7.j,T e7.a,T e7.c,Z U e7.b W] mo r jT r r (c.dc 1 r)) ?_)
     obtain ⟨cq,h9,E⟩:=bs E
     refine sc (ec EZ r) (EX fu (c.pr [] [0] [0] r) h9) ?_
     rintro _ w9 ⟨rfl,F⟩
     replace c:=c.cn [] [0] F
     obtain ⟨bG,ap,E⟩:=bs E
     exact s (l7 r r ap) (s (mZ r) (n (an _ _ ⟨bG,⟨r,r,r,r,r,r,r,y⟩,(c.dp [2,3,4,5,7]),sm E⟩)))
    exact jI (bf h6) (wk (an _ _ ⟨(⟨#[]⟩:BA),⟨r,r,r,r,r,r,r,y⟩,(c.dp [0,1,2,3,5]),sm E⟩))
   clear c
   rintro f w ⟨N,hf,c,bH⟩
   obtain ⟨dN,rfl⟩:=gP _ _ hf
   clear hf
   subst bH
   replace a:=gi a
   refine q (g (s (uJ r) (s (l3 r (c.bk 0 r) r) (n (nZ (q (g (s (kK r r) (s (jU r) (n ?_))))))))))
   rcases iv a with ⟨a4,a⟩|⟨a4,a⟩
   ·refine jH (bt a4) (q (g (s (BH r) (s (l9 r (c.bk 0 r) r) (s (mZ r) (n (q ?_)))))))
    obtain ⟨bI,I,a⟩:=bs a
    refine oC (fun f w=>∃ (K:BA),Has f [(1,T x1),(5,T A),(7,Pt S),(9,T K),(10,Z x C z),(11,V (C.length:Int)),(12,V (D:Int))]∧Bx w0 w dM G [.box S 111 #[V b.e,V b.c,V b.n,T b.a,T b.g,V b.m,V b.j,Z h b.d j,T b.k,V b.h,Z m b.b o,Z p b.f t,Z u b.i v]] [.l u v b.i,.l p t b.f,.l m o b.b,.l h j b.d,.l x z C]∧Ld.go K=bI) (fun cy X=>?_) ?_
    ·unfold xX at I
     refine q (g (s (lc r) (s (rT r r) (n ?_))))
     rcases iv I with ⟨a5,I⟩|⟨a5,I⟩
     ·exact jH (bt a5) (g (s (mZ r) (n (X _ _ ⟨(⟨#[105,110,116]⟩:BA),⟨r,r,r,r,r,r,r,y⟩,c,sm I⟩))))
     exact jI (bf a5) (wk (X _ _ ⟨b.g,⟨r,r,r,r,r,r,r,y⟩,c,sm I⟩))
    clear c
    rintro f w ⟨K,hf,c,aq⟩
    obtain ⟨dN,rfl⟩:=gP _ _ hf
    clear hf
    subst aq
    replace a:=gi a
    refine q ?_
    obtain ⟨bJ,B,a⟩:=bs a
    refine oC (fun f w=>∃ (L:BA),Has f [(1,T x1),(5,T A),(7,Pt S),(9,T L),(10,Z x C z),(11,V (C.length:Int)),(12,V (D:Int))]∧Bx w0 w dM G [.box S 111 #[V b.e,V b.c,V b.n,T b.a,T b.g,V b.m,V b.j,Z h b.d j,T b.k,V b.h,Z m b.b o,Z p b.f t,Z u b.i v]] [.l u v b.i,.l p t b.f,.l m o b.b,.l h j b.d,.l x z C]∧Ld.go L=bJ) (fun cz Y=>?_) ?_
    ·unfold xW at B
     refine q (g (s (zN r) (s (l3 r (c.bk 0 r) r) (s (vG r r) (n ?_)))))
     rcases iv B with ⟨a6,B⟩|⟨a6,B⟩
     ·refine jH (bt a6) (g (s (zN r) (s (l3 r (c.bk 0 r) r) ?_)))
      obtain ⟨bK,bL,B⟩:=bs B
      refine sc (ec I4 r) (Bc fu (c.pr [] [0] [] r) bL) ?_
      rintro _ cA ⟨rfl,F⟩
      replace c:=c.cn [] [0] F
      obtain ⟨cB,ar,B⟩:=bs B
      refine s (l7 r r ar) ?_
      obtain ⟨bM,au,B⟩:=bs B
      exact s (l7 r r au) (s (mZ r) (n (Y _ _ ⟨bM,⟨r,r,r,r,r,r,r,y⟩,c,sm B⟩)))
     exact jI (bf a6) (wk (Y _ _ ⟨K,⟨r,r,r,r,r,r,r,y⟩,c,sm B⟩))
    clear c
    rintro f w ⟨L,hf,c,av⟩
    obtain ⟨dN,rfl⟩:=gP _ _ hf
    clear hf
    subst av
    replace a:=gi a
    refine g (s (lc r) (s (lc r) ?_))
    obtain ⟨cC,aw,a⟩:=bs a
    refine s (l7 r r aw) ?_
    obtain ⟨cD,ax,a⟩:=bs a
    refine s (l7 r r ax) (s (xu r) (s (l9 r (c.bk 0 r) r) ?_))
    obtain ⟨cE,ay,a⟩:=bs a
    refine s (l7 r r ay) ?_
    obtain ⟨cF,az,a⟩:=bs a
    refine s (l7 r r az) (s (lc r) ?_)
    obtain ⟨cG,aA,a⟩:=bs a
    refine s (l7 r r aA) ?_
    obtain ⟨bN,aB,a⟩:=bs a
    exact s (l7 r r aB) (s (mZ r) (n (g (s (mg r r (by omega) (by omega)) (s (mi r) (n (H (C.length - (D+1)) _ _ (by omega) ⟨D+1,bN,r,by omega,⟨r,r,r,r,r,y⟩,(c.ad [] [4]),a⟩)))))))
   refine jI (bf a4) (q ?_)
   obtain ⟨bO,J,a⟩:=bs a
   refine oC (fun f w=>∃ (M:Bool),Has f [(1,T x1),(5,T A),(7,Pt S),(8,T N),(10,Z x C z),(11,V (C.length:Int)),(12,V (D:Int)),(27,V b.e),(53,.bool M)]∧Bx w0 w dM G [.box S 111 #[V b.e,V b.c,V b.n,T b.a,T b.g,V b.m,V b.j,Z h b.d j,T b.k,V b.h,Z m b.b o,Z p b.f t,Z u b.i v]] [.l u v b.i,.l p t b.f,.l m o b.b,.l h j b.d,.l x z C]∧Ld.go M=bO) (fun cH a0=>?_) ?_
   ·unfold xQ at J
    refine q (g (s (kK r r) (s (jU r) (n ?_))))
    rcases iv J with ⟨a7,J⟩|⟨a7,J⟩
    ·exact jH (bt a7) (wk (a0 _ _ ⟨(decide (b.e=2)),⟨r,r,r,r,r,r,r,r,r,y⟩,c,sm J⟩))
    exact jI (bf a7) (g (s (kK r r) (s (jU r) (n (a0 _ _ ⟨(decide (b.e=3)),⟨r,r,r,r,r,r,r,r,r,y⟩,c,sm J⟩)))))
   clear c
   rintro f w ⟨M,hf,c,aC⟩
   obtain ⟨dN,rfl⟩:=gP _ _ hf
   clear hf
   subst aC
   replace a:=gi a
   rcases iv a with ⟨Q,a⟩|⟨Q,a⟩
   ·refine jH (cb Q) (g (s (lc r) (s (lc r) ?_)))
    obtain ⟨cI,aD,a⟩:=bs a
    refine s (l7 r r aD) (s (lc r) ?_)
    obtain ⟨cJ,aE,a⟩:=bs a
    refine s (l7 r r aE) (s (mE [V b.e,V b.c,V b.n,T b.a,T b.g,V b.m,V b.j,Z h b.d j,T b.k,V b.h,Z m b.b o,Z p b.f t,Z u b.i v] lG jP r (c.bk 0 r)) ?_)
    obtain ⟨bP,bQ,a⟩:=bs a
    refine sc (ec IK r) (wh fu (c.pr [] [0] [3,2,1,0] r) bQ) ?_
    rintro _ cK ⟨rfl,F⟩
    replace c:=c.cn [] [0] F
    obtain ⟨cL,aG,a⟩:=bs a
    refine s (l7 r r aG) ?_
    obtain ⟨bR,aH,a⟩:=bs a
    exact s (l7 r r aH) (s (mZ r) (n (g (s (mg r r (by omega) (by omega)) (s (mi r) (n (H (C.length - (D+1)) _ _ (by omega) ⟨D+1,bR,r,by omega,⟨r,r,r,r,r,y⟩,(c.ad [] [4]),a⟩)))))))
   replace Q:=nt Q
   refine jI (cb Q) (q (g (s (kK r r) (s (jU r) (n ?_)))))
   rcases iv a with ⟨a8,a⟩|⟨a8,a⟩
   ·refine jH (bt a8) (g (s (lc r) (s (lc r) ?_)))
    obtain ⟨cM,aI,a⟩:=bs a
    refine s (l7 r r aI) ?_
    obtain ⟨cN,aJ,a⟩:=bs a
    refine s (l7 r r aJ) (s (mE [V b.e,V b.c,V b.n,T b.a,T b.g,V b.m,V b.j,Z h b.d j,T b.k,V b.h,Z m b.b o,Z p b.f t,Z u b.i v] lG jP r (c.bk 0 r)) ?_)
    obtain ⟨bS,bT,a⟩:=bs a
    refine sc (ec IK r) (wh fu (c.pr [] [0] [3,2,1,0] r) bT) ?_
    rintro _ cO ⟨rfl,F⟩
    replace c:=c.cn [] [0] F
    obtain ⟨cP,aK,a⟩:=bs a
    refine s (l7 r r aK) ?_
    obtain ⟨bU,aL,a⟩:=bs a
    exact s (l7 r r aL) (s (mZ r) (n (g (s (mg r r (by omega) (by omega)) (s (mi r) (n (H (C.length - (D+1)) _ _ (by omega) ⟨D+1,bU,r,by omega,⟨r,r,r,r,r,y⟩,(c.ad [] [4]),a⟩)))))))
   refine jI (bf a8) (q (g (s (kK r r) (s (jU r) (n ?_)))))
   rcases iv a with ⟨a9,a⟩|⟨a9,a⟩
   ·refine jH (bt a9) (g (s (lc r) (s (lc r) ?_)))
    obtain ⟨cQ,aM,a⟩:=bs a
    refine s (l7 r r aM) ?_
    obtain ⟨cR,aN,a⟩:=bs a
    refine s (l7 r r aN) (s (mE [V b.e,V b.c,V b.n,T b.a,T b.g,V b.m,V b.j,Z h b.d j,T b.k,V b.h,Z m b.b o,Z p b.f t,Z u b.i v] lG jP r (c.bk 0 r)) ?_)
    obtain ⟨bV,bW,a⟩:=bs a
    refine sc (ec IK r) (wh fu (c.pr [] [0] [3,2,1,0] r) bW) ?_
    rintro _ cS ⟨rfl,F⟩
    replace c:=c.cn [] [0] F
    obtain ⟨cT,aO,a⟩:=bs a
    refine s (l7 r r aO) ?_
    obtain ⟨bX,aP,a⟩:=bs a
    exact s (l7 r r aP) (s (mZ r) (n (g (s (mg r r (by omega) (by omega)) (s (mi r) (n (H (C.length - (D+1)) _ _ (by omega) ⟨D+1,bX,r,by omega,⟨r,r,r,r,r,y⟩,(c.ad [] [4]),a⟩)))))))
   refine jI (bf a9) (q (g (s (kK r r) (s (jU r) (n ?_)))))
   rcases iv a with ⟨aa,a⟩|⟨aa,a⟩
   ·refine jH (bt aa) (g (s (lc r) (s (lc r) ?_)))
    obtain ⟨cU,aQ,a⟩:=bs a
    refine s (l7 r r aQ) ?_
    obtain ⟨cV,aR,a⟩:=bs a
    refine s (l7 r r aR) (s (mE [V b.e,V b.c,V b.n,T b.a,T b.g,V b.m,V b.j,Z h b.d j,T b.k,V b.h,Z m b.b o,Z p b.f t,Z u b.i v] lG jP r (c.bk 0 r)) ?_)
    obtain ⟨bY,bZ,a⟩:=bs a
    refine sc (ec IK r) (wh fu (c.pr [] [0] [3,2,1,0] r) bZ) ?_
    rintro _ cW ⟨rfl,F⟩
    replace c:=c.cn [] [0] F
    obtain ⟨cX,aS,a⟩:=bs a
    refine s (l7 r r aS) ?_
    obtain ⟨c0,aT,a⟩:=bs a
    exact s (l7 r r aT) (s (mZ r) (n (g (s (mg r r (by omega) (by omega)) (s (mi r) (n (H (C.length - (D+1)) _ _ (by omega) ⟨D+1,c0,r,by omega,⟨r,r,r,r,r,y⟩,(c.ad [] [4]),a⟩)))))))
   refine jI (bf aa) (q (g (s (kK r r) (s (jU r) (n ?_)))))
   rcases iv a with ⟨ab,a⟩|⟨ab,a⟩
   ·refine jH (bt ab) (q (oJ c [0] [] [] (by kernel_rfl) ?_))
    replace c:=c.drew
    have e:=(c.dp [])
    refine pF 0 r (lc r) e (pF 1 r (lc r) e ?_)
    obtain ⟨cY,aU,a⟩:=bs a
    refine pF 2 r (l7 r r aU) e ?_
    obtain ⟨cZ,aV,a⟩:=bs a
    refine pF 3 r (l7 r r aV) e (uF 4 r (fun hS=>mE [V b.e,V b.c,V b.n,T b.a,T b.g,V b.m,V b.j,Z h b.d j,T b.k,V b.h,Z m b.b o,Z p b.f t,Z u b.i v] lG jP r (hS.bk 0 r)) e (pF 8 r (uo r) e (uF 9 r (fun hS=>FV r (hS.bk 0 r) r) e (pF 10 r (lc r) e ?_))))
    obtain ⟨d0,aW,a⟩:=bs a
    refine pF 11 r (l7 r r aW) e ?_
    obtain ⟨c1,c2,a⟩:=bs a
    refine hO 5 (oc r r (ec IK r) (wh fu (c.pr [] [0] [3,2,1,0] r) c2) ?_)
    rintro _ d1 ⟨rfl,F⟩
    replace c:=c.cn [] [0] F
    have e:=(c.dp [])
    refine ⟨(sF e),?_⟩
    obtain ⟨d2,aX,a⟩:=bs a
    refine pF 6 r (l7 r r aX) e ?_
    obtain ⟨d3,aY,a⟩:=bs a
    refine pF 7 r (l7 r r aY) e ?_
    obtain ⟨c3,c4,a⟩:=bs a
    refine hO 12 (oc r r (ec IC r) (H_p03_block (c.pr [] [0] [1] r) c4) ?_)
    rintro _ d4 ⟨rfl,F⟩
    replace c:=c.cn [] [0] F
    have e:=(c.dp [])
    refine ⟨(sF e),?_⟩
    obtain ⟨d5,aZ,a⟩:=bs a
    refine pF 13 r (l7 r r aZ) e (pF 14 r (mZ r) e (hD (q (q (g (s (tZ r) (s (FV r (c.bk 0 r) r) (s (lg yH r) (s (vG r r) (n ?_))))))))))
    rcases iv a with ⟨ac,a⟩|⟨ac,a⟩
    ·refine jH (bt ac) (g (s (lc r) (s (lc r) ?_)))
     obtain ⟨d6,b0,a⟩:=bs a
     refine s (l7 r r b0) ?_
     obtain ⟨d7,b1,a⟩:=bs a
     refine s (l7 r r b1) (s (tZ r) (s (FV r (c.bk 0 r) r) (s (lc r) ?_)))
     obtain ⟨d8,b2,a⟩:=bs a
     refine s (l7 r r b2) ?_
     obtain ⟨c5,c6,a⟩:=bs a
     refine sc (ec IC r) (H_p03_block (c.pr [] [0] [0] r) c6) ?_
     rintro _ Tj ⟨rfl,F⟩
     replace c:=c.cn [] [0] F
     obtain ⟨d9,b4,a⟩:=bs a
     refine s (l7 r r b4) (s (mZ r) (n (g (s (lc r) (s (lc r) ?_)))))
     obtain ⟨da,b5,a⟩:=bs a
     refine s (l7 r r b5) ?_
     obtain ⟨c7,b6,a⟩:=bs a
     exact s (l7 r r b6) (s (mZ r) (n (g (s (mg r r (by omega) (by omega)) (s (mi r) (n (H (C.length - (D+1)) _ _ (by omega) ⟨D+1,c7,r,by omega,⟨r,r,r,r,r,y⟩,(c.ad [] [4]),a⟩)))))))
    refine jI (bf ac) (wk (g (s (lc r) (s (lc r) ?_))))
    obtain ⟨db,b7,a⟩:=bs a
    refine s (l7 r r b7) ?_
    obtain ⟨c8,b8,a⟩:=bs a
    exact s (l7 r r b8) (s (mZ r) (n (g (s (mg r r (by omega) (by omega)) (s (mi r) (n (H (C.length - (D+1)) _ _ (by omega) ⟨D+1,c8,r,by omega,⟨r,r,r,r,r,y⟩,(c.ad [] [4]),a⟩)))))))
   refine jI (bf ab) (q (g (s (kK r r) (s (jU r) (n ?_)))))
   rcases iv a with ⟨ae,a⟩|⟨ae,a⟩
   ·refine jH (bt ae) (oJ c [0] [] [] (by kernel_rfl) ?_)
    replace c:=c.drew
    have e:=(c.dp [])
    refine pF 0 r (lc r) e (pF 1 r (lc r) e ?_)
    obtain ⟨dd,b9,a⟩:=bs a
    refine pF 2 r (l7 r r b9) e ?_
    obtain ⟨de,ba,a⟩:=bs a
    refine pF 3 r (l7 r r ba) e (uF 4 r (fun hS=>mE [V b.e,V b.c,V b.n,T b.a,T b.g,V b.m,V b.j,Z h b.d j,T b.k,V b.h,Z m b.b o,Z p b.f t,Z u b.i v] lG jP r (hS.bk 0 r)) e (pF 8 r (uo r) e (uF 9 r (fun hS=>FV r (hS.bk 0 r) r) e (pF 10 r (lc r) e ?_))))
    obtain ⟨df,bb,a⟩:=bs a
    refine pF 11 r (l7 r r bb) e (pF 14 r (lc r) e ?_)
    obtain ⟨c9,cc,a⟩:=bs a
    refine hO 5 (oc r r (ec IK r) (wh fu (c.pr [] [0] [3,2,1,0] r) cc) ?_)
    rintro _ dg ⟨rfl,F⟩
    replace c:=c.cn [] [0] F
    have e:=(c.dp [])
    refine ⟨(sF e),?_⟩
    obtain ⟨dh,bc,a⟩:=bs a
    refine pF 6 r (l7 r r bc) e ?_
    obtain ⟨di,bg,a⟩:=bs a
    refine pF 7 r (l7 r r bg) e ?_
    obtain ⟨cd,ce,a⟩:=bs a
    refine hO 12 (oc r r (ec IC r) (H_p03_block (c.pr [] [0] [1] r) ce) ?_)
    rintro _ dj ⟨rfl,F⟩
    replace c:=c.cn [] [0] F
    have e:=(c.dp [])
    refine ⟨(sF e),?_⟩
    obtain ⟨dk,bh,a⟩:=bs a
    refine pF 13 r (l7 r r bh) e ?_
    obtain ⟨dm,bi,a⟩:=bs a
    refine pF 15 r (l7 r r bi) e ?_
    obtain ⟨cg,bj,a⟩:=bs a
    exact pF 16 r (l7 r r bj) e (pF 17 r (mZ r) e (hD (g (s (mg r r (by omega) (by omega)) (s (mi r) (n (H (C.length - (D+1)) _ _ (by omega) ⟨D+1,cg,r,by omega,⟨r,r,r,r,r,y⟩,(c.ad [] [4]),a⟩)))))))
   refine jI (bf ae) (q (g (s (kK r r) (s (jU r) (n ?_)))))
   rcases iv a with ⟨af,a⟩|⟨af,a⟩
   ·refine jH (bt af) (oJ c [0] [] [] (by kernel_rfl) ?_)
    replace c:=c.drew
    have e:=(c.dp [])
    refine pF 0 r (lc r) e (pF 1 r (lc r) e ?_)
    obtain ⟨dn,bl,a⟩:=bs a
    refine pF 2 r (l7 r r bl) e ?_
    obtain ⟨dq,bm,a⟩:=bs a
    refine pF 3 r (l7 r r bm) e (pF 4 r (uo r) e (uF 5 r (fun hS=>FV r (hS.bk 0 r) r) e (pF 6 r (lc r) e ?_)))
    obtain ⟨dr,bn,a⟩:=bs a
    refine pF 7 r (l7 r r bn) e (pF 10 r (lc r) e (pF 13 r (xu r) e (uF 14 r (fun hS=>l9 r (hS.bk 0 r) r) e (pF 17 r (tZ r) e (uF 18 r (fun hS=>FV r (hS.bk 0 r) r) e (pF 19 r (lc r) e ?_))))))
    obtain ⟨dt,bo,a⟩:=bs a
    refine pF 20 r (l7 r r bo) e (pF 23 r (lc r) e ?_)
    obtain ⟨ch,ci,a⟩:=bs a
    refine hO 8 (oc r r (ec IC r) (H_p03_block (c.pr [] [0] [1] r) ci) ?_)
    rintro _ du ⟨rfl,F⟩
    replace c:=c.cn [] [0] F
    have e:=(c.dp [])
    refine ⟨(sF e),?_⟩
    obtain ⟨dv,bp,a⟩:=bs a
    refine pF 9 r (l7 r r bp) e ?_
    obtain ⟨dw,bq,a⟩:=bs a
    refine pF 11 r (l7 r r bq) e ?_
    obtain ⟨dx,br,a⟩:=bs a
    refine pF 12 r (l7 r r br) e ?_
    obtain ⟨dy,bu,a⟩:=bs a
    refine pF 15 r (l7 r r bu) e ?_
    obtain ⟨dz,bv,a⟩:=bs a
    refine pF 16 r (l7 r r bv) e ?_
    obtain ⟨cj,ck,a⟩:=bs a
    refine hO 21 (oc r r (ec IC r) (H_p03_block (c.pr [] [0] [0] r) ck) ?_)
    rintro _ dA ⟨rfl,F⟩
    replace c:=c.cn [] [0] F
    have e:=(c.dp [])
    refine ⟨(sF e),?_⟩
    obtain ⟨dB,bw,a⟩:=bs a
    refine pF 22 r (l7 r r bw) e ?_
    obtain ⟨dC,bz,a⟩:=bs a
    refine pF 24 r (l7 r r bz) e ?_
    obtain ⟨cm,bA,a⟩:=bs a
    exact pF 25 r (l7 r r bA) e (pF 26 r (mZ r) e (hD (g (s (mg r r (by omega) (by omega)) (s (mi r) (n (H (C.length - (D+1)) _ _ (by omega) ⟨D+1,cm,r,by omega,⟨r,r,r,r,r,y⟩,(c.ad [] [4]),a⟩)))))))
   exact jI (bf af) (wk (g (s (mg r r (by omega) (by omega)) (s (mi r) (n (H (C.length - (D+1)) _ _ (by omega) ⟨D+1,A,r,by omega,⟨r,r,r,r,r,y⟩,(c.ad [] [4]),a⟩))))))
  obtain rfl:D=C.length:=by omega
  rw [lH,lJ] at a
  exact q (g (s (qL r r (by omega)) (n (q (jI r (uW (bB _ _ ⟨A,⟨r,y⟩,c,sm a⟩)))))))
 clear c
 rintro f w ⟨A,hf,c,cn⟩
 obtain ⟨dN,rfl⟩:=gP _ _ hf
 clear hf
 subst cn
 replace hM:=gi hM
 refine q (g (s (lc r) (s (mZ r) (n (kP ?_)))))
 obtain rfl:=sm hM
 exact jC r (kT r) ⟨r,(c.dp [])⟩
theorem HV (fu:Nat):z8 (pu fu):=by
 induction fu with
 | zero=>exact by intro a b;intros;exact nn (by assumption)
 | succ fu ih=>exact Jz fu (pu fu) ih
theorem Js (fu:Nat):z8 (pu fu):=(HV fu)
def JA (m:jJ→Option (BA)):Prop:=∀ {f:World} {i:Nat→Prop} {e:jJ} {a:Option Addr} {b:Nat} {c:Option Addr} {d:Nat} {h:BA},Pre f i [] [.l a b e.a,.l c d e.b]→m e=some h→
 Calls Try.prog 42 #[.agg #[Z a e.a b,Z c e.b d]] f (rf fun v w=>v=T h∧Bx f w i (lT []) [] [])
def qP (fu:Nat):List Gr→Nat→BA→Option (Ld (BA) (BA))
 | [],_,a=>some (.go a)
 | e :: f,h,a=>
 (qw a (⟨#[114,101,99,111,114,100,32]⟩:BA)).bind fun i=>
 (qw i e.a).bind fun j=>
 (qw j (⟨#[32,123,32]⟩:BA)).bind fun k=>
 (xC fu e.b).bind fun b=>
 (qw k b).bind fun c=>
 (qw c (⟨#[32,125,10]⟩:BA)).bind fun d=>
 qP fu f (h+1) d
def sZ (fu:Nat):List Gn→Nat→BA→Option (Ld (BA) (BA))
 | [],_,a=>some (.go a)
 | b :: e,f,a=>
 (qw a (⟨#[102,117,110,99,32]⟩:BA)).bind fun h=>
 (qw h b.a).bind fun i=>
 (qw i (⟨#[40]⟩:BA)).bind fun j=>
 (xC fu b.b).bind fun c=>
 (qw j c).bind fun k=>
 (qw k (⟨#[41,32,123,10]⟩:BA)).bind fun l=>
 (pu fu b.f (⟨#[9]⟩:BA)).bind fun d=>
 (qw l d).bind fun m=>
 (qw m (⟨#[125,10]⟩:BA)).bind fun o=>
 sZ fu e (f+1) o
def zI (fu:Nat)(c:jJ):Option (BA):=
 (qP fu c.a 0 (⟨#[]⟩:BA)).bind fun d=>d.el (fun b=>
 (sZ fu c.b 0 b).bind fun d=>d.el (fun a=>
 some a
 ) (fun o=>some o)
 ) (fun o=>some o)
theorem JO (fu:Nat):JA (zI fu):=by
 intro w0 b3 o u v e h r0 hP H
 unfold zI at H
 have b:=hP.bx
 clear hP
 generalize hG:lT _=G at b ⊢
 refine cf Try.func42 r (ma [(0,.agg #[Z u o.a v,Z e o.b h])] ⟨r,y⟩ fun b5=>q (g (tL b (yI r) fun w1 b1 b=>s (mZ r) (n (q (g (s (mZ r) (n (q (q (g (s (wE r) (s (JP r (b.bk 0 r) r) (s (lg AC r) (s (mi r) (n ?_))))))))))))))))
 have ay:=(b.dl 0 r).bd
 obtain ⟨Y2,c,H⟩:=bs H
 refine oC (fun f w=>∃ (p:BA),Has f [(1,Pt b1),(3,T p)]∧Bx w0 w b3 G [.box b1 26 #[Z u o.a v,Z e o.b h]] [.l u v o.a,.l e h o.b]∧Ld.go p=Y2) (fun J2 ac=>?_) ?_
 ·refine nZ (kH (fun b6 f w=>∃ (I:Nat)(p:BA),b6=o.a.length - I∧I≤o.a.length∧Has f [(11,V (I:Int)),(1,Pt b1),(3,T p),(9,Z u o.a v),(10,V (o.a.length:Int))]∧Bx w0 w b3 G [.box b1 26 #[Z u o.a v,Z e o.b h]] [.l u v o.a,.l e h o.b]∧qP fu (o.a.drop I) I p=some Y2) (o.a.length) ⟨0,(⟨#[]⟩:BA),r,Nat.zero_le _,⟨r,r,r,r,r,y⟩,b,c⟩ ?_)
  clear b c
  rintro b6 f w ⟨I,p,rfl,az,hf,b,c⟩ K2 ae
  obtain ⟨b5,rfl⟩:=gP _ _ hf
  clear hf
  rcases Nat.lt_or_ge I o.a.length with Q | Q
  ·obtain ⟨K,L⟩:=lL (l:=o.a) Q
   rw [mQ L,qP] at c
   obtain ⟨aA,af,b⟩:=b.nm 0 rfl L
   obtain ⟨D,E,rfl,R⟩:=kD.out af
   replace b:=b.ku (d:=.l D E K.b) R
   refine q (g (s (qK r r (by omega)) (n (q (jH r (wk (q (nZ (q (g (s (kZ AC tu r r r (b.dl 2 r) L) (s (oL [T K.a,Z D K.b E] Jj r tu r r (b.dc 1 r)) (tL b (ko tu) fun w4 b4 b=>lu (nD b 0 [T K.a,Z D K.b E] r tu r r) fun w5 b=>n (oJ b [0] [] [] (by kernel_rfl) ?_))))))))))))))
   replace b:=b.drew
   have m:=(b.ad [0] [])
   refine pF 0 r (lc r) m ?_
   obtain ⟨g6,ag,c⟩:=bs c
   refine pF 1 r (l7 r r ag) m (pF 2 r (Ci r) m (uF 3 r (fun hS=>l9 r (hS.bk 0 r) r) m ?_))
   obtain ⟨g7,ah,c⟩:=bs c
   refine pF 4 r (l7 r r ah) m ?_
   obtain ⟨g8,ai,c⟩:=bs c
   refine pF 5 r (l7 r r ai) m (pF 6 r (wC r) m (uF 7 r (fun hS=>yF r (hS.bk 0 r) r) m ?_))
   obtain ⟨au,h9,c⟩:=bs c
   refine hO 8 (oc r r (ec QP r) (Eg fu (b.pr [] [0,1] [0] r) h9) ?_)
   rintro _ w9 ⟨rfl,S⟩
   replace b:=b.cn [] [0,1] S
   have m:=(b.ad [0] [])
   refine ⟨(sF m),?_⟩
   obtain ⟨aC,U,c⟩:=bs c
   refine pF 9 r (l7 r r U) m ?_
   obtain ⟨aj,W,c⟩:=bs c
   exact pF 10 r (l7 r r W) m (pF 11 r (mZ r) m (hD (g (s (mg r r (by omega) (by omega)) (s (mi r) (n (ae (o.a.length - (I+1)) _ _ (by omega) ⟨I+1,aj,r,by omega,⟨r,r,r,r,r,y⟩,(b.ad [1] [2,3]),c⟩)))))))
  obtain rfl:I=o.a.length:=by omega
  rw [lH,qP] at c
  exact q (g (s (qL r r (by omega)) (n (q (jI r (uW (ac _ _ ⟨p,⟨r,r,y⟩,b,sm c⟩)))))))
 clear b
 rintro f w ⟨p,hf,b,ak⟩
 obtain ⟨b5,rfl⟩:=gP _ _ hf
 clear hf
 subst ak
 replace H:=gi H
 refine q (q (g (s (vS r) (s (Iq r (b.bk 0 r) r) (s (lg yR r) (s (mi r) (n ?_)))))))
 have av:=(b.dl 1 r).bd
 obtain ⟨X,a,H⟩:=bs H
 refine oC (fun f w=>∃ (j:BA),Has f [(3,T j)]∧Bx w0 w b3 G [] [.l e h o.b]∧Ld.go j=X) (fun aD Y=>?_) ?_
 ·refine nZ (kH (fun b6 f w=>∃ (x:Nat)(j:BA),b6=o.b.length - x∧x≤o.b.length∧Has f [(30,V (x:Int)),(3,T j),(28,Z e o.b h),(29,V (o.b.length:Int))]∧Bx w0 w b3 G [] [.l e h o.b]∧sZ fu (o.b.drop x) x j=some X) (o.b.length) ⟨0,p,r,Nat.zero_le _,⟨r,r,r,r,y⟩,(b.ad [] [1]),a⟩ ?_)
  clear b a
  rintro b6 f w ⟨x,j,rfl,aw,hf,b,a⟩ aE a0
  obtain ⟨b5,rfl⟩:=gP _ _ hf
  clear hf
  rcases Nat.lt_or_ge x o.b.length with J | J
  ·obtain ⟨t,F⟩:=lL (l:=o.b) J
   rw [mQ F,sZ] at a
   obtain ⟨ax,a1,b⟩:=b.nm 0 rfl F
   obtain ⟨z,A,B,C,rfl,M,N⟩:=kC.out a1
   replace b:=b.ku (d:=.l z A t.b) M
   replace b:=b.ku (d:=.l B C t.f) N
   refine q (g (s (qK r r (by omega)) (n (q (jH r (wk (q (nZ (q (g (s (kZ yR mX r r r (b.dl 3 r) F) (s (oL [T t.a,V t.c,Z z t.b A,Z B t.f C] Bv r mX r r (b.dc 2 r)) (tL b (ko mX) fun aF aG b=>lu (nD b 0 [T t.a,V t.c,Z z t.b A,Z B t.f C] r mX r r) fun aH b=>n (oJ b [0] [] [] (by kernel_rfl) ?_))))))))))))))
   replace b:=b.drew
   have m:=(b.dp [])
   refine pF 0 r (lc r) m ?_
   obtain ⟨aI,a2,a⟩:=bs a
   refine pF 1 r (l7 r r a2) m (pF 2 r (CP r) m (uF 3 r (fun hS=>l9 r (hS.bk 0 r) r) m ?_))
   obtain ⟨aJ,a3,a⟩:=bs a
   refine pF 4 r (l7 r r a3) m ?_
   obtain ⟨aK,a4,a⟩:=bs a
   refine pF 5 r (l7 r r a4) m (pF 6 r (zD r) m (uF 7 r (fun hS=>yF r (hS.bk 0 r) r) m (pF 11 r (Av r) m (uF 12 r (fun hS=>FV r (hS.bk 0 r) r) m ?_))))
   obtain ⟨al,am,a⟩:=bs a
   refine hO 8 (oc r r (ec QP r) (Eg fu (b.pr [] [0] [1] r) am) ?_)
   rintro _ aL ⟨rfl,S⟩
   replace b:=b.cn [] [0] S
   have m:=(b.dp [])
   refine ⟨(sF m),?_⟩
   obtain ⟨aM,a5,a⟩:=bs a
   refine pF 9 r (l7 r r a5) m ?_
   obtain ⟨aN,a6,a⟩:=bs a
   refine pF 10 r (l7 r r a6) m ?_
   obtain ⟨an,ao,a⟩:=bs a
   refine hO 13 (oc r r (ec IC r) (Js fu (b.pr [] [0] [0] r) ao) ?_)
   rintro _ aO ⟨rfl,S⟩
   replace b:=b.cn [] [0] S
   have m:=(b.dp [])
   refine ⟨(sF m),?_⟩
   obtain ⟨aP,a7,a⟩:=bs a
   refine pF 14 r (l7 r r a7) m ?_
   obtain ⟨ap,a8,a⟩:=bs a
   exact pF 15 r (l7 r r a8) m (pF 16 r (mZ r) m (hD (g (s (mg r r (by omega) (by omega)) (s (mi r) (n (a0 (o.b.length - (x+1)) _ _ (by omega) ⟨x+1,ap,r,by omega,⟨r,r,r,r,y⟩,(b.ad [] [3]),a⟩)))))))
  obtain rfl:x=o.b.length:=by omega
  rw [lH,sZ] at a
  exact q (g (s (qL r r (by omega)) (n (q (jI r (uW (Y _ _ ⟨j,⟨r,y⟩,b,sm a⟩)))))))
 clear b
 rintro f w ⟨j,hf,b,a9⟩
 obtain ⟨b5,rfl⟩:=gP _ _ hf
 clear hf
 subst a9
 replace H:=gi H
 refine q (g (s (lc r) (s (mZ r) (n (kP ?_)))))
 obtain rfl:=sm H
 exact jC r (kT r) ⟨r,(b.dp [])⟩
end
end Go.Proofs.Ytfglbdkfnphjgaa
