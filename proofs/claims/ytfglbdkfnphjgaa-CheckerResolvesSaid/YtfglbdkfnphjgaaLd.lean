/- Contracts, printed by gen3.py. -/
import Derived.Test.YtfglbdkfnphjgaaZt
import Derived.Test.YtfglbdkfnphjgaaLa
set_option linter.unusedVariables false
set_option maxHeartbeats 12800000
set_option linter.unusedSimpArgs false
set_option maxRecDepth 4000
namespace Go.Proofs.Ytfglbdkfnphjgaa
open Go.RowKit Go.Fw
noncomputable section
abbrev T_r03_Expr:=GExpr→Int→Option (ByteArray)
def Ct_r03_Expr (m:Ge→Int→Option (BA)):Prop:=∀ {d:World} {h:Nat→Prop} {c:Ge} {e:Int} {a:Option Addr} {b:Nat} {f:BA},Pre d h [] [.l a b c.Args]→m c e=some f→
 Calls Try.prog 78 #[.agg #[V c.Op,V c.Number,V c.Var,T c.Name,T c.Field,Z a c.Args b],V e] d (Ret fun v w=>v=T f∧Bx d w h (Gof []) [] [])
def F_r03_Expr_J1 (fu:Nat)(r_r03_Expr:T_r03_Expr) (a:Ge):Option (Ld (Bool) (BA)):=
 if a.Op=3 then
  some (.go (decide (0 < (a.Args.length:Int))))
 else
  some (.go false)
def F_r03_Expr_J2 (fu:Nat)(r_r03_Expr:T_r03_Expr) (b:Ge) (a:Int):Option (Ld (Bool) (BA)):=
 if a=5 then
  some (.go (decide (0 < (b.Args.length:Int))))
 else
  some (.go false)
def F_r03_Expr_J3 (fu:Nat)(r_r03_Expr:T_r03_Expr) (a:Int):Option (Ld (Int) (BA)):=
 if a=1 then
  some (.go 2)
 else
  some (.go a)
def F_r03_Expr_J0 (fu:Nat)(r_r03_Expr:T_r03_Expr) (a:Ge) (b:Int):Option (Ld (BA) (BA)):=
 if a.Op=0 then
  (m_r03_Digits fu a.Number).bind fun j=>
  some (.go j)
 else
  if a.Op=2 then
   (cat a.Name (⟨#[46]⟩:BA)).bind fun F=>
   (cat F a.Field).bind fun G=>
   some (.go G)
  else
   (F_r03_Expr_J1 fu r_r03_Expr a).bind fun H=>H.el (fun k=>
   if k=true then
    (ix a.Args 0).bind fun l=>
    (cat a.Name (⟨#[91]⟩:BA)).bind fun m=>
    (r_r03_Expr l 1).bind fun c=>
    (cat m c).bind fun p=>
    (cat p (⟨#[93]⟩:BA)).bind fun t=>
    some (.go t)
   else
    (F_r03_Expr_J2 fu r_r03_Expr a b).bind fun H=>H.el (fun d=>
    if d=true then
     (ix a.Args 0).bind fun u=>
     (ix ([(⟨#[45]⟩:BA),(⟨#[33]⟩:BA)]:List BA) (wr (a.Op - 4))).bind fun v=>
     (r_r03_Expr u 5).bind fun e=>
     (cat v e).bind fun w=>
     some (.go w)
    else
     if b < 5 then
      if 1 < (a.Args.length:Int) then
       (F_r03_Expr_J3 fu r_r03_Expr b).bind fun H=>H.el (fun f=>
       (ix a.Args 0).bind fun x=>
       (ix a.Args 1).bind fun z=>
       (ix ([(⟨#[43]⟩:BA),(⟨#[45]⟩:BA),(⟨#[42]⟩:BA),(⟨#[47]⟩:BA),(⟨#[37]⟩:BA),(⟨#[38]⟩:BA),(⟨#[124]⟩:BA),(⟨#[94]⟩:BA),(⟨#[60]⟩:BA),(⟨#[60,61]⟩:BA),(⟨#[61,61]⟩:BA),(⟨#[33,61]⟩:BA)]:List BA) (wr (a.Op - 6))).bind fun A=>
       (r_r03_Expr x f).bind fun h=>
       (cat h (⟨#[32]⟩:BA)).bind fun B=>
       (cat B A).bind fun C=>
       (cat C (⟨#[32]⟩:BA)).bind fun D=>
       (r_r03_Expr z (wr (b+1))).bind fun i=>
       (cat D i).bind fun E=>
       some (.go E)
       ) (fun o=>some (.out o))
      else
       some (.go a.Name)
     else
      some (.go a.Name)
    ) (fun o=>some (.out o))
   ) (fun o=>some (.out o))
def F_r03_Expr (fu:Nat)(r_r03_Expr:T_r03_Expr) (e:Ge) (f:Int):Option (BA):=
 (m_r03_rank fu e.Op).bind fun a=>
 (F_r03_Expr_J0 fu r_r03_Expr e a).bind fun h=>h.el (fun b=>
 if a < f then
  (cat (⟨#[40]⟩:BA) b).bind fun c=>
  (cat c (⟨#[41]⟩:BA)).bind fun d=>
  some d
 else
  some b
 ) (fun o=>some o)
def tab_r03_Expr:Nat→(Ge→Int→Option (BA))
 | 0=>(fun _ _=>none)
 | fu+1=>F_r03_Expr fu (tab_r03_Expr fu)
def m_r03_Expr (fu:Nat):=(tab_r03_Expr fu)
theorem wk_r03_Expr (fu:Nat)(r_r03_Expr:T_r03_Expr) (H_r03_Expr:Ct_r03_Expr r_r03_Expr):Ct_r03_Expr (F_r03_Expr fu r_r03_Expr):=by
 intro w0 bU e x1 j m r0 hP v
 unfold F_r03_Expr at v
 have b:=hP.bx
 clear hP
 generalize hG:Gof _=G at b ⊢
 refine cf Try.func78 r ?_
 refine wCut [(0,.agg #[V e.Op,V e.Number,V e.Var,T e.Name,T e.Field,Z j e.Args m]),(1,V x1)] ⟨r,r,y⟩ fun bV=>?_
 refine q (g (sTo (aNewB b (mBox r)) ?_))
 rintro _ w1 ⟨b1,rfl,b⟩
 refine s (xAsT r) (n (q (g (s (f138_0 r) (s (l3 r (b.bk 0 r) r) ?_)))))
 obtain ⟨p,h2,v⟩:=bs v
 have hc:=(sp_r03_rank fu) (b.pr [] [0] [] r)  h2
 refine sc (ec cal106 r) hc ?_
 rintro _ w2 ⟨rfl,x⟩
 replace b:=b.cl [] [0] r x r
 try dsimp only [pick,nth,ca,na] at b
 refine s (xi r) (n (q (g (s (f138_3 r) (s (l9 r (b.bk 0 r) r) (s (xAsT r) (n (q ?_))))))))
 obtain ⟨Y3,a,v⟩:=bs v
 refine wJd (fun f w=>∃ (N:BA),Has f [(1,V x1),(5,V p),(6,T N)]∧Bx w0 w bU G [] []∧Ld.go N=Y3) (fun J3 z=>?_) ?_
 ·unfold F_r03_Expr_J0 at a
  refine wBk (q (g (s (f138_0 r) (s (l3 r (b.bk 0 r) r) (s (xEqlD r r) (s (xAsB r) (n ?_)))))))
  rcases iv a with ⟨h4,a⟩|⟨h4,a⟩
  ·refine wIfT (bt h4) (g (s (f138_1 r) (s (l3 r (b.bk 0 r) r) ?_)))
   obtain ⟨ao,h5,a⟩:=bs a
   have hc:=(sp_r03_Digits fu) (b.pr [] [0] [] r)  h5
   refine sc (ec cal79 r) hc ?_
   rintro _ w5 ⟨rfl,x⟩
   replace b:=b.cl [] [0] r x r
   try dsimp only [pick,nth,ca,na] at b
   refine s (xAsT r) (n ?_)
   exact z _ _ ⟨ao,⟨r,r,r,y⟩,(b.ad [] []),sm a⟩
  refine wIfF (bf h4) (q (g (s (f138_0 r) (s (l3 r (b.bk 0 r) r) (s (xEqlD r r) (s (xAsB r) (n ?_)))))))
  rcases iv a with ⟨h6,a⟩|⟨h6,a⟩
  ·refine wIfT (bt h6) (g (s (f138_3 r) (s (l9 r (b.bk 0 r) r) ?_)))
   obtain ⟨g7,aR,a⟩:=bs a
   refine s (xCat r r aR) (s (f138_4 r) (s (l9 r (b.bk 0 r) r) ?_))
   obtain ⟨g8,aS,a⟩:=bs a
   refine s (xCat r r aS) (s (xAsT r) (n ?_))
   exact z _ _ ⟨g8,⟨r,r,r,y⟩,(b.ad [] []),sm a⟩
  refine wIfF (bf h6) (q ?_)
  obtain ⟨Y9,M,a⟩:=bs a
  refine wJd (fun f w=>∃ (Q:Bool),Has f [(1,V x1),(2,Pt b1),(5,V p),(6,T e.Name),(31,.bool Q)]∧Bx w0 w bU G [.box b1 138 #[V e.Op,V e.Number,V e.Var,T e.Name,T e.Field,Z j e.Args m]] [.l j m e.Args]∧Ld.go Q=Y9) (fun J9 ap=>?_) ?_
  ·unfold F_r03_Expr_J1 at M
   refine g (s (f138_0 r) (s (l3 r (b.bk 0 r) r) (s (xEqlD r r) (s (xMvB r) ?_))))
   rcases iv M with ⟨a8,M⟩|⟨a8,M⟩
   ·rw [decide_eq_true a8]
    refine sGo r (s (f138_5 r) (sGo r (s (l109 r (b.bk 0 r) r) (sGo r (s (xLnR u109_ r) (sGo r (s (xGtr r r) (s (xPkTB r r) (s (xAsB r) (n ?_))))))))))
    exact ap _ _ ⟨(decide (0 < (e.Args.length:Int))),⟨r,r,r,r,r,y⟩,b,sm M⟩
   rw [decide_eq_false a8]
   refine sNo r (sNo r (sNo r (sNo r (s (xPkFB r r) (s (xAsB r) (n ?_))))))
   exact ap _ _ ⟨false,⟨r,r,r,r,r,y⟩,b,sm M⟩
  clear b
  rintro f w ⟨Q,hf,b,aT⟩
  obtain ⟨bV,rfl⟩:=has_updL _ _ hf
  clear hf
  subst aT
  replace a:=gi a
  rcases iv a with ⟨R,a⟩|⟨R,a⟩
  ·refine wIfT (cb R) ?_
   obtain ⟨A,H,a⟩:=bs a
   obtain ⟨bl,aq,H⟩:=ix_inv H
   obtain ⟨b9,ar,b⟩:=b.nm 0 rfl H
   obtain ⟨S,U,rfl,a9⟩:=GExpr.out ar
   replace b:=b.dadd (d:=.l S U A.Args) a9
   refine wDr1 b [0] [0,1,2] [] (by kernel_rfl) ?_
   replace b:=b.drew
   have c:=b
   refine pF 0 r (f138_3 r) c (uF 1 r (fun hS=>l9 r (hS.bk 0 r) r) c ?_)
   obtain ⟨bm,au,a⟩:=bs a
   refine pF 2 r (xCat r r au) c (pF 3 r (f138_5 r) c (uF 4 r (fun hS=>l109 r (hS.bk 0 r) r) c (pF 5 r (xIdR u109_ ti138 r r aq (b.dl 2 r) H) c (uF 6 r (fun hS=>xLoadS [V A.Op,V A.Number,V A.Var,T A.Name,T A.Field,Z S A.Args U] u138_ r ti138 r r (hS.dc 1 r)) c ?_))))
   obtain ⟨aU,aV,a⟩:=bs a
   have hc:=H_r03_Expr (b.pr [] [0] [0] r)  aV
   refine hO 7 (oc r r (ec cal78 r) hc ?_)
   rintro _ bn ⟨rfl,x⟩
   replace b:=b.cl [] [0] r x r
   try dsimp only [pick,nth,ca,na] at b
   have c:=b
   refine ⟨(sF c),?_⟩
   obtain ⟨bo,av,a⟩:=bs a
   refine pF 8 r (xCat r r av) c ?_
   obtain ⟨aW,aw,a⟩:=bs a
   refine pF 9 r (xCat r r aw) c (pF 10 r (xAsT r) c (hD ?_))
   exact z _ _ ⟨aW,⟨r,r,r,y⟩,(b.ad [] []),sm a⟩
  replace R:=nt R
  refine wIfF (cb R) (q ?_)
  obtain ⟨aX,t,a⟩:=bs a
  refine wJd (fun f w=>∃ (B:Bool),Has f [(1,V x1),(2,Pt b1),(5,V p),(6,T e.Name),(51,.bool B)]∧Bx w0 w bU G [.box b1 138 #[V e.Op,V e.Number,V e.Var,T e.Name,T e.Field,Z j e.Args m]] [.l j m e.Args]∧Ld.go B=aX) (fun bp a5=>?_) ?_
  ·unfold F_r03_Expr_J2 at t
   refine g (s (mi r) (s (xEqlD r r) (s (xMvB r) ?_)))
   rcases iv t with ⟨aa,t⟩|⟨aa,t⟩
   ·rw [decide_eq_true aa]
    refine sGo r (s (f138_5 r) (sGo r (s (l109 r (b.bk 0 r) r) (sGo r (s (xLnR u109_ r) (sGo r (s (xGtr r r) (s (xPkTB r r) (s (xAsB r) (n ?_))))))))))
    exact a5 _ _ ⟨(decide (0 < (e.Args.length:Int))),⟨r,r,r,r,r,y⟩,b,sm t⟩
   rw [decide_eq_false aa]
   refine sNo r (sNo r (sNo r (sNo r (s (xPkFB r r) (s (xAsB r) (n ?_))))))
   exact a5 _ _ ⟨false,⟨r,r,r,r,r,y⟩,b,sm t⟩
  clear b
  rintro f w ⟨B,hf,b,ax⟩
  obtain ⟨bV,rfl⟩:=has_updL _ _ hf
  clear hf
  subst ax
  replace a:=gi a
  rcases iv a with ⟨W,a⟩|⟨W,a⟩
  ·refine wIfT (cb W) ?_
   obtain ⟨C,I,a⟩:=bs a
   obtain ⟨bq,ay,I⟩:=ix_inv I
   obtain ⟨ba,az,b⟩:=b.nm 0 rfl I
   obtain ⟨X,Y,rfl,ab⟩:=GExpr.out az
   replace b:=b.dadd (d:=.l X Y C.Args) ab
   obtain ⟨ac,o,a⟩:=bs a
   obtain ⟨br,a6,o⟩:=ix_inv o
   obtain ⟨aY,ae,a⟩:=bs a
   obtain ⟨aA,a0,a⟩:=bs a
   refine wJd (fun f w=>Has f [(1,V x1),(5,V p),(6,T aA)]∧Bx w0 w bU G [] []) (fun Jd hJd=>?_) ?_
   ·refine wDr1 b [0] [0,1,2] [] (by kernel_rfl) ?_
    replace b:=b.drew
    have c:=b
    refine pF 1 r (f138_0 r) c (uF 2 r (fun hS=>l3 r (hS.bk 0 r) r) c (pF 3 r (xSubW r r) c (pF 6 r (f138_5 r) c (uF 7 r (fun hS=>l109 r (hS.bk 0 r) r) c (pF 8 r (xIdR u109_ ti138 r r ay (b.dl 2 r) I) c (uF 9 r (fun hS=>xLoadS [V C.Op,V C.Number,V C.Var,T C.Name,T C.Field,Z X C.Args Y] u138_ r ti138 r r (hS.dc 1 r)) c ?_))))))
    refine hList' 0 [10] (by kernel_rfl) (om_cons' ?_ (om_cons' ?_ om_nil'))
    ·refine oo r r (aRowB b [[T (⟨#[45]⟩:BA)],[T (⟨#[33]⟩:BA)]] ([(⟨#[45]⟩:BA),(⟨#[33]⟩:BA)]:List BA) (bs70_2_a r r) r r (by decide) ⟨r,⟨r,y⟩⟩) ?_
     rintro _ bu ⟨bv,rfl,b⟩
     have c:=(b.ad [1] [1,2,3])
     refine ⟨(sF c),?_⟩
     refine pF 4 r (xIdR u70_ ti9 r r a6 (b.vw 0 0 r r) o) c ?_
     refine hList' 5 [10] (by kernel_rfl) (om_cons' ?_ (om_cons' ?_ om_nil'))
     ·have c:=(b.ad [1] [1,2,3])
      refine oRun' r r (xLoad u9_ r r ((elF (ds:=[T ac]) (b.vw 0 0 r r) o (fun _ h=>h)) 0 _ r)) (sF c) ?_
      have hc:=H_r03_Expr (b.pr [] [0,1] [1] r)  ae
      refine hO 10 (oc r r (ec cal78 r) hc ?_)
      rintro _ aB ⟨rfl,x⟩
      replace b:=b.cl [] [0,1] r x r
      try dsimp only [pick,nth,ca,na] at b
      have c:=(b.ad [1] [1,2,3])
      refine ⟨(sF c),?_⟩
      refine pF 11 r (xCat r r a0) c (pF 12 r (xAsT r) c (hD ?_))
      exact hJd _ _ ⟨⟨r,r,r,y⟩,(b.ad [] [])⟩
     have hc:=H_r03_Expr (b.pr [] [0,1] [1] r)  ae
     refine oc r r (ec cal78 r) hc ?_
     rintro _ aB ⟨rfl,x⟩
     replace b:=b.cl [] [0,1] r x r
     try dsimp only [pick,nth,ca,na] at b
     have c:=(b.ad [1] [1,2,3])
     refine ⟨(sF c),?_⟩
     refine hO 5 (oRun' r r (xLoad u9_ r r ((elF (ds:=[T ac]) (b.vw 0 0 r r) o (fun _ h=>h)) 0 _ r)) (sF c) ?_)
     refine pF 11 r (xCat r r a0) c (pF 12 r (xAsT r) c (hD ?_))
     exact hJd _ _ ⟨⟨r,r,r,y⟩,(b.ad [] [])⟩
    have hc:=H_r03_Expr (b.pr [] [0] [0] r)  ae
    refine oc r r (ec cal78 r) hc ?_
    rintro _ aB ⟨rfl,x⟩
    replace b:=b.cl [] [0] r x r
    try dsimp only [pick,nth,ca,na] at b
    have c:=b
    refine ⟨(sF c),?_⟩
    refine hO 0 (oo r r (aRowB b [[T (⟨#[45]⟩:BA)],[T (⟨#[33]⟩:BA)]] ([(⟨#[45]⟩:BA),(⟨#[33]⟩:BA)]:List BA) (bs70_2_a r r) r r (by decide) ⟨r,⟨r,y⟩⟩) ?_)
    rintro _ bw ⟨bz,rfl,b⟩
    have c:=(b.ad [1] [1,2,3])
    refine ⟨(sF c),?_⟩
    refine pF 4 r (xIdR u70_ ti9 r r a6 (b.vw 0 0 r r) o) c ?_
    refine hO 5 (oRun' r r (xLoad u9_ r r ((elF (ds:=[T ac]) (b.vw 0 0 r r) o (fun _ h=>h)) 0 _ r)) (sF c) ?_)
    refine pF 11 r (xCat r r a0) c (pF 12 r (xAsT r) c (hD ?_))
    exact hJd _ _ ⟨⟨r,r,r,y⟩,(b.ad [] [])⟩
   clear b
   rintro f w ⟨hf,b⟩
   obtain ⟨bV,rfl⟩:=has_updL _ _ hf
   clear hf
   exact z _ _ ⟨aA,⟨r,r,r,y⟩,b,sm a⟩
  replace W:=nt W
  refine wIfF (cb W) (q (g (s (mi r) (s (xLss r r) (s (xMvB r) ?_)))))
  rcases iv a with ⟨af,a⟩|⟨af,a⟩
  ·rw [decide_eq_true af]
   refine sGo r (s (f138_5 r) (sGo r (s (l109 r (b.bk 0 r) r) (sGo r (s (xLnR u109_ r) (sGo r (s (xGtr r r) (s (xPkTB r r) (s (xAsB r) (n ?_))))))))))
   rcases iv a with ⟨ag,a⟩|⟨ag,a⟩
   ·refine wIfT (bt ag) (q (g (sTo (aRowB b [[T (⟨#[43]⟩:BA)],[T (⟨#[45]⟩:BA)],[T (⟨#[42]⟩:BA)],[T (⟨#[47]⟩:BA)],[T (⟨#[37]⟩:BA)],[T (⟨#[38]⟩:BA)],[T (⟨#[124]⟩:BA)],[T (⟨#[94]⟩:BA)],[T (⟨#[60]⟩:BA)],[T (⟨#[60,61]⟩:BA)],[T (⟨#[61,61]⟩:BA)],[T (⟨#[33,61]⟩:BA)]] ([(⟨#[43]⟩:BA),(⟨#[45]⟩:BA),(⟨#[42]⟩:BA),(⟨#[47]⟩:BA),(⟨#[37]⟩:BA),(⟨#[38]⟩:BA),(⟨#[124]⟩:BA),(⟨#[94]⟩:BA),(⟨#[60]⟩:BA),(⟨#[60,61]⟩:BA),(⟨#[61,61]⟩:BA),(⟨#[33,61]⟩:BA)]:List BA) (bs70_12_a r r r r r r r r r r r r) r r (by decide) ⟨r,⟨r,⟨r,⟨r,⟨r,⟨r,⟨r,⟨r,⟨r,⟨r,⟨r,⟨r,y⟩⟩⟩⟩⟩⟩⟩⟩⟩⟩⟩⟩) ?_)))
    rintro _ bA ⟨aC,rfl,b⟩
    refine s (xAsS r) (n (q (g (s (mi r) (s (xi r) (n (q ?_)))))))
    obtain ⟨aZ,u,a⟩:=bs a
    refine wJd (fun f w=>∃ (D:Int),Has f [(1,V x1),(2,Pt b1),(5,V p),(7,.slice (ad aC) ([(⟨#[43]⟩:BA),(⟨#[45]⟩:BA),(⟨#[42]⟩:BA),(⟨#[47]⟩:BA),(⟨#[37]⟩:BA),(⟨#[38]⟩:BA),(⟨#[124]⟩:BA),(⟨#[94]⟩:BA),(⟨#[60]⟩:BA),(⟨#[60,61]⟩:BA),(⟨#[61,61]⟩:BA),(⟨#[33,61]⟩:BA)]:List BA).length 12),(8,V D)]∧Bx w0 w bU G [O w0.heap.size (ad aC) 12 9 BA [[T (⟨#[43]⟩:BA)],[T (⟨#[45]⟩:BA)],[T (⟨#[42]⟩:BA)],[T (⟨#[47]⟩:BA)],[T (⟨#[37]⟩:BA)],[T (⟨#[38]⟩:BA)],[T (⟨#[124]⟩:BA)],[T (⟨#[94]⟩:BA)],[T (⟨#[60]⟩:BA)],[T (⟨#[60,61]⟩:BA)],[T (⟨#[61,61]⟩:BA)],[T (⟨#[33,61]⟩:BA)]],.box b1 138 #[V e.Op,V e.Number,V e.Var,T e.Name,T e.Field,Z j e.Args m]] [.els [[T (⟨#[43]⟩:BA)],[T (⟨#[45]⟩:BA)],[T (⟨#[42]⟩:BA)],[T (⟨#[47]⟩:BA)],[T (⟨#[37]⟩:BA)],[T (⟨#[38]⟩:BA)],[T (⟨#[124]⟩:BA)],[T (⟨#[94]⟩:BA)],[T (⟨#[60]⟩:BA)],[T (⟨#[60,61]⟩:BA)],[T (⟨#[61,61]⟩:BA)],[T (⟨#[33,61]⟩:BA)]] ([(⟨#[43]⟩:BA),(⟨#[45]⟩:BA),(⟨#[42]⟩:BA),(⟨#[47]⟩:BA),(⟨#[37]⟩:BA),(⟨#[38]⟩:BA),(⟨#[124]⟩:BA),(⟨#[94]⟩:BA),(⟨#[60]⟩:BA),(⟨#[60,61]⟩:BA),(⟨#[61,61]⟩:BA),(⟨#[33,61]⟩:BA)]:List BA),.l j m e.Args]∧Ld.go D=aZ) (fun bB a7=>?_) ?_
    ·unfold F_r03_Expr_J3 at u
     refine q (g (s (mi r) (s (xEqlD r r) (n ?_))))
     rcases iv u with ⟨ah,u⟩|⟨ah,u⟩
     ·refine wIfT (bt ah) (g (s (xi r) (n ?_)))
      exact a7 _ _ ⟨2,⟨r,r,r,r,r,y⟩,b,sm u⟩
     refine wIfF (bf ah) (wk ?_)
     exact a7 _ _ ⟨p,⟨r,r,r,r,r,y⟩,b,sm u⟩
    clear b
    rintro f w ⟨D,hf,b,aD⟩
    obtain ⟨bV,rfl⟩:=has_updL _ _ hf
    clear hf
    subst aD
    replace a:=gi a
    obtain ⟨E,J,a⟩:=bs a
    obtain ⟨bC,aE,J⟩:=ix_inv J
    obtain ⟨bb,aF,b⟩:=b.nm 1 rfl J
    obtain ⟨a1,a2,rfl,ai⟩:=GExpr.out aF
    replace b:=b.dadd (d:=.l a1 a2 E.Args) ai
    obtain ⟨F,K,a⟩:=bs a
    obtain ⟨bD,aG,K⟩:=ix_inv K
    obtain ⟨bc,aH,b⟩:=b.nm 3 rfl K
    obtain ⟨a3,a4,rfl,aj⟩:=GExpr.out aH
    replace b:=b.dadd (d:=.l a3 a4 F.Args) aj
    refine wDr1 b [0,1] [0,1,2,3,4,5] [] (by kernel_rfl) ?_
    replace b:=b.drew
    have c:=b
    refine pF 0 r (f138_5 r) c (uF 1 r (fun hS=>l109 r (hS.bk 1 r) r) c (pF 2 r (xIdR u109_ ti138 r r aE (b.dl 5 r) J) c (uF 3 r (fun hS=>xLoadS [V E.Op,V E.Number,V E.Var,T E.Name,T E.Field,Z a1 E.Args a2] u138_ r ti138 r r (hS.dc 3 r)) c (pF 4 r (mi r) c (pF 7 r (xMvS r) c (pF 8 r (f138_0 r) c (uF 9 r (fun hS=>l3 r (hS.bk 1 r) r) c (pF 10 r (xSubW r r) c ?_))))))))
    obtain ⟨b0,L,a⟩:=bs a
    obtain ⟨bE,aI,L⟩:=ix_inv L
    refine pF 11 r (xIdR u70_ ti9 r r aI (b.vw 0 4 r r) L) c (tU 12 r (fun _ hS=>xLoad u9_ r r ((elF (ds:=[T b0]) (hS.vw 0 4 r r) L (fun _ h=>h)) 0 _ r)) (sF c) (pF 15 r (f138_5 r) c (uF 16 r (fun hS=>l109 r (hS.bk 1 r) r) c (pF 17 r (xIdR u109_ ti138 r r aG (b.dl 5 r) K) c (uF 18 r (fun hS=>xLoadS [V F.Op,V F.Number,V F.Var,T F.Name,T F.Field,Z a3 F.Args a4] u138_ r ti138 r r (hS.dc 1 r)) c (pF 19 r (mi r) c (pF 20 r (xAddW r r) c ?_)))))))
    obtain ⟨b2,b3,a⟩:=bs a
    have hc:=H_r03_Expr (b.pr [] [0,1] [2] r)  b3
    refine hO 5 (oc r r (ec cal78 r) hc ?_)
    rintro _ bF ⟨rfl,x⟩
    replace b:=b.cl [] [0,1] r x r
    try dsimp only [pick,nth,ca,na] at b
    have c:=b
    refine ⟨(sF c),?_⟩
    obtain ⟨bG,aJ,a⟩:=bs a
    refine pF 6 r (xCat r r aJ) c ?_
    obtain ⟨bH,aK,a⟩:=bs a
    refine pF 13 r (xCat r r aK) c ?_
    obtain ⟨bI,aL,a⟩:=bs a
    refine pF 14 r (xCat r r aL) c ?_
    obtain ⟨b4,b5,a⟩:=bs a
    have hc:=H_r03_Expr (b.pr [] [0,1] [0] r)  b5
    refine hO 21 (oc r r (ec cal78 r) hc ?_)
    rintro _ bJ ⟨rfl,x⟩
    replace b:=b.cl [] [0,1] r x r
    try dsimp only [pick,nth,ca,na] at b
    have c:=b
    refine ⟨(sF c),?_⟩
    obtain ⟨b6,aM,a⟩:=bs a
    refine pF 22 r (xCat r r aM) c (pF 23 r (xAsT r) c (hD ?_))
    exact z _ _ ⟨b6,⟨r,r,r,y⟩,(b.ad [] []),sm a⟩
   refine wIfF (bf ag) (wk ?_)
   exact z _ _ ⟨e.Name,⟨r,r,r,y⟩,(b.ad [] []),sm a⟩
  rw [decide_eq_false af]
  refine sNo r (sNo r (sNo r (sNo r (s (xPkFB r r) (s (xAsB r) (n (wIfF r (wk ?_))))))))
  exact z _ _ ⟨e.Name,⟨r,r,r,y⟩,(b.ad [] []),sm a⟩
 clear b
 rintro f w ⟨N,hf,b,b7⟩
 obtain ⟨bV,rfl⟩:=has_updL _ _ hf
 clear hf
 subst b7
 replace v:=gi v
 refine q (q (g (s (mi r) (s (mi r) (s (xLss r r) (n ?_))))))
 rcases iv v with ⟨ak,v⟩|⟨ak,v⟩
 ·refine wIfT (bt ak) (q (g (s (xMvT r) ?_)))
  obtain ⟨bK,aN,v⟩:=bs v
  refine s (xCat r r aN) ?_
  obtain ⟨bL,aO,v⟩:=bs v
  refine s (xCat r r aO) (s (xAsT r) (n (wRt ?_)))
  obtain rfl:=sm v
  refine resV1 r (rdT r) ?_
  exact ⟨r,b⟩
 refine wIfF (bf ak) (wk (q (g (s (xMvT r) (s (xAsT r) (n (wRt ?_)))))))
 obtain rfl:=sm v
 refine resV1 r (rdT r) ?_
 exact ⟨r,b⟩
theorem sps_r03_Expr (fu:Nat):Ct_r03_Expr (m_r03_Expr fu):=by
 induction fu with
 | zero=>exact by intro a b;intros;exact nn (by assumption)
 | succ fu ih=>exact wk_r03_Expr fu (m_r03_Expr fu) ih
theorem sp_r03_Expr (fu:Nat):Ct_r03_Expr (m_r03_Expr fu):=(sps_r03_Expr fu)
def Ct_r03_list (m:(List Ge)→Option (BA)):Prop:=∀ {c:World} {f:Nat→Prop} {d:(List Ge)} {a:Option Addr} {b:Nat} {e:BA},Pre c f [] [.l a b d]→m d=some e→
 Calls Try.prog 107 #[Z a d b] c (Ret fun v w=>v=T e∧Bx c w f (Gof []) [] [])
def m_r03_list_J1 (fu:Nat)(a:BA) (b:Nat):Option (Ld (BA) (BA)):=
 if 0 < (b:Int) then
  (cat a (⟨#[44,32]⟩:BA)).bind fun c=>
  some (.go c)
 else
  some (.go a)
def m_r03_list_L0 (fu:Nat):List Ge→Nat→BA→Option (Ld (BA) (BA))
 | [],_,a=>some (.go a)
 | e :: f,d,a=>
 (m_r03_list_J1 fu a d).bind fun i=>i.el (fun b=>
 (m_r03_Expr fu e 1).bind fun c=>
 (cat b c).bind fun h=>
 m_r03_list_L0 fu f (d+1) h
 ) (fun o=>some (.out o))
def m_r03_list (fu:Nat)(b:(List Ge)):Option (BA):=
 (m_r03_list_L0 fu b 0 (⟨#[]⟩:BA)).bind fun c=>c.el (fun a=>
 some a
 ) (fun o=>some o)
theorem sp_r03_list (fu:Nat):Ct_r03_list (m_r03_list fu):=by
 intro B aa o h i r0 L v
 unfold m_r03_list at v
 have c:=L.bx
 clear L
 generalize hG:Gof _=G at c ⊢
 refine cf Try.func107 r ?_
 refine wCut [(0,Z h o i)] ⟨r,y⟩ fun ab=>?_
 refine q (g (s (xAsT r) (n (q (g (s (xAsT r) (n (q (q (g (s (xMvS r) (s (xLnR u109_ r) (s (mi r) ?_)))))))))))))
 refine n ?_
 have R:=(c.dl 0 r).bd
 obtain ⟨M,b,v⟩:=bs v
 refine wJd (fun f w=>∃ (e:BA),Has f [(3,T e)]∧Bx B w aa G [] [.l h i o]∧Ld.go e=M) (fun J1 C=>?_) ?_
 ·refine wBk (wLoopGd (fun ac f w=>∃ (p:Nat)(e:BA),ac=o.length - p∧p≤o.length∧Has f [(8,V (p:Int)),(3,T e),(6,Z h o i),(7,V (o.length:Int))]∧Bx B w aa G [] [.l h i o]∧m_r03_list_L0 fu (o.drop p) p e=some M) (o.length) ⟨0,(⟨#[]⟩:BA),r,Nat.zero_le _,⟨r,r,r,r,y⟩,c,b⟩ ?_)
  clear c b
  rintro ac f w ⟨p,e,rfl,S,hf,c,b⟩ K1 D
  obtain ⟨ab,rfl⟩:=has_updL _ _ hf
  clear hf
  rcases Nat.lt_or_ge p o.length with x | x
  ·obtain ⟨a,u⟩:=get_ex (l:=o) x
   rw [drop_id u,m_r03_list_L0] at b
   obtain ⟨U,E,c⟩:=c.nm 0 rfl u
   obtain ⟨j,k,rfl,z⟩:=GExpr.out E
   replace c:=c.dadd (d:=.l j k a.Args) z
   refine q (g (s (xLssT r r (by omega)) (n (q (wIfT r (wk (q (wBk (q (g (s (mi r) (s (xIdR u109_ ti138 r r r (c.dl 2 r) u) (s (xLoadS [V a.Op,V a.Number,V a.Var,T a.Name,T a.Field,Z j a.Args k] u138_ r ti138 r r (c.dc 1 r)) ?_)))))))))))))
   refine sTo (aNewB c (mAlloc ti138)) ?_
   rintro _ w3 ⟨N,rfl,c⟩
   refine s (xi r) (sTs (tb c 0 [V a.Op,V a.Number,V a.Var,T a.Name,T a.Field,Z j a.Args k] r ti138 r r r r r (show _=#[V a.Op,V a.Number,V a.Var,T a.Name,T a.Field,Z j a.Args k] from r)) ?_)
   intro w4 c
   try dsimp only [List.set] at c
   refine n (q ?_)
   obtain ⟨W,m,b⟩:=bs b
   refine wJd (fun f w=>∃ (t:BA),Has f [(3,T t),(5,Pt N),(6,Z h o i),(7,V (o.length:Int)),(8,V (p:Int))]∧Bx B w aa G [.box N 138 #[V a.Op,V a.Number,V a.Var,T a.Name,T a.Field,Z j a.Args k]] [.l j k a.Args,.l h i o]∧Ld.go t=W) (fun J5 A=>?_) ?_
   ·unfold m_r03_list_J1 at m
    refine q (g (s (mi r) (s (xGtr r r) (n ?_))))
    rcases iv m with ⟨F,m⟩|⟨F,m⟩
    ·refine wIfT (bt F) (g (s (xMvT r) ?_))
     obtain ⟨X,H,m⟩:=bs m
     refine s (xCat r r H) (s (xAsT r) (n ?_))
     exact A _ _ ⟨X,⟨r,r,r,r,r,y⟩,(c.dp [0,2]),sm m⟩
    refine wIfF (bf F) (wk ?_)
    exact A _ _ ⟨e,⟨r,r,r,r,r,y⟩,(c.dp [0,2]),sm m⟩
   clear c
   rintro f w ⟨t,hf,c,I⟩
   obtain ⟨ab,rfl⟩:=has_updL _ _ hf
   clear hf
   subst I
   replace b:=gi b
   refine g (s (xMvT r) (s (xLoadS [V a.Op,V a.Number,V a.Var,T a.Name,T a.Field,Z j a.Args k] u138_ r ti138 r r (Cells.part (c.bk 0 r).cells (o2:=0) r)) ?_))
   obtain ⟨Q,Y,b⟩:=bs b
   have hc:=(sp_r03_Expr fu) (c.pr [] [0] [0] r)  Y
   refine sc (ec cal78 r) hc ?_
   rintro _ w8 ⟨rfl,hK⟩
   replace c:=c.cl [] [0] r hK r
   try dsimp only [pick,nth,ca,na] at c
   obtain ⟨g9,J,b⟩:=bs b
   refine s (xCat r r J) (s (xAsT r) (n (g (s (xAdd64 r r (by omega) (by omega)) (s (mi r) (n ?_))))))
   exact D (o.length - (p+1)) _ _ (by omega) ⟨p+1,g9,r,by omega,⟨r,r,r,r,y⟩,(c.ad [] [1]),b⟩
  obtain rfl:p=o.length:=by omega
  rw [drop_end,m_r03_list_L0] at b
  refine q (g (s (xLssF r r (by omega)) (n (q (wIfF r (wEx ?_))))))
  exact C _ _ ⟨e,⟨r,y⟩,c,sm b⟩
 clear c
 rintro f w ⟨e,hf,c,K⟩
 obtain ⟨ab,rfl⟩:=has_updL _ _ hf
 clear hf
 subst K
 replace v:=gi v
 refine q (g (s (xMvT r) (s (xAsT r) (n (wRt ?_)))))
 obtain rfl:=sm v
 refine resV1 r (rdT r) ?_
 exact ⟨r,(c.dp [])⟩
def Ct_r03_words (m:(List BA)→Option (BA)):Prop:=∀ {c:World} {f:Nat→Prop} {d:(List BA)} {a:Option Addr} {b:Nat} {e:BA},Pre c f [] [.l a b d]→m d=some e→
 Calls Try.prog 55 #[Z a d b] c (Ret fun v w=>v=T e∧Bx c w f (Gof []) [] [])
def m_r03_words_L0 (fu:Nat):List BA→Nat→BA→Option (Ld (BA) (BA))
 | [],_,a=>some (.go a)
 | c :: d,b,a=>
 if 0 < (b:Int) then
  (cat a (⟨#[44,32]⟩:BA)).bind fun e=>
  (cat e c).bind fun f=>
  m_r03_words_L0 fu d (b+1) f
 else
  (cat a c).bind fun h=>
  m_r03_words_L0 fu d (b+1) h
def m_r03_words (fu:Nat)(b:(List BA)):Option (BA):=
 (m_r03_words_L0 fu b 0 (⟨#[]⟩:BA)).bind fun c=>c.el (fun a=>
 some a
 ) (fun o=>some o)
theorem sp_r03_words (fu:Nat):Ct_r03_words (m_r03_words fu):=by
 intro B R e c d K C m
 unfold m_r03_words at m
 have i:=C.bx
 clear C
 generalize L:Gof _=G at i ⊢
 refine cf Try.func55 r ?_
 refine wCut [(0,Z c e d)] ⟨r,y⟩ fun S=>?_
 refine q (g (s (xAsT r) (n (q (g (s (xAsT r) (n (q (q (g (s (xMvS r) (s (xLnR u70_ r) (s (mi r) ?_)))))))))))))
 refine n ?_
 have E:=(i.dl 0 r).bd
 obtain ⟨D,a,m⟩:=bs m
 refine wJd (fun f w=>∃ (b:BA),Has f [(3,T b)]∧Bx B w R G [] [.l c d e]∧Ld.go b=D) (fun M t=>?_) ?_
 ·refine wBk (wLoopGd (fun U f w=>∃ (j:Nat)(b:BA),U=e.length - j∧j≤e.length∧Has f [(8,V (j:Int)),(3,T b),(6,Z c e d),(7,V (e.length:Int))]∧Bx B w R G [] [.l c d e]∧m_r03_words_L0 fu (e.drop j) j b=some D) (e.length) ⟨0,(⟨#[]⟩:BA),r,Nat.zero_le _,⟨r,r,r,r,y⟩,i,a⟩ ?_)
  clear i a
  rintro U f w ⟨j,b,rfl,F,hf,i,a⟩ N o
  obtain ⟨S,rfl⟩:=has_updL _ _ hf
  clear hf
  rcases Nat.lt_or_ge j e.length with p | p
  ·obtain ⟨H,k⟩:=get_ex (l:=e) p
   rw [drop_id k,m_r03_words_L0] at a
   refine q (g (s (xLssT r r (by omega)) (n (q (wIfT r (wk (q (wBk (q (g (s (mi r) (s (xIdR u70_ ti9 r r r (i.dl 0 r) k) (s (xLoad u9_ r r ((elF (ds:=[T H]) (i.dl 0 r) k (fun _ h=>h)) 0 _ r)) ?_)))))))))))))
   refine s (xi r) (s (xAsT r) (n (q (q (g (s (mi r) (s (xGtr r r) (n ?_))))))))
   rcases iv a with ⟨u,a⟩|⟨u,a⟩
   ·refine wIfT (bt u) (g (s (xMvT r) ?_))
    obtain ⟨Q,v,a⟩:=bs a
    refine s (xCat r r v) (s (xAsT r) (n (g (s (xMvT r) (s (xMvT r) ?_)))))
    obtain ⟨I,x,a⟩:=bs a
    refine s (xCat r r x) (s (xAsT r) (n (g (s (xAdd64 r r (by omega) (by omega)) (s (mi r) (n ?_))))))
    exact o (e.length - (j+1)) _ _ (by omega) ⟨j+1,I,r,by omega,⟨r,r,r,r,y⟩,i,a⟩
   refine wIfF (bf u) (wk (g (s (xMvT r) (s (xMvT r) ?_))))
   obtain ⟨J,z,a⟩:=bs a
   refine s (xCat r r z) (s (xAsT r) (n (g (s (xAdd64 r r (by omega) (by omega)) (s (mi r) (n ?_))))))
   exact o (e.length - (j+1)) _ _ (by omega) ⟨j+1,J,r,by omega,⟨r,r,r,r,y⟩,i,a⟩
  obtain rfl:j=e.length:=by omega
  rw [drop_end,m_r03_words_L0] at a
  refine q (g (s (xLssF r r (by omega)) (n (q (wIfF r (wEx ?_))))))
  exact t _ _ ⟨b,⟨r,y⟩,i,sm a⟩
 clear i
 rintro f w ⟨b,hf,i,A⟩
 obtain ⟨S,rfl⟩:=has_updL _ _ hf
 clear hf
 subst A
 replace m:=gi m
 refine q (g (s (xMvT r) (s (xAsT r) (n (wRt ?_)))))
 obtain rfl:=sm m
 refine resV1 r (rdT r) ?_
 exact ⟨r,(i.dp [])⟩
def Ct_p03_value (m:Gs→Option (BA)):Prop:=∀ {k:World} {p:Nat→Prop} {a:Gs} {b:Option Addr} {c:Nat} {d:Option Addr} {e:Nat} {f:Option Addr} {h:Nat} {i:Option Addr} {j:Nat} {o:BA},Pre k p [] [.l b c a.Target,.l d e a.Args,.l f h a.Body,.l i j a.Else]→m a=some o→
 Calls Try.prog 80 #[.agg #[V a.Kind,V a.Line,V a.Id,T a.Name,T a.Type_,V a.Len,V a.Var,Z b a.Target c,T a.Func,V a.Callee,Z d a.Args e,Z f a.Body h,Z i a.Else j]] k (Ret fun v w=>v=T o∧Bx k w p (Gof []) [] [])
def m_p03_value (fu:Nat)(c:Gs):Option (BA):=
 if ¬ c.Func=(⟨#[]⟩:BA) then
  (cat c.Func (⟨#[40]⟩:BA)).bind fun d=>
  (m_r03_list fu c.Args).bind fun a=>
  (cat d a).bind fun e=>
  (cat e (⟨#[41]⟩:BA)).bind fun f=>
  some f
 else
  (m_r03_list fu c.Args).bind fun b=>
  some b
theorem sp_p03_value (fu:Nat):Ct_p03_value (m_p03_value fu):=by
 intro E R c e f h j l m o p F z b
 unfold m_p03_value at b
 have a:=z.bx
 clear z
 generalize H:Gof _=G at a ⊢
 refine cf Try.func80 r ?_
 refine wCut [(0,.agg #[V c.Kind,V c.Line,V c.Id,T c.Name,T c.Type_,V c.Len,V c.Var,Z e c.Target f,T c.Func,V c.Callee,Z h c.Args j,Z l c.Body m,Z o c.Else p])] ⟨r,y⟩ fun S=>?_
 refine q (g (sTo (aNewB a (mBox r)) ?_))
 rintro _ I ⟨J,rfl,a⟩
 refine s (xAsT r) (n (q (q (g (s (f111_8 r) (s (l9 r (a.bk 0 r) r) (s (xNeqT' r r) (n ?_))))))))
 rcases iv b with ⟨t,b⟩|⟨t,b⟩
 ·refine wIfT (bt t) (q (wDr1 a [0] [] [] (by kernel_rfl) ?_))
  replace a:=a.drew
  have d:=(a.dp [])
  refine pF 0 r (f111_8 r) d (uF 1 r (fun hS=>l9 r (hS.bk 0 r) r) d ?_)
  obtain ⟨K,u,b⟩:=bs b
  refine pF 2 r (xCat r r u) d (pF 3 r (f111_10 r) d (uF 4 r (fun hS=>l109 r (hS.bk 0 r) r) d ?_))
  obtain ⟨A,C,b⟩:=bs b
  have hc:=(sp_r03_list fu) (a.pr [] [0] [1] r)  C
  refine hO 5 (oc r r (ec cal107 r) hc ?_)
  rintro _ L ⟨rfl,v⟩
  replace a:=a.cl [] [0] r v r
  try dsimp only [pick,nth,ca,na] at a
  have d:=(a.dp [])
  refine ⟨(sF d),?_⟩
  obtain ⟨M,w,b⟩:=bs b
  refine pF 6 r (xCat r r w) d ?_
  obtain ⟨N,x,b⟩:=bs b
  refine pF 7 r (xCat r r x) d (pF 8 r (xAsT r) d (hD (wRt ?_)))
  obtain rfl:=sm b
  refine resV1 r (rdT r) ?_
  exact ⟨r,(a.ad [] [])⟩
 refine wIfF (bf t) (wk (q (g (s (f111_10 r) (s (l109 r (a.bk 0 r) r) ?_)))))
 obtain ⟨B,D,b⟩:=bs b
 have hc:=(sp_r03_list fu) (a.pr [] [0] [1] r)  D
 refine sc (ec cal107 r) hc ?_
 rintro _ Q ⟨rfl,v⟩
 replace a:=a.cl [] [0] r v r
 try dsimp only [pick,nth,ca,na] at a
 refine s (xAsT r) (n (wRt ?_))
 obtain rfl:=sm b
 refine resV1 r (rdT r) ?_
 exact ⟨r,(a.ad [] [])⟩
abbrev T_p03_block:=(List GStmt)→ByteArray→Option (ByteArray)
def Ct_p03_block (m:(List Gs)→BA→Option (BA)):Prop:=∀ {c:World} {h:Nat→Prop} {d:(List Gs)} {e:BA} {a:Option Addr} {b:Nat} {f:BA},Pre c h [] [.l a b d]→m d e=some f→
 Calls Try.prog 56 #[Z a d b,T e] c (Ret fun v w=>v=T f∧Bx c w h (Gof []) [] [])
def F_p03_block_J1 (fu:Nat)(r_p03_block:T_p03_block) (c:Gs):Option (Ld (BA) (BA)):=
 if 0 < (c.Target.length:Int) then
  (ix c.Target 0).bind fun d=>
  (m_r03_Expr fu d 1).bind fun a=>
  (cat a (⟨#[32,61,32]⟩:BA)).bind fun b=>
  some (.go b)
 else
  some (.go (⟨#[]⟩:BA))
def F_p03_block_J2 (fu:Nat)(r_p03_block:T_p03_block) (a:Gs):Option (Ld (BA) (BA)):=
 if a.Type_=(⟨#[]⟩:BA) then
  some (.go (⟨#[105,110,116]⟩:BA))
 else
  some (.go a.Type_)
def F_p03_block_J3 (fu:Nat)(r_p03_block:T_p03_block) (e:Gs) (a:BA):Option (Ld (BA) (BA)):=
 if 0 < e.Len then
  (m_r03_Digits fu e.Len).bind fun b=>
  (cat (⟨#[105,110,116,91]⟩:BA) b).bind fun c=>
  (cat c (⟨#[93]⟩:BA)).bind fun d=>
  some (.go d)
 else
  some (.go a)
def F_p03_block_J4 (fu:Nat)(r_p03_block:T_p03_block) (a:Gs):Option (Ld (Bool) (BA)):=
 if a.Kind=2 then
  some (.go (decide (a.Kind=2)))
 else
  some (.go (decide (a.Kind=3)))
def F_p03_block_L0 (fu:Nat)(r_p03_block:T_p03_block) (b:BA):List Gs→Nat→BA→Option (Ld (BA) (BA))
 | [],_,a=>some (.go a)
 | c :: d,e,a=>
 (F_p03_block_J1 fu r_p03_block c).bind fun aC=>aC.el (fun A=>
 if c.Kind=1 then
  (F_p03_block_J2 fu r_p03_block c).bind fun aC=>aC.el (fun f=>
  (F_p03_block_J3 fu r_p03_block c f).bind fun aC=>aC.el (fun h=>
  (cat a b).bind fun C=>
  (cat C (⟨#[118,97,114,32]⟩:BA)).bind fun D=>
  (cat D c.Name).bind fun E=>
  (cat E (⟨#[58,32]⟩:BA)).bind fun F=>
  (cat F h).bind fun G=>
  (cat G (⟨#[59,10]⟩:BA)).bind fun H=>
  F_p03_block_L0 fu r_p03_block b d (e+1) H
  ) (fun o=>some (.out o))
  ) (fun o=>some (.out o))
 else
  (F_p03_block_J4 fu r_p03_block c).bind fun aC=>aC.el (fun i=>
  if i=true then
   (cat a b).bind fun I=>
   (cat I A).bind fun J=>
   (m_p03_value fu c).bind fun j=>
   (cat J j).bind fun K=>
   (cat K (⟨#[59,10]⟩:BA)).bind fun L=>
   F_p03_block_L0 fu r_p03_block b d (e+1) L
  else
   if c.Kind=6 then
    (cat a b).bind fun M=>
    (cat M (⟨#[114,101,116,117,114,110,32]⟩:BA)).bind fun N=>
    (m_p03_value fu c).bind fun k=>
    (cat N k).bind fun P=>
    (cat P (⟨#[59,10]⟩:BA)).bind fun Q=>
    F_p03_block_L0 fu r_p03_block b d (e+1) Q
   else
    if c.Kind=7 then
     (cat a b).bind fun R=>
     (cat R (⟨#[116,104,114,111,119,32]⟩:BA)).bind fun S=>
     (m_p03_value fu c).bind fun l=>
     (cat S l).bind fun U=>
     (cat U (⟨#[59,10]⟩:BA)).bind fun W=>
     F_p03_block_L0 fu r_p03_block b d (e+1) W
    else
     if c.Kind=9 then
      (cat a b).bind fun X=>
      (cat X (⟨#[112,114,105,110,116,32]⟩:BA)).bind fun Y=>
      (m_p03_value fu c).bind fun m=>
      (cat Y m).bind fun a0=>
      (cat a0 (⟨#[59,10]⟩:BA)).bind fun a1=>
      F_p03_block_L0 fu r_p03_block b d (e+1) a1
     else
      if c.Kind=4 then
       (cat a b).bind fun a2=>
       (cat a2 (⟨#[105,102,32]⟩:BA)).bind fun a3=>
       (cat b (⟨#[9]⟩:BA)).bind fun a4=>
       (m_p03_value fu c).bind fun p=>
       (cat a3 p).bind fun a5=>
       (cat a5 (⟨#[32,123,10]⟩:BA)).bind fun a6=>
       (r_p03_block c.Body a4).bind fun t=>
       (cat a6 t).bind fun B=>
       if 0 < (c.Else.length:Int) then
        (cat B b).bind fun a7=>
        (cat a7 (⟨#[125,32,101,108,115,101,32,123,10]⟩:BA)).bind fun a8=>
        (cat b (⟨#[9]⟩:BA)).bind fun a9=>
        (r_p03_block c.Else a9).bind fun u=>
        (cat a8 u).bind fun aa=>
        (cat aa b).bind fun ab=>
        (cat ab (⟨#[125,10]⟩:BA)).bind fun ac=>
        F_p03_block_L0 fu r_p03_block b d (e+1) ac
       else
        (cat B b).bind fun ae=>
        (cat ae (⟨#[125,10]⟩:BA)).bind fun af=>
        F_p03_block_L0 fu r_p03_block b d (e+1) af
      else
       if c.Kind=5 then
        (cat a b).bind fun ag=>
        (cat ag (⟨#[119,104,105,108,101,32]⟩:BA)).bind fun ah=>
        (cat b (⟨#[9]⟩:BA)).bind fun ai=>
        (m_p03_value fu c).bind fun v=>
        (cat ah v).bind fun aj=>
        (cat aj (⟨#[32,123,10]⟩:BA)).bind fun ak=>
        (r_p03_block c.Body ai).bind fun w=>
        (cat ak w).bind fun al=>
        (cat al b).bind fun am=>
        (cat am (⟨#[125,10]⟩:BA)).bind fun an=>
        F_p03_block_L0 fu r_p03_block b d (e+1) an
       else
        if c.Kind=8 then
         (cat a b).bind fun ao=>
         (cat ao (⟨#[116,114,121,32,123,10]⟩:BA)).bind fun ap=>
         (cat b (⟨#[9]⟩:BA)).bind fun aq=>
         (cat b (⟨#[9]⟩:BA)).bind fun ar=>
         (r_p03_block c.Body aq).bind fun x=>
         (cat ap x).bind fun au=>
         (cat au b).bind fun av=>
         (cat av (⟨#[125,32,99,97,116,99,104,32]⟩:BA)).bind fun aw=>
         (cat aw c.Name).bind fun ax=>
         (cat ax (⟨#[32,123,10]⟩:BA)).bind fun ay=>
         (r_p03_block c.Else ar).bind fun z=>
         (cat ay z).bind fun az=>
         (cat az b).bind fun aA=>
         (cat aA (⟨#[125,10]⟩:BA)).bind fun aB=>
         F_p03_block_L0 fu r_p03_block b d (e+1) aB
        else
         F_p03_block_L0 fu r_p03_block b d (e+1) a
  ) (fun o=>some (.out o))
 ) (fun o=>some (.out o))
def F_p03_block (fu:Nat)(r_p03_block:T_p03_block) (b:(List Gs)) (c:BA):Option (BA):=
 (F_p03_block_L0 fu r_p03_block c b 0 (⟨#[]⟩:BA)).bind fun d=>d.el (fun a=>
 some a
 ) (fun o=>some o)
def tab_p03_block:Nat→((List Gs)→BA→Option (BA))
 | 0=>(fun _ _=>none)
 | fu+1=>F_p03_block fu (tab_p03_block fu)
def m_p03_block (fu:Nat):=(tab_p03_block fu)
theorem wk_p03_block (fu:Nat)(r_p03_block:T_p03_block) (H_p03_block:Ct_p03_block r_p03_block):Ct_p03_block (F_p03_block fu r_p03_block):=by
 intro w0 dM C x1 x z r0 hP hM
 unfold F_p03_block at hM
 have c:=hP.bx
 clear hP
 generalize hG:Gof _=G at c ⊢
 refine cf Try.func56 r ?_
 refine wCut [(0,Z x C z),(1,T x1)] ⟨r,r,y⟩ fun dN=>?_
 refine q (g (s (xAsT r) (n (q (g (s (xAsT r) (n (q (q (g (s (xMvS r) (s (xLnR u80_ r) (s (mi r) ?_)))))))))))))
 refine n ?_
 have cr:=(c.dl 0 r).bd
 obtain ⟨Y1,a,hM⟩:=bs hM
 refine wJd (fun f w=>∃ (A:BA),Has f [(5,T A)]∧Bx w0 w dM G [] [.l x z C]∧Ld.go A=Y1) (fun J1 bB=>?_) ?_
 ·refine wBk (wLoopGd (fun dO f w=>∃ (D:Nat)(A:BA),dO=C.length - D∧D≤C.length∧Has f [(12,V (D:Int)),(1,T x1),(5,T A),(10,Z x C z),(11,V (C.length:Int))]∧Bx w0 w dM G [] [.l x z C]∧F_p03_block_L0 fu r_p03_block x1 (C.drop D) D A=some Y1) (C.length) ⟨0,(⟨#[]⟩:BA),r,Nat.zero_le _,⟨r,r,r,r,r,y⟩,c,a⟩ ?_)
  clear c a
  rintro dO f w ⟨D,A,rfl,ct,hf,c,a⟩ K1 H
  obtain ⟨dN,rfl⟩:=has_updL _ _ hf
  clear hf
  rcases Nat.lt_or_ge D C.length with ai | ai
  ·obtain ⟨b,a2⟩:=get_ex (l:=C) ai
   rw [drop_id a2,F_p03_block_L0] at a
   obtain ⟨cu,bC,c⟩:=c.nm 0 rfl a2
   obtain ⟨h,j,m,o,p,t,u,v,rfl,aj,ak,al,am⟩:=GStmt.out bC
   replace c:=c.dadd (d:=.l h j b.Target) aj
   replace c:=c.dadd (d:=.l m o b.Args) ak
   replace c:=c.dadd (d:=.l p t b.Body) al
   replace c:=c.dadd (d:=.l u v b.Else) am
   refine q (g (s (xLssT r r (by omega)) (n (q (wIfT r (wk (q (wBk (q (g (s (xIdR u80_ ti111 r r r (c.dl 5 r) a2) (s (xLoadS [V b.Kind,V b.Line,V b.Id,T b.Name,T b.Type_,V b.Len,V b.Var,Z h b.Target j,T b.Func,V b.Callee,Z m b.Args o,Z p b.Body t,Z u b.Else v] u111_ r ti111 r r (c.dc 4 r)) (sTo (aNewB c (mAlloc ti111)) ?_)))))))))))))
   rintro _ w3 ⟨S,rfl,c⟩
   refine sTs (tb c 0 [V b.Kind,V b.Line,V b.Id,T b.Name,T b.Type_,V b.Len,V b.Var,Z h b.Target j,T b.Func,V b.Callee,Z m b.Args o,Z p b.Body t,Z u b.Else v] r ti111 r r r r r (show _=#[V b.Kind,V b.Line,V b.Id,T b.Name,T b.Type_,V b.Len,V b.Var,Z h b.Target j,T b.Func,V b.Callee,Z m b.Args o,Z p b.Body t,Z u b.Else v] from r)) ?_
   intro w4 c
   try dsimp only [List.set] at c
   refine n (q (g (s (xAsT r) (n (q ?_)))))
   obtain ⟨Y5,E,a⟩:=bs a
   refine wJd (fun f w=>∃ (N:BA),Has f [(1,T x1),(5,T A),(7,Pt S),(8,T N),(10,Z x C z),(11,V (C.length:Int)),(12,V (D:Int))]∧Bx w0 w dM G [.box S 111 #[V b.Kind,V b.Line,V b.Id,T b.Name,T b.Type_,V b.Len,V b.Var,Z h b.Target j,T b.Func,V b.Callee,Z m b.Args o,Z p b.Body t,Z u b.Else v]] [.l u v b.Else,.l p t b.Body,.l m o b.Args,.l h j b.Target,.l x z C]∧Ld.go N=Y5) (fun J5 an=>?_) ?_
   ·unfold F_p03_block_J1 at E
    refine q (g (s (f111_7 r) (s (l109 r (c.bk 0 r) r) (s (xLnR u109_ r) (s (xGtr r r) (n ?_))))))
    rcases iv E with ⟨h6,E⟩|⟨h6,E⟩
    ·refine wIfT (bt h6) (g (s (f111_7 r) (s (l109 r (c.bk 0 r) r) ?_)))
     obtain ⟨e7,R,E⟩:=bs E
     obtain ⟨k7,bE,R⟩:=ix_inv R
     obtain ⟨cw,bF,c⟩:=c.nm 3 rfl R
     obtain ⟨U,W,rfl,ao⟩:=GExpr.out bF
     replace c:=c.dadd (d:=.l U W e7.Args) ao
     refine s (xIdR u109_ ti138 r r bE (c.dl 5 r) R) (s (xLoadS [V e7.Op,V e7.Number,V e7.Var,T e7.Name,T e7.Field,Z U e7.Args W] u138_ r ti138 r r (c.dc 1 r)) ?_)
     obtain ⟨cq,h9,E⟩:=bs E
     have hc:=(sp_r03_Expr fu) (c.pr [] [0] [0] r)  h9
     refine sc (ec cal78 r) hc ?_
     rintro _ w9 ⟨rfl,F⟩
     replace c:=c.cl [] [0] r F r
     try dsimp only [pick,nth,ca,na] at c
     obtain ⟨bG,ap,E⟩:=bs E
     refine s (xCat r r ap) (s (xAsT r) (n ?_))
     exact an _ _ ⟨bG,⟨r,r,r,r,r,r,r,y⟩,(c.dp [2,3,4,5,7]),sm E⟩
    refine wIfF (bf h6) (wk ?_)
    exact an _ _ ⟨(⟨#[]⟩:BA),⟨r,r,r,r,r,r,r,y⟩,(c.dp [0,1,2,3,5]),sm E⟩
   clear c
   rintro f w ⟨N,hf,c,bH⟩
   obtain ⟨dN,rfl⟩:=has_updL _ _ hf
   clear hf
   subst bH
   replace a:=gi a
   refine q (g (s (f111_0 r) (s (l3 r (c.bk 0 r) r) (n (wBk (q (g (s (xEqlD r r) (s (xAsB r) (n ?_))))))))))
   rcases iv a with ⟨a4,a⟩|⟨a4,a⟩
   ·refine wIfT (bt a4) (q (g (s (f111_4 r) (s (l9 r (c.bk 0 r) r) (s (xAsT r) (n (q ?_)))))))
    obtain ⟨bI,I,a⟩:=bs a
    refine wJd (fun f w=>∃ (K:BA),Has f [(1,T x1),(5,T A),(7,Pt S),(9,T K),(10,Z x C z),(11,V (C.length:Int)),(12,V (D:Int))]∧Bx w0 w dM G [.box S 111 #[V b.Kind,V b.Line,V b.Id,T b.Name,T b.Type_,V b.Len,V b.Var,Z h b.Target j,T b.Func,V b.Callee,Z m b.Args o,Z p b.Body t,Z u b.Else v]] [.l u v b.Else,.l p t b.Body,.l m o b.Args,.l h j b.Target,.l x z C]∧Ld.go K=bI) (fun cy X=>?_) ?_
    ·unfold F_p03_block_J2 at I
     refine q (g (s (xMvT r) (s (xEqlT' r r) (n ?_))))
     rcases iv I with ⟨a5,I⟩|⟨a5,I⟩
     ·refine wIfT (bt a5) (g (s (xAsT r) (n ?_)))
      exact X _ _ ⟨(⟨#[105,110,116]⟩:BA),⟨r,r,r,r,r,r,r,y⟩,c,sm I⟩
     refine wIfF (bf a5) (wk ?_)
     exact X _ _ ⟨b.Type_,⟨r,r,r,r,r,r,r,y⟩,c,sm I⟩
    clear c
    rintro f w ⟨K,hf,c,aq⟩
    obtain ⟨dN,rfl⟩:=has_updL _ _ hf
    clear hf
    subst aq
    replace a:=gi a
    refine q ?_
    obtain ⟨bJ,B,a⟩:=bs a
    refine wJd (fun f w=>∃ (L:BA),Has f [(1,T x1),(5,T A),(7,Pt S),(9,T L),(10,Z x C z),(11,V (C.length:Int)),(12,V (D:Int))]∧Bx w0 w dM G [.box S 111 #[V b.Kind,V b.Line,V b.Id,T b.Name,T b.Type_,V b.Len,V b.Var,Z h b.Target j,T b.Func,V b.Callee,Z m b.Args o,Z p b.Body t,Z u b.Else v]] [.l u v b.Else,.l p t b.Body,.l m o b.Args,.l h j b.Target,.l x z C]∧Ld.go L=bJ) (fun cz Y=>?_) ?_
    ·unfold F_p03_block_J3 at B
     refine q (g (s (f111_5 r) (s (l3 r (c.bk 0 r) r) (s (xGtr r r) (n ?_)))))
     rcases iv B with ⟨a6,B⟩|⟨a6,B⟩
     ·refine wIfT (bt a6) (g (s (f111_5 r) (s (l3 r (c.bk 0 r) r) ?_)))
      obtain ⟨bK,bL,B⟩:=bs B
      have hc:=(sp_r03_Digits fu) (c.pr [] [0] [] r)  bL
      refine sc (ec cal79 r) hc ?_
      rintro _ cA ⟨rfl,F⟩
      replace c:=c.cl [] [0] r F r
      try dsimp only [pick,nth,ca,na] at c
      obtain ⟨cB,ar,B⟩:=bs B
      refine s (xCat r r ar) ?_
      obtain ⟨bM,au,B⟩:=bs B
      refine s (xCat r r au) (s (xAsT r) (n ?_))
      exact Y _ _ ⟨bM,⟨r,r,r,r,r,r,r,y⟩,c,sm B⟩
     refine wIfF (bf a6) (wk ?_)
     exact Y _ _ ⟨K,⟨r,r,r,r,r,r,r,y⟩,c,sm B⟩
    clear c
    rintro f w ⟨L,hf,c,av⟩
    obtain ⟨dN,rfl⟩:=has_updL _ _ hf
    clear hf
    subst av
    replace a:=gi a
    refine g (s (xMvT r) (s (xMvT r) ?_))
    obtain ⟨cC,aw,a⟩:=bs a
    refine s (xCat r r aw) ?_
    obtain ⟨cD,ax,a⟩:=bs a
    refine s (xCat r r ax) (s (f111_3 r) (s (l9 r (c.bk 0 r) r) ?_))
    obtain ⟨cE,ay,a⟩:=bs a
    refine s (xCat r r ay) ?_
    obtain ⟨cF,az,a⟩:=bs a
    refine s (xCat r r az) (s (xMvT r) ?_)
    obtain ⟨cG,aA,a⟩:=bs a
    refine s (xCat r r aA) ?_
    obtain ⟨bN,aB,a⟩:=bs a
    refine s (xCat r r aB) (s (xAsT r) (n (g (s (xAdd64 r r (by omega) (by omega)) (s (mi r) (n ?_))))))
    exact H (C.length - (D+1)) _ _ (by omega) ⟨D+1,bN,r,by omega,⟨r,r,r,r,r,y⟩,(c.ad [] [4]),a⟩
   refine wIfF (bf a4) (q ?_)
   obtain ⟨bO,J,a⟩:=bs a
   refine wJd (fun f w=>∃ (M:Bool),Has f [(1,T x1),(5,T A),(7,Pt S),(8,T N),(10,Z x C z),(11,V (C.length:Int)),(12,V (D:Int)),(27,V b.Kind),(53,.bool M)]∧Bx w0 w dM G [.box S 111 #[V b.Kind,V b.Line,V b.Id,T b.Name,T b.Type_,V b.Len,V b.Var,Z h b.Target j,T b.Func,V b.Callee,Z m b.Args o,Z p b.Body t,Z u b.Else v]] [.l u v b.Else,.l p t b.Body,.l m o b.Args,.l h j b.Target,.l x z C]∧Ld.go M=bO) (fun cH a0=>?_) ?_
   ·unfold F_p03_block_J4 at J
    refine q (g (s (xEqlD r r) (s (xAsB r) (n ?_))))
    rcases iv J with ⟨a7,J⟩|⟨a7,J⟩
    ·refine wIfT (bt a7) (wk ?_)
     exact a0 _ _ ⟨(decide (b.Kind=2)),⟨r,r,r,r,r,r,r,r,r,y⟩,c,sm J⟩
    refine wIfF (bf a7) (g (s (xEqlD r r) (s (xAsB r) (n ?_))))
    exact a0 _ _ ⟨(decide (b.Kind=3)),⟨r,r,r,r,r,r,r,r,r,y⟩,c,sm J⟩
   clear c
   rintro f w ⟨M,hf,c,aC⟩
   obtain ⟨dN,rfl⟩:=has_updL _ _ hf
   clear hf
   subst aC
   replace a:=gi a
   rcases iv a with ⟨Q,a⟩|⟨Q,a⟩
   ·refine wIfT (cb Q) (g (s (xMvT r) (s (xMvT r) ?_)))
    obtain ⟨cI,aD,a⟩:=bs a
    refine s (xCat r r aD) (s (xMvT r) ?_)
    obtain ⟨cJ,aE,a⟩:=bs a
    refine s (xCat r r aE) (s (xLoadS [V b.Kind,V b.Line,V b.Id,T b.Name,T b.Type_,V b.Len,V b.Var,Z h b.Target j,T b.Func,V b.Callee,Z m b.Args o,Z p b.Body t,Z u b.Else v] u111_ r ti111 r r (Cells.part (c.bk 0 r).cells (o2:=0) r)) ?_)
    obtain ⟨bP,bQ,a⟩:=bs a
    have hc:=(sp_p03_value fu) (c.pr [] [0] [3,2,1,0] r)  bQ
    refine sc (ec cal80 r) hc ?_
    rintro _ cK ⟨rfl,F⟩
    replace c:=c.cl [] [0] r F r
    try dsimp only [pick,nth,ca,na] at c
    obtain ⟨cL,aG,a⟩:=bs a
    refine s (xCat r r aG) ?_
    obtain ⟨bR,aH,a⟩:=bs a
    refine s (xCat r r aH) (s (xAsT r) (n (g (s (xAdd64 r r (by omega) (by omega)) (s (mi r) (n ?_))))))
    exact H (C.length - (D+1)) _ _ (by omega) ⟨D+1,bR,r,by omega,⟨r,r,r,r,r,y⟩,(c.ad [] [4]),a⟩
   replace Q:=nt Q
   refine wIfF (cb Q) (q (g (s (xEqlD r r) (s (xAsB r) (n ?_)))))
   rcases iv a with ⟨a8,a⟩|⟨a8,a⟩
   ·refine wIfT (bt a8) (g (s (xMvT r) (s (xMvT r) ?_)))
    obtain ⟨cM,aI,a⟩:=bs a
    refine s (xCat r r aI) ?_
    obtain ⟨cN,aJ,a⟩:=bs a
    refine s (xCat r r aJ) (s (xLoadS [V b.Kind,V b.Line,V b.Id,T b.Name,T b.Type_,V b.Len,V b.Var,Z h b.Target j,T b.Func,V b.Callee,Z m b.Args o,Z p b.Body t,Z u b.Else v] u111_ r ti111 r r (Cells.part (c.bk 0 r).cells (o2:=0) r)) ?_)
    obtain ⟨bS,bT,a⟩:=bs a
    have hc:=(sp_p03_value fu) (c.pr [] [0] [3,2,1,0] r)  bT
    refine sc (ec cal80 r) hc ?_
    rintro _ cO ⟨rfl,F⟩
    replace c:=c.cl [] [0] r F r
    try dsimp only [pick,nth,ca,na] at c
    obtain ⟨cP,aK,a⟩:=bs a
    refine s (xCat r r aK) ?_
    obtain ⟨bU,aL,a⟩:=bs a
    refine s (xCat r r aL) (s (xAsT r) (n (g (s (xAdd64 r r (by omega) (by omega)) (s (mi r) (n ?_))))))
    exact H (C.length - (D+1)) _ _ (by omega) ⟨D+1,bU,r,by omega,⟨r,r,r,r,r,y⟩,(c.ad [] [4]),a⟩
   refine wIfF (bf a8) (q (g (s (xEqlD r r) (s (xAsB r) (n ?_)))))
   rcases iv a with ⟨a9,a⟩|⟨a9,a⟩
   ·refine wIfT (bt a9) (g (s (xMvT r) (s (xMvT r) ?_)))
    obtain ⟨cQ,aM,a⟩:=bs a
    refine s (xCat r r aM) ?_
    obtain ⟨cR,aN,a⟩:=bs a
    refine s (xCat r r aN) (s (xLoadS [V b.Kind,V b.Line,V b.Id,T b.Name,T b.Type_,V b.Len,V b.Var,Z h b.Target j,T b.Func,V b.Callee,Z m b.Args o,Z p b.Body t,Z u b.Else v] u111_ r ti111 r r (Cells.part (c.bk 0 r).cells (o2:=0) r)) ?_)
    obtain ⟨bV,bW,a⟩:=bs a
    have hc:=(sp_p03_value fu) (c.pr [] [0] [3,2,1,0] r)  bW
    refine sc (ec cal80 r) hc ?_
    rintro _ cS ⟨rfl,F⟩
    replace c:=c.cl [] [0] r F r
    try dsimp only [pick,nth,ca,na] at c
    obtain ⟨cT,aO,a⟩:=bs a
    refine s (xCat r r aO) ?_
    obtain ⟨bX,aP,a⟩:=bs a
    refine s (xCat r r aP) (s (xAsT r) (n (g (s (xAdd64 r r (by omega) (by omega)) (s (mi r) (n ?_))))))
    exact H (C.length - (D+1)) _ _ (by omega) ⟨D+1,bX,r,by omega,⟨r,r,r,r,r,y⟩,(c.ad [] [4]),a⟩
   refine wIfF (bf a9) (q (g (s (xEqlD r r) (s (xAsB r) (n ?_)))))
   rcases iv a with ⟨aa,a⟩|⟨aa,a⟩
   ·refine wIfT (bt aa) (g (s (xMvT r) (s (xMvT r) ?_)))
    obtain ⟨cU,aQ,a⟩:=bs a
    refine s (xCat r r aQ) ?_
    obtain ⟨cV,aR,a⟩:=bs a
    refine s (xCat r r aR) (s (xLoadS [V b.Kind,V b.Line,V b.Id,T b.Name,T b.Type_,V b.Len,V b.Var,Z h b.Target j,T b.Func,V b.Callee,Z m b.Args o,Z p b.Body t,Z u b.Else v] u111_ r ti111 r r (Cells.part (c.bk 0 r).cells (o2:=0) r)) ?_)
    obtain ⟨bY,bZ,a⟩:=bs a
    have hc:=(sp_p03_value fu) (c.pr [] [0] [3,2,1,0] r)  bZ
    refine sc (ec cal80 r) hc ?_
    rintro _ cW ⟨rfl,F⟩
    replace c:=c.cl [] [0] r F r
    try dsimp only [pick,nth,ca,na] at c
    obtain ⟨cX,aS,a⟩:=bs a
    refine s (xCat r r aS) ?_
    obtain ⟨c0,aT,a⟩:=bs a
    refine s (xCat r r aT) (s (xAsT r) (n (g (s (xAdd64 r r (by omega) (by omega)) (s (mi r) (n ?_))))))
    exact H (C.length - (D+1)) _ _ (by omega) ⟨D+1,c0,r,by omega,⟨r,r,r,r,r,y⟩,(c.ad [] [4]),a⟩
   refine wIfF (bf aa) (q (g (s (xEqlD r r) (s (xAsB r) (n ?_)))))
   rcases iv a with ⟨ab,a⟩|⟨ab,a⟩
   ·refine wIfT (bt ab) (q (wDr1 c [0] [] [] (by kernel_rfl) ?_))
    replace c:=c.drew
    have e:=(c.dp [])
    refine pF 0 r (xMvT r) e (pF 1 r (xMvT r) e ?_)
    obtain ⟨cY,aU,a⟩:=bs a
    refine pF 2 r (xCat r r aU) e ?_
    obtain ⟨cZ,aV,a⟩:=bs a
    refine pF 3 r (xCat r r aV) e (uF 4 r (fun hS=>xLoadS [V b.Kind,V b.Line,V b.Id,T b.Name,T b.Type_,V b.Len,V b.Var,Z h b.Target j,T b.Func,V b.Callee,Z m b.Args o,Z p b.Body t,Z u b.Else v] u111_ r ti111 r r (Cells.part (hS.bk 0 r).cells (o2:=0) r)) e (pF 8 r (f111_11 r) e (uF 9 r (fun hS=>l80 r (hS.bk 0 r) r) e (pF 10 r (xMvT r) e ?_))))
    obtain ⟨d0,aW,a⟩:=bs a
    refine pF 11 r (xCat r r aW) e ?_
    obtain ⟨c1,c2,a⟩:=bs a
    have hc:=(sp_p03_value fu) (c.pr [] [0] [3,2,1,0] r)  c2
    refine hO 5 (oc r r (ec cal80 r) hc ?_)
    rintro _ d1 ⟨rfl,F⟩
    replace c:=c.cl [] [0] r F r
    try dsimp only [pick,nth,ca,na] at c
    have e:=(c.dp [])
    refine ⟨(sF e),?_⟩
    obtain ⟨d2,aX,a⟩:=bs a
    refine pF 6 r (xCat r r aX) e ?_
    obtain ⟨d3,aY,a⟩:=bs a
    refine pF 7 r (xCat r r aY) e ?_
    obtain ⟨c3,c4,a⟩:=bs a
    have hc:=H_p03_block (c.pr [] [0] [1] r)  c4
    refine hO 12 (oc r r (ec cal56 r) hc ?_)
    rintro _ d4 ⟨rfl,F⟩
    replace c:=c.cl [] [0] r F r
    try dsimp only [pick,nth,ca,na] at c
    have e:=(c.dp [])
    refine ⟨(sF e),?_⟩
    obtain ⟨d5,aZ,a⟩:=bs a
    refine pF 13 r (xCat r r aZ) e (pF 14 r (xAsT r) e (hD (q (q (g (s (f111_12 r) (s (l80 r (c.bk 0 r) r) (s (xLnR u80_ r) (s (xGtr r r) (n ?_))))))))))
    rcases iv a with ⟨ac,a⟩|⟨ac,a⟩
    ·refine wIfT (bt ac) (g (s (xMvT r) (s (xMvT r) ?_)))
     obtain ⟨d6,b0,a⟩:=bs a
     refine s (xCat r r b0) ?_
     obtain ⟨d7,b1,a⟩:=bs a
     refine s (xCat r r b1) (s (f111_12 r) (s (l80 r (c.bk 0 r) r) (s (xMvT r) ?_)))
     obtain ⟨d8,b2,a⟩:=bs a
     refine s (xCat r r b2) ?_
     obtain ⟨c5,c6,a⟩:=bs a
     have hc:=H_p03_block (c.pr [] [0] [0] r)  c6
     refine sc (ec cal56 r) hc ?_
     rintro _ w64 ⟨rfl,F⟩
     replace c:=c.cl [] [0] r F r
     try dsimp only [pick,nth,ca,na] at c
     obtain ⟨d9,b4,a⟩:=bs a
     refine s (xCat r r b4) (s (xAsT r) (n (g (s (xMvT r) (s (xMvT r) ?_)))))
     obtain ⟨da,b5,a⟩:=bs a
     refine s (xCat r r b5) ?_
     obtain ⟨c7,b6,a⟩:=bs a
     refine s (xCat r r b6) (s (xAsT r) (n (g (s (xAdd64 r r (by omega) (by omega)) (s (mi r) (n ?_))))))
     exact H (C.length - (D+1)) _ _ (by omega) ⟨D+1,c7,r,by omega,⟨r,r,r,r,r,y⟩,(c.ad [] [4]),a⟩
    refine wIfF (bf ac) (wk (g (s (xMvT r) (s (xMvT r) ?_))))
    obtain ⟨db,b7,a⟩:=bs a
    refine s (xCat r r b7) ?_
    obtain ⟨c8,b8,a⟩:=bs a
    refine s (xCat r r b8) (s (xAsT r) (n (g (s (xAdd64 r r (by omega) (by omega)) (s (mi r) (n ?_))))))
    exact H (C.length - (D+1)) _ _ (by omega) ⟨D+1,c8,r,by omega,⟨r,r,r,r,r,y⟩,(c.ad [] [4]),a⟩
   refine wIfF (bf ab) (q (g (s (xEqlD r r) (s (xAsB r) (n ?_)))))
   rcases iv a with ⟨ae,a⟩|⟨ae,a⟩
   ·refine wIfT (bt ae) (wDr1 c [0] [] [] (by kernel_rfl) ?_)
    replace c:=c.drew
    have e:=(c.dp [])
    refine pF 0 r (xMvT r) e (pF 1 r (xMvT r) e ?_)
    obtain ⟨dd,b9,a⟩:=bs a
    refine pF 2 r (xCat r r b9) e ?_
    obtain ⟨de,ba,a⟩:=bs a
    refine pF 3 r (xCat r r ba) e (uF 4 r (fun hS=>xLoadS [V b.Kind,V b.Line,V b.Id,T b.Name,T b.Type_,V b.Len,V b.Var,Z h b.Target j,T b.Func,V b.Callee,Z m b.Args o,Z p b.Body t,Z u b.Else v] u111_ r ti111 r r (Cells.part (hS.bk 0 r).cells (o2:=0) r)) e (pF 8 r (f111_11 r) e (uF 9 r (fun hS=>l80 r (hS.bk 0 r) r) e (pF 10 r (xMvT r) e ?_))))
    obtain ⟨df,bb,a⟩:=bs a
    refine pF 11 r (xCat r r bb) e (pF 14 r (xMvT r) e ?_)
    obtain ⟨c9,cc,a⟩:=bs a
    have hc:=(sp_p03_value fu) (c.pr [] [0] [3,2,1,0] r)  cc
    refine hO 5 (oc r r (ec cal80 r) hc ?_)
    rintro _ dg ⟨rfl,F⟩
    replace c:=c.cl [] [0] r F r
    try dsimp only [pick,nth,ca,na] at c
    have e:=(c.dp [])
    refine ⟨(sF e),?_⟩
    obtain ⟨dh,bc,a⟩:=bs a
    refine pF 6 r (xCat r r bc) e ?_
    obtain ⟨di,bg,a⟩:=bs a
    refine pF 7 r (xCat r r bg) e ?_
    obtain ⟨cd,ce,a⟩:=bs a
    have hc:=H_p03_block (c.pr [] [0] [1] r)  ce
    refine hO 12 (oc r r (ec cal56 r) hc ?_)
    rintro _ dj ⟨rfl,F⟩
    replace c:=c.cl [] [0] r F r
    try dsimp only [pick,nth,ca,na] at c
    have e:=(c.dp [])
    refine ⟨(sF e),?_⟩
    obtain ⟨dk,bh,a⟩:=bs a
    refine pF 13 r (xCat r r bh) e ?_
    obtain ⟨dm,bi,a⟩:=bs a
    refine pF 15 r (xCat r r bi) e ?_
    obtain ⟨cg,bj,a⟩:=bs a
    refine pF 16 r (xCat r r bj) e (pF 17 r (xAsT r) e (hD (g (s (xAdd64 r r (by omega) (by omega)) (s (mi r) (n ?_))))))
    exact H (C.length - (D+1)) _ _ (by omega) ⟨D+1,cg,r,by omega,⟨r,r,r,r,r,y⟩,(c.ad [] [4]),a⟩
   refine wIfF (bf ae) (q (g (s (xEqlD r r) (s (xAsB r) (n ?_)))))
   rcases iv a with ⟨af,a⟩|⟨af,a⟩
   ·refine wIfT (bt af) (wDr1 c [0] [] [] (by kernel_rfl) ?_)
    replace c:=c.drew
    have e:=(c.dp [])
    refine pF 0 r (xMvT r) e (pF 1 r (xMvT r) e ?_)
    obtain ⟨dn,bl,a⟩:=bs a
    refine pF 2 r (xCat r r bl) e ?_
    obtain ⟨dq,bm,a⟩:=bs a
    refine pF 3 r (xCat r r bm) e (pF 4 r (f111_11 r) e (uF 5 r (fun hS=>l80 r (hS.bk 0 r) r) e (pF 6 r (xMvT r) e ?_)))
    obtain ⟨dr,bn,a⟩:=bs a
    refine pF 7 r (xCat r r bn) e (pF 10 r (xMvT r) e (pF 13 r (f111_3 r) e (uF 14 r (fun hS=>l9 r (hS.bk 0 r) r) e (pF 17 r (f111_12 r) e (uF 18 r (fun hS=>l80 r (hS.bk 0 r) r) e (pF 19 r (xMvT r) e ?_))))))
    obtain ⟨dt,bo,a⟩:=bs a
    refine pF 20 r (xCat r r bo) e (pF 23 r (xMvT r) e ?_)
    obtain ⟨ch,ci,a⟩:=bs a
    have hc:=H_p03_block (c.pr [] [0] [1] r)  ci
    refine hO 8 (oc r r (ec cal56 r) hc ?_)
    rintro _ du ⟨rfl,F⟩
    replace c:=c.cl [] [0] r F r
    try dsimp only [pick,nth,ca,na] at c
    have e:=(c.dp [])
    refine ⟨(sF e),?_⟩
    obtain ⟨dv,bp,a⟩:=bs a
    refine pF 9 r (xCat r r bp) e ?_
    obtain ⟨dw,bq,a⟩:=bs a
    refine pF 11 r (xCat r r bq) e ?_
    obtain ⟨dx,br,a⟩:=bs a
    refine pF 12 r (xCat r r br) e ?_
    obtain ⟨dy,bu,a⟩:=bs a
    refine pF 15 r (xCat r r bu) e ?_
    obtain ⟨dz,bv,a⟩:=bs a
    refine pF 16 r (xCat r r bv) e ?_
    obtain ⟨cj,ck,a⟩:=bs a
    have hc:=H_p03_block (c.pr [] [0] [0] r)  ck
    refine hO 21 (oc r r (ec cal56 r) hc ?_)
    rintro _ dA ⟨rfl,F⟩
    replace c:=c.cl [] [0] r F r
    try dsimp only [pick,nth,ca,na] at c
    have e:=(c.dp [])
    refine ⟨(sF e),?_⟩
    obtain ⟨dB,bw,a⟩:=bs a
    refine pF 22 r (xCat r r bw) e ?_
    obtain ⟨dC,bz,a⟩:=bs a
    refine pF 24 r (xCat r r bz) e ?_
    obtain ⟨cm,bA,a⟩:=bs a
    refine pF 25 r (xCat r r bA) e (pF 26 r (xAsT r) e (hD (g (s (xAdd64 r r (by omega) (by omega)) (s (mi r) (n ?_))))))
    exact H (C.length - (D+1)) _ _ (by omega) ⟨D+1,cm,r,by omega,⟨r,r,r,r,r,y⟩,(c.ad [] [4]),a⟩
   refine wIfF (bf af) (wk (g (s (xAdd64 r r (by omega) (by omega)) (s (mi r) (n ?_)))))
   exact H (C.length - (D+1)) _ _ (by omega) ⟨D+1,A,r,by omega,⟨r,r,r,r,r,y⟩,(c.ad [] [4]),a⟩
  obtain rfl:D=C.length:=by omega
  rw [drop_end,F_p03_block_L0] at a
  refine q (g (s (xLssF r r (by omega)) (n (q (wIfF r (wEx ?_))))))
  exact bB _ _ ⟨A,⟨r,y⟩,c,sm a⟩
 clear c
 rintro f w ⟨A,hf,c,cn⟩
 obtain ⟨dN,rfl⟩:=has_updL _ _ hf
 clear hf
 subst cn
 replace hM:=gi hM
 refine q (g (s (xMvT r) (s (xAsT r) (n (wRt ?_)))))
 obtain rfl:=sm hM
 refine resV1 r (rdT r) ?_
 exact ⟨r,(c.dp [])⟩
theorem sps_p03_block (fu:Nat):Ct_p03_block (m_p03_block fu):=by
 induction fu with
 | zero=>exact by intro a b;intros;exact nn (by assumption)
 | succ fu ih=>exact wk_p03_block fu (m_p03_block fu) ih
theorem sp_p03_block (fu:Nat):Ct_p03_block (m_p03_block fu):=(sps_p03_block fu)
def Ct_r03_Print (m:GProgram→Option (BA)):Prop:=∀ {f:World} {i:Nat→Prop} {e:GProgram} {a:Option Addr} {b:Nat} {c:Option Addr} {d:Nat} {h:BA},Pre f i [] [.l a b e.Records,.l c d e.Funcs]→m e=some h→
 Calls Try.prog 42 #[.agg #[Z a e.Records b,Z c e.Funcs d]] f (Ret fun v w=>v=T h∧Bx f w i (Gof []) [] [])
def m_r03_Print_L0 (fu:Nat):List Gr→Nat→BA→Option (Ld (BA) (BA))
 | [],_,a=>some (.go a)
 | e :: f,h,a=>
 (cat a (⟨#[114,101,99,111,114,100,32]⟩:BA)).bind fun i=>
 (cat i e.Name).bind fun j=>
 (cat j (⟨#[32,123,32]⟩:BA)).bind fun k=>
 (m_r03_words fu e.Fields).bind fun b=>
 (cat k b).bind fun c=>
 (cat c (⟨#[32,125,10]⟩:BA)).bind fun d=>
 m_r03_Print_L0 fu f (h+1) d
def m_r03_Print_L1 (fu:Nat):List Gn→Nat→BA→Option (Ld (BA) (BA))
 | [],_,a=>some (.go a)
 | b :: e,f,a=>
 (cat a (⟨#[102,117,110,99,32]⟩:BA)).bind fun h=>
 (cat h b.Name).bind fun i=>
 (cat i (⟨#[40]⟩:BA)).bind fun j=>
 (m_r03_words fu b.Params).bind fun c=>
 (cat j c).bind fun k=>
 (cat k (⟨#[41,32,123,10]⟩:BA)).bind fun l=>
 (m_p03_block fu b.Body (⟨#[9]⟩:BA)).bind fun d=>
 (cat l d).bind fun m=>
 (cat m (⟨#[125,10]⟩:BA)).bind fun o=>
 m_r03_Print_L1 fu e (f+1) o
def m_r03_Print (fu:Nat)(c:GProgram):Option (BA):=
 (m_r03_Print_L0 fu c.Records 0 (⟨#[]⟩:BA)).bind fun d=>d.el (fun b=>
 (m_r03_Print_L1 fu c.Funcs 0 b).bind fun d=>d.el (fun a=>
 some a
 ) (fun o=>some o)
 ) (fun o=>some o)
theorem sp_r03_Print (fu:Nat):Ct_r03_Print (m_r03_Print fu):=by
 intro w0 b3 o u v e h r0 hP H
 unfold m_r03_Print at H
 have b:=hP.bx
 clear hP
 generalize hG:Gof _=G at b ⊢
 refine cf Try.func42 r ?_
 refine wCut [(0,.agg #[Z u o.Records v,Z e o.Funcs h])] ⟨r,y⟩ fun b5=>?_
 refine q (g (sTo (aNewB b (mBox r)) ?_))
 rintro _ w1 ⟨b1,rfl,b⟩
 refine s (xAsT r) (n (q (g (s (xAsT r) (n (q (q (g (s (f26_0 r) (s (l23 r (b.bk 0 r) r) (s (xLnR u23_ r) (s (mi r) (n ?_)))))))))))))
 have ay:=(b.dl 0 r).bd
 obtain ⟨Y2,c,H⟩:=bs H
 refine wJd (fun f w=>∃ (p:BA),Has f [(1,Pt b1),(3,T p)]∧Bx w0 w b3 G [.box b1 26 #[Z u o.Records v,Z e o.Funcs h]] [.l u v o.Records,.l e h o.Funcs]∧Ld.go p=Y2) (fun J2 ac=>?_) ?_
 ·refine wBk (wLoopGd (fun b6 f w=>∃ (I:Nat)(p:BA),b6=o.Records.length - I∧I≤o.Records.length∧Has f [(11,V (I:Int)),(1,Pt b1),(3,T p),(9,Z u o.Records v),(10,V (o.Records.length:Int))]∧Bx w0 w b3 G [.box b1 26 #[Z u o.Records v,Z e o.Funcs h]] [.l u v o.Records,.l e h o.Funcs]∧m_r03_Print_L0 fu (o.Records.drop I) I p=some Y2) (o.Records.length) ⟨0,(⟨#[]⟩:BA),r,Nat.zero_le _,⟨r,r,r,r,r,y⟩,b,c⟩ ?_)
  clear b c
  rintro b6 f w ⟨I,p,rfl,az,hf,b,c⟩ K2 ae
  obtain ⟨b5,rfl⟩:=has_updL _ _ hf
  clear hf
  rcases Nat.lt_or_ge I o.Records.length with Q | Q
  ·obtain ⟨K,L⟩:=get_ex (l:=o.Records) Q
   rw [drop_id L,m_r03_Print_L0] at c
   obtain ⟨aA,af,b⟩:=b.nm 0 rfl L
   obtain ⟨D,E,rfl,R⟩:=GRecord.out af
   replace b:=b.dadd (d:=.l D E K.Fields) R
   refine q (g (s (xLssT r r (by omega)) (n (q (wIfT r (wk (q (wBk (q (g (s (xIdR u23_ ti127 r r r (b.dl 2 r) L) (s (xLoadS [T K.Name,Z D K.Fields E] u127_ r ti127 r r (b.dc 1 r)) (sTo (aNewB b (mAlloc ti127)) ?_)))))))))))))
   rintro _ w4 ⟨b4,rfl,b⟩
   refine sTs (tb b 0 [T K.Name,Z D K.Fields E] r ti127 r r r r r (show _=#[T K.Name,Z D K.Fields E] from r)) ?_
   intro w5 b
   try dsimp only [List.set] at b
   refine n (wDr1 b [0] [] [] (by kernel_rfl) ?_)
   replace b:=b.drew
   have m:=(b.ad [0] [])
   refine pF 0 r (xMvT r) m ?_
   obtain ⟨g6,ag,c⟩:=bs c
   refine pF 1 r (xCat r r ag) m (pF 2 r (f127_0 r) m (uF 3 r (fun hS=>l9 r (hS.bk 0 r) r) m ?_))
   obtain ⟨g7,ah,c⟩:=bs c
   refine pF 4 r (xCat r r ah) m ?_
   obtain ⟨g8,ai,c⟩:=bs c
   refine pF 5 r (xCat r r ai) m (pF 6 r (f127_1 r) m (uF 7 r (fun hS=>l70 r (hS.bk 0 r) r) m ?_))
   obtain ⟨au,h9,c⟩:=bs c
   have hc:=(sp_r03_words fu) (b.pr [] [0,1] [0] r)  h9
   refine hO 8 (oc r r (ec cal55 r) hc ?_)
   rintro _ w9 ⟨rfl,S⟩
   replace b:=b.cl [] [0,1] r S r
   try dsimp only [pick,nth,ca,na] at b
   have m:=(b.ad [0] [])
   refine ⟨(sF m),?_⟩
   obtain ⟨aC,U,c⟩:=bs c
   refine pF 9 r (xCat r r U) m ?_
   obtain ⟨aj,W,c⟩:=bs c
   refine pF 10 r (xCat r r W) m (pF 11 r (xAsT r) m (hD (g (s (xAdd64 r r (by omega) (by omega)) (s (mi r) (n ?_))))))
   exact ae (o.Records.length - (I+1)) _ _ (by omega) ⟨I+1,aj,r,by omega,⟨r,r,r,r,r,y⟩,(b.ad [1] [2,3]),c⟩
  obtain rfl:I=o.Records.length:=by omega
  rw [drop_end,m_r03_Print_L0] at c
  refine q (g (s (xLssF r r (by omega)) (n (q (wIfF r (wEx ?_))))))
  exact ac _ _ ⟨p,⟨r,r,y⟩,b,sm c⟩
 clear b
 rintro f w ⟨p,hf,b,ak⟩
 obtain ⟨b5,rfl⟩:=has_updL _ _ hf
 clear hf
 subst ak
 replace H:=gi H
 refine q (q (g (s (f26_1 r) (s (l24 r (b.bk 0 r) r) (s (xLnR u24_ r) (s (mi r) (n ?_)))))))
 have av:=(b.dl 1 r).bd
 obtain ⟨X,a,H⟩:=bs H
 refine wJd (fun f w=>∃ (j:BA),Has f [(3,T j)]∧Bx w0 w b3 G [] [.l e h o.Funcs]∧Ld.go j=X) (fun aD Y=>?_) ?_
 ·refine wBk (wLoopGd (fun b6 f w=>∃ (x:Nat)(j:BA),b6=o.Funcs.length - x∧x≤o.Funcs.length∧Has f [(30,V (x:Int)),(3,T j),(28,Z e o.Funcs h),(29,V (o.Funcs.length:Int))]∧Bx w0 w b3 G [] [.l e h o.Funcs]∧m_r03_Print_L1 fu (o.Funcs.drop x) x j=some X) (o.Funcs.length) ⟨0,p,r,Nat.zero_le _,⟨r,r,r,r,y⟩,(b.ad [] [1]),a⟩ ?_)
  clear b a
  rintro b6 f w ⟨x,j,rfl,aw,hf,b,a⟩ aE a0
  obtain ⟨b5,rfl⟩:=has_updL _ _ hf
  clear hf
  rcases Nat.lt_or_ge x o.Funcs.length with J | J
  ·obtain ⟨t,F⟩:=get_ex (l:=o.Funcs) J
   rw [drop_id F,m_r03_Print_L1] at a
   obtain ⟨ax,a1,b⟩:=b.nm 0 rfl F
   obtain ⟨z,A,B,C,rfl,M,N⟩:=GFunc.out a1
   replace b:=b.dadd (d:=.l z A t.Params) M
   replace b:=b.dadd (d:=.l B C t.Body) N
   refine q (g (s (xLssT r r (by omega)) (n (q (wIfT r (wk (q (wBk (q (g (s (xIdR u24_ ti82 r r r (b.dl 3 r) F) (s (xLoadS [T t.Name,V t.Line,Z z t.Params A,Z B t.Body C] u82_ r ti82 r r (b.dc 2 r)) (sTo (aNewB b (mAlloc ti82)) ?_)))))))))))))
   rintro _ aF ⟨aG,rfl,b⟩
   refine sTs (tb b 0 [T t.Name,V t.Line,Z z t.Params A,Z B t.Body C] r ti82 r r r r r (show _=#[T t.Name,V t.Line,Z z t.Params A,Z B t.Body C] from r)) ?_
   intro aH b
   try dsimp only [List.set] at b
   refine n (wDr1 b [0] [] [] (by kernel_rfl) ?_)
   replace b:=b.drew
   have m:=(b.dp [])
   refine pF 0 r (xMvT r) m ?_
   obtain ⟨aI,a2,a⟩:=bs a
   refine pF 1 r (xCat r r a2) m (pF 2 r (f82_0 r) m (uF 3 r (fun hS=>l9 r (hS.bk 0 r) r) m ?_))
   obtain ⟨aJ,a3,a⟩:=bs a
   refine pF 4 r (xCat r r a3) m ?_
   obtain ⟨aK,a4,a⟩:=bs a
   refine pF 5 r (xCat r r a4) m (pF 6 r (f82_2 r) m (uF 7 r (fun hS=>l70 r (hS.bk 0 r) r) m (pF 11 r (f82_3 r) m (uF 12 r (fun hS=>l80 r (hS.bk 0 r) r) m ?_))))
   obtain ⟨al,am,a⟩:=bs a
   have hc:=(sp_r03_words fu) (b.pr [] [0] [1] r)  am
   refine hO 8 (oc r r (ec cal55 r) hc ?_)
   rintro _ aL ⟨rfl,S⟩
   replace b:=b.cl [] [0] r S r
   try dsimp only [pick,nth,ca,na] at b
   have m:=(b.dp [])
   refine ⟨(sF m),?_⟩
   obtain ⟨aM,a5,a⟩:=bs a
   refine pF 9 r (xCat r r a5) m ?_
   obtain ⟨aN,a6,a⟩:=bs a
   refine pF 10 r (xCat r r a6) m ?_
   obtain ⟨an,ao,a⟩:=bs a
   have hc:=(sp_p03_block fu) (b.pr [] [0] [0] r)  ao
   refine hO 13 (oc r r (ec cal56 r) hc ?_)
   rintro _ aO ⟨rfl,S⟩
   replace b:=b.cl [] [0] r S r
   try dsimp only [pick,nth,ca,na] at b
   have m:=(b.dp [])
   refine ⟨(sF m),?_⟩
   obtain ⟨aP,a7,a⟩:=bs a
   refine pF 14 r (xCat r r a7) m ?_
   obtain ⟨ap,a8,a⟩:=bs a
   refine pF 15 r (xCat r r a8) m (pF 16 r (xAsT r) m (hD (g (s (xAdd64 r r (by omega) (by omega)) (s (mi r) (n ?_))))))
   exact a0 (o.Funcs.length - (x+1)) _ _ (by omega) ⟨x+1,ap,r,by omega,⟨r,r,r,r,y⟩,(b.ad [] [3]),a⟩
  obtain rfl:x=o.Funcs.length:=by omega
  rw [drop_end,m_r03_Print_L1] at a
  refine q (g (s (xLssF r r (by omega)) (n (q (wIfF r (wEx ?_))))))
  exact Y _ _ ⟨j,⟨r,y⟩,b,sm a⟩
 clear b
 rintro f w ⟨j,hf,b,a9⟩
 obtain ⟨b5,rfl⟩:=has_updL _ _ hf
 clear hf
 subst a9
 replace H:=gi H
 refine q (g (s (xMvT r) (s (xAsT r) (n (wRt ?_)))))
 obtain rfl:=sm H
 refine resV1 r (rdT r) ?_
 exact ⟨r,(b.dp [])⟩
end
end Go.Proofs.Ytfglbdkfnphjgaa
