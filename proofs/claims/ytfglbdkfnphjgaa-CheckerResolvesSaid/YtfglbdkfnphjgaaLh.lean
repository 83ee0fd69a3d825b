/- Contracts, printed by gen3.py. -/
import Derived.Test.YtfglbdkfnphjgaaZt
import Derived.Test.YtfglbdkfnphjgaaLb
import Derived.Test.YtfglbdkfnphjgaaLc
import Derived.Test.YtfglbdkfnphjgaaLd
import Derived.Test.YtfglbdkfnphjgaaLg
import Derived.Test.YtfglbdkfnphjgaaLi
import Derived.Test.YtfglbdkfnphjgaaLj
set_option linter.unusedVariables false
set_option maxHeartbeats 12800000
set_option linter.unusedSimpArgs false
set_option maxRecDepth 4000
namespace Go.Proofs.Ytfglbdkfnphjgaa
open Go.RowKit Go.Fw
noncomputable section
def Ct_kit_Text (m:(List Int)→Option (BA)):Prop:=∀ {c:World} {f:Nat→Prop} {d:(List Int)} {a:Option Addr} {b:Nat} {e:BA},Pre c f [] [.l a b d]→m d=some e→
 Calls Try.prog 26 #[Z a d b] c (Ret fun v w=>v=T e∧Bx c w f (Gof []) [] [])
def m_kit_Text (fu:Nat)(c:(List Int)):Option (BA):=
 (m_kit_Program fu c).bind fun a=>
 (m_r03_Print fu a).bind fun b=>
 some b
theorem sp_kit_Text (fu:Nat):Ct_kit_Text (m_kit_Text fu):=by
 intro u A o b c v k d
 unfold m_kit_Text at d
 have a:=k.bx
 clear k
 generalize w:Gof _=G at a ⊢
 refine cf Try.func26 r ?_
 refine wCut [(0,Z b o c)] ⟨r,y⟩ fun B=>?_
 refine q (g (s (xAsT r) (n (q (g (s (xMvS r) ?_))))))
 obtain ⟨l,p,d⟩:=bs d
 have hc:=(sp_kit_Program fu) (a.pr [] [] [0] r)  p
 refine sc (ec cal43 r) hc ?_
 rintro _ x ⟨e,f,h,i,rfl,j⟩
 replace a:=a.cl [] [] r j r
 try dsimp only [pick,nth,ca,na] at a
 obtain ⟨m,t,d⟩:=bs d
 have hc:=(sp_r03_Print fu) (a.pr [] [] [0,1] r)  t
 refine sc (ec cal42 r) hc ?_
 rintro _ z ⟨rfl,j⟩
 replace a:=a.cl [] [] r j r
 try dsimp only [pick,nth,ca,na] at a
 refine s (xAsT r) (n (wRt ?_))
 obtain rfl:=sm d
 refine resV1 r (rdT r) ?_
 exact ⟨r,(a.dp [])⟩
def Ct_l04_known (m:Option (Bool)):Prop:=∀ {a:World} {c:Nat→Prop}  {b:Bool},Pre a c [] []→m=some b→
 Calls Try.prog 28 #[] a (Ret fun v w=>v=.bool b∧Bx a w c (Gof []) [] [])
def m_l04_known (fu:Nat):Option (Bool):=
 (m_r03_Parse fu (⟨#[102,117,110,99,32,102,40,97,41,32,123,32,118,97,114,32,116,58,32,105,110,116,59,32,116,32,61,32,97,59,32,125]⟩:BA)).bind fun o=>
 pel o fun f o=>pel o fun j k=>
 (m_checker_Check fu f).bind fun o=>
 pel o fun a o=>pel o fun l h=>
 if h≠0 then
  some false
 else
  if (a.Vars.length:Int)≠1 then
   some false
  else
   (ix a.Vars 0).bind fun m=>
   if (m.length:Int)≠2 then
    some false
   else
    if (a.Stmts.length:Int)≠3 then
     some false
    else
     (m_checker_Find fu a (⟨#[102]⟩:BA)).bind fun o=>
     pel o fun b c=>
     (ix m 1).bind fun i=>
     if i.From=1 then
      if i.To=2 then
       (m_checker_Visible fu a 0 0).bind fun d=>
       (m_same_int fu d ([0]:List Int)).bind fun e=>
       if e=true then
        if b=0 then
         some c
        else
         some false
       else
        some false
      else
       some false
     else
      some false
theorem sp_l04_known (fu:Nat):Ct_l04_known (m_l04_known fu):=by
 intro w0 aF r0 hP b
 unfold m_l04_known at b
 have a:=hP.bx
 clear hP
 generalize hG:Gof _=G at a ⊢
 refine cf Try.func28 r ?_
 refine wCut [] y fun aG=>?_
 refine q (g (s (xAsB r) (n (q (g ?_)))))
 obtain ⟨⟨B,ac,ae⟩,h1,b⟩:=bs b
 replace b:=pi b
 replace b:=pi b
 have hc:=(sp_r03_Parse fu) (a.pr [] [] [] r)  h1
 refine sc (ec cal32 r) hc ?_
 rintro _ w1 ⟨w,x,z,A,rfl,I⟩
 replace a:=a.cl [] [] r I r
 try dsimp only [pick,nth,ca,na] at a
 refine s xMove (s (xExtract r r) (s (xExtract r r) (s (xExtract r r) (sTo (aNewB a (mAlloc ti26)) ?_))))
 rintro _ w2 ⟨b2,rfl,a⟩
 refine sTs (tb a 0 [Z w B.Records x,Z z B.Funcs A] r ti26 r r r r r (show _=#[Z w B.Records x,Z z B.Funcs A] from r)) ?_
 intro w3 a
 try dsimp only [List.set] at a
 refine s (xi r) (s (xi r) (n (q (g (s (xLoadS [Z w B.Records x,Z z B.Funcs A] u26_ r ti26 r r (Cells.part (a.bk 0 r).cells (o2:=0) r)) ?_)))))
 obtain ⟨⟨c,ag,ah⟩,h4,b⟩:=bs b
 replace b:=pi b
 replace b:=pi b
 have hc:=(sp_checker_Check fu) (a.pr [] [0] [0,1] r)  h4
 refine sc (ec cal33 r) hc ?_
 rintro _ w4 ⟨e,f,j,m,o,p,t,u,rfl,I⟩
 replace a:=a.cl [] [0] r I r
 try dsimp only [pick,nth,ca,na] at a
 refine s xMove (s (xExtract r r) (s (xExtract r r) (s (xExtract r r) (sTo (aNewB a (mAlloc ti30)) ?_))))
 rintro _ w5 ⟨b5,rfl,a⟩
 refine sTs (tb a 0 [Z e c.Program.Records f,Z j c.Program.Funcs m,Z o c.Vars p,Z t c.Stmts u] r ti30 r r r r r (show _=#[Z e c.Program.Records f,Z j c.Program.Funcs m,Z o c.Vars p,Z t c.Stmts u] from r)) ?_
 intro w6 a
 try dsimp only [List.set] at a
 refine s (xi r) (s (xi r) (n (q (q (g (s (mi r) (s (xNeqD r r) (s (xMvB r) ?_))))))))
 rcases iv b with ⟨h7,b⟩|⟨h7,b⟩
 ·rw [decide_eq_true h7]
  refine sNo r (sNo r (sNo r (sNo r (s (xPkTB r r) (s (xMvB r) (sNo r (sNo r (sNo r (sNo r (sNo r (sNo r (s (xPkTB r r) (s (xMvB r) ?_)))))))))))))
  refine sNo r (sNo r (sNo r (sNo r (s (xPkTB r r) (n (wIfT r (q (g (s (xAsB r) (n (wRt ?_)))))))))))
  obtain rfl:=sm b
  refine resV1 r (rdT r) ?_
  exact ⟨r,(a.ad [] [])⟩
 rw [decide_eq_false h7]
 refine sGo r (s (f30_2 r) (sGo r (s (l27 r (a.bk 0 r) r) (sGo r (s (xLnR u27_ r) (sGo r (s (xNeqD r r) (s (xPkFB r r) (s (xMvB r) ?_)))))))))
 rcases iv b with ⟨h8,b⟩|⟨h8,b⟩
 ·rw [decide_eq_true h8]
  refine sNo r (sNo r (sNo r (sNo r (sNo r (sNo r (s (xPkTB r r) (s (xMvB r) (sNo r (sNo r (sNo r (sNo r (s (xPkTB r r) (n ?_)))))))))))))
  refine wIfT r (q (g (s (xAsB r) (n (wRt ?_)))))
  obtain rfl:=sm b
  refine resV1 r (rdT r) ?_
  exact ⟨r,(a.ad [] [])⟩
 rw [decide_eq_false h8]
 refine sGo r (s (f30_2 r) (sGo r (s (l27 r (a.bk 0 r) r) ?_)))
 obtain ⟨e9,D,b⟩:=bs b
 obtain ⟨k9,K,D⟩:=ix_inv D
 obtain ⟨ai,a0,a⟩:=a.nm 2 rfl D
 obtain ⟨L,M,rfl,N⟩:=a0
 replace a:=a.dadd (d:=.l L M e9) N
 refine sGo r (s (xIdR u27_ ti60 r r K (a.dl 4 r) D) (sGo r (s (xLoad u60_ r r ((a.dc 1 r) 0 _ r)) (sGo r (s (xLnR u60_ r) (sGo r (s (xNeqD r r) (s (xPkFB r r) (s (xMvB r) ?_)))))))))
 rcases iv b with ⟨Q,b⟩|⟨Q,b⟩
 ·rw [decide_eq_true Q]
  refine sNo r (sNo r (sNo r (sNo r (s (xPkTB r r) (n (wIfT r (q (g (s (xAsB r) (n (wRt ?_)))))))))))
  obtain rfl:=sm b
  refine resV1 r (rdT r) ?_
  exact ⟨r,(a.ad [] [])⟩
 rw [decide_eq_false Q]
 refine sGo r (s (f30_3 r) (sGo r (s (l28 r (a.bk 0 r) r) (sGo r (s (xLnR u28_ r) (sGo r (s (xNeqD r r) (s (xPkFB r r) (n ?_)))))))))
 rcases iv b with ⟨R,b⟩|⟨R,b⟩
 ·refine wIfT (bt R) (q (g (s (xAsB r) (n (wRt ?_)))))
  obtain rfl:=sm b
  refine resV1 r (rdT r) ?_
  exact ⟨r,(a.ad [] [])⟩
 refine wIfF (bf R) (wk (q (g (s (xLoadS [Z e c.Program.Records f,Z j c.Program.Funcs m,Z o c.Vars p,Z t c.Stmts u] u30_ r ti30 r r (Cells.part (a.bk 0 r).cells (o2:=0) r)) ?_))))
 obtain ⟨⟨a3,a4⟩,a5,b⟩:=bs b
 replace b:=pi b
 have hc:=(sp_checker_Find fu) (a.pr [] [0,1] [2,3,4,5] r)  a5
 refine sc (ec cal29 r) hc ?_
 rintro _ an ⟨rfl,I⟩
 replace a:=a.cl [] [0,1] r I r
 try dsimp only [pick,nth,ca,na] at a
 refine s xMove (s (xExtract r r) (s (xExtract r r) (s (xi r) (s (xAsB r) (n (q (g (s (f30_2 r) (s (l27 r (a.bk 0 r) r) (s (xIdR u27_ ti60 r r K (a.dl 4 r) D) (s (xLoad u60_ r r ((a.dc 1 r) 0 _ r)) ?_)))))))))))
 obtain ⟨v,C,b⟩:=bs b
 obtain ⟨ao,J,C⟩:=ix_inv C
 refine s (xIdR u60_ ti59 r r J (a.dl 0 r) C) (s (f59_5 r) (s (xLoad u3_ r r ((elF (ds:=[T v.Name,V v.Kind,V v.Record,V v.Words,.bool v.Param,V v.From,V v.To]) (a.dl 0 r) C (fun _ h=>h)) 5 _ r)) (s (xEqlD r r) (s (xMvB r) ?_))))
 rcases iv b with ⟨S,b⟩|⟨S,b⟩
 ·rw [decide_eq_true S]
  refine sGo r (s (f30_2 r) (sGo r (s (l27 r (a.bk 0 r) r) (sGo r (s (xIdR u27_ ti60 r r K (a.dl 4 r) D) (sGo r (s (xLoad u60_ r r ((a.dc 1 r) 0 _ r)) (sGo r (s (xIdR u60_ ti59 r r J (a.dl 0 r) C) (sGo r (s (f59_6 r) (sGo r (s (xLoad u3_ r r ((elF (ds:=[T v.Name,V v.Kind,V v.Record,V v.Words,.bool v.Param,V v.From,V v.To]) (a.dl 0 r) C (fun _ h=>h)) 6 _ r)) ?_)))))))))))))
  refine sGo r (s (xEqlD r r) (s (xPkTB r r) (s (xMvB r) ?_)))
  rcases iv b with ⟨U,b⟩|⟨U,b⟩
  ·rw [decide_eq_true U]
   refine sGo r (s (xLoadS [Z e c.Program.Records f,Z j c.Program.Funcs m,Z o c.Vars p,Z t c.Stmts u] u30_ r ti30 r r (Cells.part (a.bk 0 r).cells (o2:=0) r)) ?_)
   obtain ⟨W,a6,b⟩:=bs b
   refine sGo r ?_
   have hc:=(sp_checker_Visible fu) (a.pr [] [0,1] [2,3,4,5] r)  a6
   refine sc (ec cal31 r) hc ?_
   rintro _ ap ⟨E,F,Y,rfl,I⟩
   have a7:=a.chg.size
   replace a:=a.cl [] [0,1] r I r
   try dsimp only [pick,nth,ca,na] at a
   replace a:=a.reb 0 w0.heap.size r a7
   try dsimp only [List.set] at a
   refine sGo r (sTo (aRowB a [[V 0]] ([0]:List Int) (bs22_1_a r) r r (by decide) ⟨r,y⟩) ?_)
   rintro _ aq ⟨a8,rfl,a⟩
   obtain ⟨a9,aa,b⟩:=bs b
   refine sGo r ?_
   have hc:=(sp_same_int fu) (Pre.all (Dc:=[.l E F W,.l (ad a8) 1 ([0]:List Int)]) (dcons ((a.vw 1 1 r r)).all (dcons ((a.vw 0 0 r r)).all dnil))) aa
   refine sc (ec cal21 r) hc ?_
   rintro _ ar ⟨rfl,I⟩
   replace a:=a.ext I.ex
   refine s (xPkTB r r) (s (xMvB r) ?_)
   rcases iv b with ⟨H,b⟩|⟨H,b⟩
   ·rw [H]
    refine sGo r (s (mi r) (sGo r (s (xEqlD r r) (s (xPkTB r r) (s (xMvB r) ?_)))))
    rcases iv b with ⟨X,b⟩|⟨X,b⟩
    ·rw [decide_eq_true X]
     refine sGo r (s (xMvB r) (s (xPkTB r r) (s (xAsB r) (n (wRt ?_)))))
     obtain rfl:=sm b
     refine resV1 r (rdT r) ?_
     exact ⟨r,(a.ad [] [])⟩
    rw [decide_eq_false X]
    refine sNo r (s (xPkFB r r) (s (xAsB r) (n (wRt ?_))))
    obtain rfl:=sm b
    refine resV1 r (rdT r) ?_
    exact ⟨r,(a.ad [] [])⟩
   replace H:=nt H
   rw [H]
   refine sNo r (sNo r (s (xPkFB r r) (s (xMvB r) (sNo r (s (xPkFB r r) (s (xAsB r) (n (wRt ?_))))))))
   obtain rfl:=sm b
   refine resV1 r (rdT r) ?_
   exact ⟨r,(a.ad [] [])⟩
  rw [decide_eq_false U]
  refine sNo r (sNo r (sNo r (sNo r (s (xPkFB r r) (s (xMvB r) (sNo r (sNo r (s (xPkFB r r) (s (xMvB r) (sNo r (s (xPkFB r r) (s (xAsB r) (n ?_)))))))))))))
  refine wRt ?_
  obtain rfl:=sm b
  refine resV1 r (rdT r) ?_
  exact ⟨r,(a.ad [] [])⟩
 rw [decide_eq_false S]
 refine sNo r (sNo r (sNo r (sNo r (sNo r (sNo r (sNo r (sNo r (s (xPkFB r r) (s (xMvB r) (sNo r (sNo r (sNo r (sNo r ?_)))))))))))))
 refine s (xPkFB r r) (s (xMvB r) (sNo r (sNo r (s (xPkFB r r) (s (xMvB r) (sNo r (s (xPkFB r r) (s (xAsB r) (n (wRt ?_))))))))))
 obtain rfl:=sm b
 refine resV1 r (rdT r) ?_
 exact ⟨r,(a.ad [] [])⟩
abbrev T_l04_names:=GSource→Int→Int→(List GExpr)→Option (Bool)
def Ct_l04_names (m:GSource→Int→Int→(List Ge)→Option (Bool)):Prop:=∀ {p:World} {A:Nat→Prop} {o:GSource} {u:Int} {x:Int} {t:(List Ge)} {a:Option Addr} {b:Nat} {c:Option Addr} {d:Nat} {e:Option Addr} {f:Nat} {h:Option Addr} {i:Nat} {j:Option Addr} {k:Nat} {z:Bool},Pre p A [] [.l a b o.Program.Records,.l c d o.Program.Funcs,.l e f o.Vars,.l h i o.Stmts,.l j k t]→m o u x t=some z→
 Calls Try.prog 47 #[.agg #[Z a o.Program.Records b,Z c o.Program.Funcs d,Z e o.Vars f,Z h o.Stmts i],V u,V x,Z j t k] p (Ret fun v w=>v=.bool z∧Bx p w A (Gof []) [] [])
def F_l04_names_J2 (fu:Nat)(r_l04_names:T_l04_names) (a:Ge):Option (Ld (Bool) (Bool)):=
 if a.Op=1 then
  some (.go true)
 else
  if a.Op=2 then
   some (.go true)
  else
   some (.go (decide (a.Op=3)))
def F_l04_names_L3 (fu:Nat)(r_l04_names:T_l04_names) (d:Ge):List Int→Nat→Bool→Option (Ld (Bool) (Bool))
 | [],_,a=>some (.go a)
 | e :: b,c,a=>
 if a=true then
  F_l04_names_L3 fu r_l04_names d b (c+1) true
 else
  F_l04_names_L3 fu r_l04_names d b (c+1) (decide (e=d.Var))
def F_l04_names_J1 (fu:Nat)(r_l04_names:T_l04_names) (h:GSource) (i:Int)(b:(List Int)) (c:Ge):Option (Ld (Unit) (Bool)):=
 (F_l04_names_J2 fu r_l04_names c).bind fun j=>j.el (fun d=>
 if d=true then
  (F_l04_names_L3 fu r_l04_names c b 0 false).bind fun j=>j.el (fun a=>
  (ix h.Vars i).bind fun f=>
  if (!a)=true then
   some (.out false)
  else
   (ix f c.Var).bind fun e=>
   if ¬ e.Name=c.Name then
    some (.out false)
   else
    if e.Kind≠(wr ((wr (1+c.Op)) - 1)) then
     some (.out false)
    else
     some (.go ())
  ) (fun o=>some (.out o))
 else
  some (.go ())
 ) (fun o=>some (.out o))
def F_l04_names_L0 (fu:Nat)(r_l04_names:T_l04_names) (c:GSource) (d:Int)(e:Int)(a:(List Int)):List Ge→Nat→Option (Ld (Unit) (Bool))
 | [],_=>some (.go ())
 | f :: h,i=>
 (F_l04_names_J1 fu r_l04_names c d a f).bind fun j=>j.el (fun _=>
 (r_l04_names c d e f.Args).bind fun b=>
 if (!b)=true then
  some (.out false)
 else
  F_l04_names_L0 fu r_l04_names c d e a h (i+1)
 ) (fun o=>some (.out o))
def F_l04_names (fu:Nat)(r_l04_names:T_l04_names) (b:GSource) (c:Int)(d:Int)(e:(List Ge)):Option (Bool):=
 (m_checker_Visible fu b c d).bind fun a=>
 (F_l04_names_L0 fu r_l04_names b c d a e 0).bind fun f=>f.el (fun _=>
 some true
 ) (fun o=>some o)
def tab_l04_names:Nat→(GSource→Int→Int→(List Ge)→Option (Bool))
 | 0=>(fun _ _ _ _=>none)
 | fu+1=>F_l04_names fu (tab_l04_names fu)
def m_l04_names (fu:Nat):=(tab_l04_names fu)
theorem wk_l04_names (fu:Nat)(r_l04_names:T_l04_names) (H_l04_names:Ct_l04_names r_l04_names):Ct_l04_names (F_l04_names fu r_l04_names):=by
 intro Y bc B x1 x2 N o p t u v x z A E F r0 hP S
 unfold F_l04_names at S
 have b:=hP.bx
 clear hP
 generalize hG:Gof _=G at b ⊢
 refine cf Try.func47 r ?_
 refine wCut [(0,.agg #[Z o B.Program.Records p,Z t B.Program.Funcs u,Z v B.Vars x,Z z B.Stmts A]),(1,V x1),(2,V x2),(3,Z E N F)] ⟨r,r,r,r,y⟩ fun bg=>?_
 refine q (g (sTo (aNewB b (mBox r)) ?_))
 rintro _ w1 ⟨b1,rfl,b⟩
 refine s (xAsB r) (n (q (g (s (xLoadS [Z o B.Program.Records p,Z t B.Program.Funcs u,Z v B.Vars x,Z z B.Stmts A] u30_ r ti30 r r (Cells.part (b.bk 0 r).cells (o2:=0) r)) (s (mi r) (s (mi r) ?_))))))
 obtain ⟨m,h2,S⟩:=bs S
 have hc:=(sp_checker_Visible fu) (b.pr [] [0] [0,1,2,3] r)  h2
 refine sc (ec cal31 r) hc ?_
 rintro _ w2 ⟨c,e,j,rfl,hK⟩
 have ay:=b.chg.size
 replace b:=b.cl [] [0] r hK r
 try dsimp only [pick,nth,ca,na] at b
 replace b:=b.reb 0 Y.heap.size r ay
 try dsimp only [List.set] at b
 refine s (xAsS r) (n (q (q (g (s (xMvS r) (s (xLnR u109_ r) (s (mi r) (n ?_))))))))
 have aQ:=(b.dl 5 r).bd
 obtain ⟨Y3,D,S⟩:=bs S
 refine wJd (fun f w=>Has f []∧Bx Y w bc G [O Y.heap.size c e 3 Int j,.box b1 30 #[Z o B.Program.Records p,Z t B.Program.Funcs u,Z v B.Vars x,Z z B.Stmts A]] [.els j m,.l o p B.Program.Records,.l t u B.Program.Funcs,.l v x B.Vars,.l z A B.Stmts,.l E F N]∧Ld.go ()=Y3) (fun J3 az=>?_) ?_
 ·refine wBk (wLoopGd (fun bh f w=>∃ (X:Nat),bh=N.length - X∧X≤N.length∧Has f [(21,V (X:Int)),(1,V x1),(2,V x2),(4,Pt b1),(9,Z c m e),(19,Z E N F),(20,V (N.length:Int))]∧Bx Y w bc G [O Y.heap.size c e 3 Int j,.box b1 30 #[Z o B.Program.Records p,Z t B.Program.Funcs u,Z v B.Vars x,Z z B.Stmts A]] [.els j m,.l o p B.Program.Records,.l t u B.Program.Funcs,.l v x B.Vars,.l z A B.Stmts,.l E F N]∧F_l04_names_L0 fu r_l04_names B x1 x2 m (N.drop X) X=some Y3) (N.length) ⟨0,r,Nat.zero_le _,⟨r,r,r,r,r,r,r,y⟩,b,D⟩ ?_)
  clear b D
  rintro bh f w ⟨X,rfl,aR,hf,b,D⟩ K3 aA
  obtain ⟨bg,rfl⟩:=has_updL _ _ hf
  clear hf
  rcases Nat.lt_or_ge X N.length with an | an
  ·obtain ⟨H,af⟩:=get_ex (l:=N) an
   rw [drop_id af,F_l04_names_L0] at D
   obtain ⟨aS,aB,b⟩:=b.nm 5 rfl af
   obtain ⟨I,J,rfl,ao⟩:=GExpr.out aB
   replace b:=b.dadd (d:=.l I J H.Args) ao
   refine q (g (s (xLssT r r (by omega)) (n (q (wIfT r (wk (q (wBk (q (g (s (xIdR u109_ ti138 r r r (b.dl 7 r) af) (s (xLoadS [V H.Op,V H.Number,V H.Var,T H.Name,T H.Field,Z I H.Args J] u138_ r ti138 r r (b.dc 1 r)) (sTo (aNewB b (mAlloc ti138)) ?_)))))))))))))
   rintro _ w5 ⟨b5,rfl,b⟩
   refine sTs (tb b 0 [V H.Op,V H.Number,V H.Var,T H.Name,T H.Field,Z I H.Args J] r ti138 r r r r r (show _=#[V H.Op,V H.Number,V H.Var,T H.Name,T H.Field,Z I H.Args J] from r)) ?_
   intro w6 b
   try dsimp only [List.set] at b
   refine n (q ?_)
   obtain ⟨Y7,C,D⟩:=bs D
   refine wJd (fun f w=>Has f [(1,V x1),(2,V x2),(4,Pt b1),(9,Z c m e),(11,Pt b5),(19,Z E N F),(20,V (N.length:Int)),(21,V (X:Int))]∧Bx Y w bc G [.box b5 138 #[V H.Op,V H.Number,V H.Var,T H.Name,T H.Field,Z I H.Args J],O Y.heap.size c e 3 Int j,.box b1 30 #[Z o B.Program.Records p,Z t B.Program.Funcs u,Z v B.Vars x,Z z B.Stmts A]] [.l I J H.Args,.els j m,.l o p B.Program.Records,.l t u B.Program.Funcs,.l v x B.Vars,.l z A B.Stmts,.l E F N]∧Ld.go ()=Y7) (fun J7 ap=>?_) ?_
   ·unfold F_l04_names_J1 at C
    refine q ?_
    obtain ⟨Y8,R,C⟩:=bs C
    refine wJd (fun f w=>∃ (a1:Bool),Has f [(1,V x1),(2,V x2),(4,Pt b1),(9,Z c m e),(11,Pt b5),(19,Z E N F),(20,V (N.length:Int)),(21,V (X:Int)),(37,.bool a1)]∧Bx Y w bc G [.box b5 138 #[V H.Op,V H.Number,V H.Var,T H.Name,T H.Field,Z I H.Args J],O Y.heap.size c e 3 Int j,.box b1 30 #[Z o B.Program.Records p,Z t B.Program.Funcs u,Z v B.Vars x,Z z B.Stmts A]] [.l I J H.Args,.els j m,.l o p B.Program.Records,.l t u B.Program.Funcs,.l v x B.Vars,.l z A B.Stmts,.l E F N]∧Ld.go a1=Y8) (fun J8 ag=>?_) ?_
    ·unfold F_l04_names_J2 at R
     refine g (s (f138_0 r) (s (l3 r (b.bk 0 r) r) (s (xEqlD r r) (s (xMvB r) ?_))))
     rcases iv R with ⟨h9,R⟩|⟨h9,R⟩
     ·rw [decide_eq_true h9]
      refine sNo r (sNo r (sNo r (s (xPkTB r r) (s (xMvB r) (sNo r (sNo r (sNo r (s (xPkTB r r) (n ?_)))))))))
      exact ag _ _ ⟨true,⟨r,r,r,r,r,r,r,r,r,y⟩,(b.dp [0,2,3,4,5,6,7]),sm R⟩
     rw [decide_eq_false h9]
     refine sGo r (s (f138_0 r) (sGo r (s (l3 r (b.bk 0 r) r) (sGo r (s (xEqlD r r) (s (xPkFB r r) (s (xMvB r) ?_)))))))
     rcases iv R with ⟨ah,R⟩|⟨ah,R⟩
     ·rw [decide_eq_true ah]
      refine sNo r (sNo r (sNo r (s (xPkTB r r) (n ?_))))
      exact ag _ _ ⟨true,⟨r,r,r,r,r,r,r,r,r,y⟩,(b.dp [0,2,3,4,5,6,7]),sm R⟩
     rw [decide_eq_false ah]
     refine sGo r (s (f138_0 r) (sGo r (s (l3 r (b.bk 0 r) r) (sGo r (s (xEqlD r r) (s (xPkFB r r) (n ?_)))))))
     exact ag _ _ ⟨(decide (H.Op=3)),⟨r,r,r,r,r,r,r,r,r,y⟩,(b.dp [0,2,3,4,5,6,7]),sm R⟩
    clear b
    rintro f w ⟨a1,hf,b,aD⟩
    obtain ⟨bg,rfl⟩:=has_updL _ _ hf
    clear hf
    subst aD
    replace C:=gi C
    rcases iv C with ⟨a2,C⟩|⟨a2,C⟩
    ·refine wIfT (cb a2) (q (g (s (xAsB r) (n (q (q (g (s (xMvS r) (s (xLnR u22_ r) (s (mi r) (n ?_)))))))))))
     have aL:=(b.vw 1 1 r r).bd
     obtain ⟨aq,K,C⟩:=bs C
     refine wJd (fun f w=>∃ (L:Bool),Has f [(1,V x1),(2,V x2),(4,Pt b1),(9,Z c m e),(11,Pt b5),(12,.bool L),(19,Z E N F),(20,V (N.length:Int)),(21,V (X:Int))]∧Bx Y w bc G [.box b5 138 #[V H.Op,V H.Number,V H.Var,T H.Name,T H.Field,Z I H.Args J],O Y.heap.size c e 3 Int j,.box b1 30 #[Z o B.Program.Records p,Z t B.Program.Funcs u,Z v B.Vars x,Z z B.Stmts A]] [.l I J H.Args,.els j m,.l o p B.Program.Records,.l t u B.Program.Funcs,.l v x B.Vars,.l z A B.Stmts,.l E F N]∧Ld.go L=aq) (fun aV ar=>?_) ?_
     ·refine wBk (wLoopGd (fun bh f w=>∃ (Q:Nat)(L:Bool),bh=m.length - Q∧Q≤m.length∧Has f [(40,V (Q:Int)),(1,V x1),(2,V x2),(4,Pt b1),(9,Z c m e),(11,Pt b5),(12,.bool L),(19,Z E N F),(20,V (N.length:Int)),(21,V (X:Int)),(38,Z c m e),(39,V (m.length:Int))]∧Bx Y w bc G [.box b5 138 #[V H.Op,V H.Number,V H.Var,T H.Name,T H.Field,Z I H.Args J],O Y.heap.size c e 3 Int j,.box b1 30 #[Z o B.Program.Records p,Z t B.Program.Funcs u,Z v B.Vars x,Z z B.Stmts A]] [.l I J H.Args,.els j m,.l o p B.Program.Records,.l t u B.Program.Funcs,.l v x B.Vars,.l z A B.Stmts,.l E F N]∧F_l04_names_L3 fu r_l04_names H (m.drop Q) Q L=some aq) (m.length) ⟨0,false,r,Nat.zero_le _,⟨r,r,r,r,r,r,r,r,r,r,r,r,y⟩,b,K⟩ ?_)
      clear b K
      rintro bh f w ⟨Q,L,rfl,aM,hf,b,K⟩ aW a8
      obtain ⟨bg,rfl⟩:=has_updL _ _ hf
      clear hf
      rcases Nat.lt_or_ge Q m.length with a9 | a9
      ·obtain ⟨au,a3⟩:=get_ex (l:=m) a9
       rw [drop_id a3,F_l04_names_L3] at K
       refine q (g (s (xLssT r r (by omega)) (n (q (wIfT r (wk (q (wBk (q (g (s (xIdR u22_ ti3 r r r (b.vw 1 1 r r) a3) (s (xLoad u3_ r r ((elF (ds:=[V au]) (b.vw 1 1 r r) a3 (fun _ h=>h)) 0 _ r)) (s (xi r) ?_)))))))))))))
       refine n (g (s (xMvB r) (s (xMvB r) ?_)))
       rcases iv K with ⟨a4,K⟩|⟨a4,K⟩
       ·rw [a4]
        refine sNo r (sNo r (sNo r (sNo r (s (xPkTB r r) (s (xAsB r) (n (g (s (xAdd64 r r (by omega) (by omega)) (s (mi r) (n ?_))))))))))
        exact a8 (m.length - (Q+1)) _ _ (by omega) ⟨Q+1,true,r,by omega,⟨r,r,r,r,r,r,r,r,r,r,r,r,y⟩,b,K⟩
       replace a4:=nt a4
       rw [a4]
       refine sGo r (s (mi r) (sGo r (s (f138_2 r) (sGo r (s (l3 r (b.bk 0 r) r) (sGo r (s (xEqlD r r) (s (xPkFB r r) (s (xAsB r) (n (g (s (xAdd64 r r (by omega) (by omega)) (s (mi r) ?_)))))))))))))
       refine n ?_
       exact a8 (m.length - (Q+1)) _ _ (by omega) ⟨Q+1,(decide (au=H.Var)),r,by omega,⟨r,r,r,r,r,r,r,r,r,r,r,r,y⟩,b,K⟩
      obtain rfl:Q=m.length:=by omega
      rw [drop_end,F_l04_names_L3] at K
      refine q (g (s (xLssF r r (by omega)) (n (q (wIfF r (wEx ?_))))))
      exact ar _ _ ⟨L,⟨r,r,r,r,r,r,r,r,r,y⟩,b,sm K⟩
     clear b
     rintro f w ⟨L,hf,b,av⟩
     obtain ⟨bg,rfl⟩:=has_updL _ _ hf
     clear hf
     subst av
     replace C:=gi C
     refine q ?_
     obtain ⟨aE,W,C⟩:=bs C
     obtain ⟨aX,aa,W⟩:=ix_inv W
     obtain ⟨aN,aw,b⟩:=b.nm 4 rfl W
     obtain ⟨ai,aj,rfl,ak⟩:=aw
     replace b:=b.dadd (d:=.l ai aj aE) ak
     refine wDr1 b [0,2] [0,1,6] [] (by kernel_rfl) ?_
     replace b:=b.drew
     have a:=(b.ad [0,2] [0,1,6])
     refine pF 0 r (xMvB r) a (pF 1 r (xNot r) a (pF 2 r (xMvB r) a ?_))
     rcases iv C with ⟨a5,C⟩|⟨a5,C⟩
     ·rw [a5]
      have a:=(b.ad [0,2] [0,1,6])
      refine hSkip' 3 r (by kernel_rfl) r (sF a) (hSkip' 4 r (by kernel_rfl) r (sF a) (hSkip' 5 r (by kernel_rfl) r (sF a) (hSkip' 6 r (by kernel_rfl) r (sF a) (hSkip' 7 r (by kernel_rfl) r (sF a) (hSkip' 8 r (by kernel_rfl) r (sF a) (hSkip' 9 r (by kernel_rfl) r (sF a) (hSkip' 10 r (by kernel_rfl) r (sF a) (hSkip' 11 r (by kernel_rfl) r (sF a) (hSkip' 12 r (by kernel_rfl) r (sF a) (hSkip' 13 r (by kernel_rfl) r (sF a) (hSkip' 14 r (by kernel_rfl) r (sF a) (hSkip' 15 r (by kernel_rfl) r (sF a) (pF 16 r (xPkTB r r) a ?_)))))))))))))
      refine pF 17 r (xMvB r) a (hSkip' 18 r (by kernel_rfl) r (sF a) (hSkip' 19 r (by kernel_rfl) r (sF a) (hSkip' 20 r (by kernel_rfl) r (sF a) (hSkip' 21 r (by kernel_rfl) r (sF a) (hSkip' 22 r (by kernel_rfl) r (sF a) (hSkip' 23 r (by kernel_rfl) r (sF a) (hSkip' 24 r (by kernel_rfl) r (sF a) (hSkip' 25 r (by kernel_rfl) r (sF a) (hSkip' 26 r (by kernel_rfl) r (sF a) (hSkip' 27 r (by kernel_rfl) r (sF a) (hSkip' 28 r (by kernel_rfl) r (sF a) (hSkip' 29 r (by kernel_rfl) r (sF a) (hSkip' 30 r (by kernel_rfl) r (sF a) ?_)))))))))))))
      refine hSkip' 31 r (by kernel_rfl) r (sF a) (hSkip' 32 r (by kernel_rfl) r (sF a) (pF 33 r (xPkTB r r) a (hD (wIfT r (q (g (s (xAsB r) (n (wRt ?_)))))))))
      obtain rfl:=sm C
      replace D:=oi D
      obtain rfl:=sm D
      replace S:=oi S
      obtain rfl:=sm S
      refine resV1 r (rdT r) ?_
      exact ⟨r,(b.ad [] [])⟩
     replace a5:=nt a5
     rw [a5]
     have a:=(b.ad [0,2] [0,1,6])
     refine pF 3 r (f30_2 r) a (uF 4 r (fun hS=>l27 r (hS.bk 1 r) r) a (pF 5 r (mi r) a (pF 6 r (xIdR u27_ ti60 r r aa (b.dl 6 r) W) a (uF 7 r (fun hS=>xLoad u60_ r r ((hS.dc 1 r) 0 _ r)) a (pF 8 r (f138_2 r) a (uF 9 r (fun hS=>l3 r (hS.bk 0 r) r) a ?_))))))
     obtain ⟨M,U,C⟩:=bs C
     obtain ⟨aY,ab,U⟩:=ix_inv U
     refine pF 10 r (xIdR u60_ ti59 r r ab (b.dl 0 r) U) a (pF 11 r (f59_0 r) a (tU 12 r (fun _ hS=>xLoad u9_ r r ((elF (ds:=[T M.Name,V M.Kind,V M.Record,V M.Words,.bool M.Param,V M.From,V M.To]) (hS.dl 0 r) U (fun _ h=>h)) 0 _ r)) (sF a) (pF 13 r (f138_3 r) a (uF 14 r (fun hS=>l9 r (hS.bk 0 r) r) a (pF 15 r (xNeqT' r r) a (pF 16 r (xPkFB r r) a (pF 17 r (xMvB r) a ?_)))))))
     rcases iv C with ⟨al,C⟩|⟨al,C⟩
     ·rw [decide_eq_true al]
      have a:=(b.ad [0,2] [0,1,6])
      refine hSkip' 18 r (by kernel_rfl) r (sF a) (hSkip' 19 r (by kernel_rfl) r (sF a) (hSkip' 20 r (by kernel_rfl) r (sF a) (hSkip' 21 r (by kernel_rfl) r (sF a) (hSkip' 22 r (by kernel_rfl) r (sF a) (hSkip' 23 r (by kernel_rfl) r (sF a) (hSkip' 24 r (by kernel_rfl) r (sF a) (hSkip' 25 r (by kernel_rfl) r (sF a) (hSkip' 26 r (by kernel_rfl) r (sF a) (hSkip' 27 r (by kernel_rfl) r (sF a) (hSkip' 28 r (by kernel_rfl) r (sF a) (hSkip' 29 r (by kernel_rfl) r (sF a) (hSkip' 30 r (by kernel_rfl) r (sF a) (hSkip' 31 r (by kernel_rfl) r (sF a) ?_)))))))))))))
      refine hSkip' 32 r (by kernel_rfl) r (sF a) (pF 33 r (xPkTB r r) a (hD (wIfT r (q (g (s (xAsB r) (n (wRt ?_))))))))
      obtain rfl:=sm C
      replace D:=oi D
      obtain rfl:=sm D
      replace S:=oi S
      obtain rfl:=sm S
      refine resV1 r (rdT r) ?_
      exact ⟨r,(b.ad [] [])⟩
     rw [decide_eq_false al]
     have a:=(b.ad [0,2] [0,1,6])
     refine pF 18 r (f30_2 r) a (uF 19 r (fun hS=>l27 r (hS.bk 1 r) r) a (pF 20 r (mi r) a (pF 21 r (xIdR u27_ ti60 r r aa (b.dl 6 r) W) a (uF 22 r (fun hS=>xLoad u60_ r r ((hS.dc 1 r) 0 _ r)) a (pF 23 r (f138_2 r) a (uF 24 r (fun hS=>l3 r (hS.bk 0 r) r) a (pF 25 r (xIdR u60_ ti59 r r ab (b.dl 0 r) U) a (pF 26 r (f59_1 r) a (tU 27 r (fun _ hS=>xLoad u3_ r r ((elF (ds:=[T M.Name,V M.Kind,V M.Record,V M.Words,.bool M.Param,V M.From,V M.To]) (hS.dl 0 r) U (fun _ h=>h)) 1 _ r)) (sF a) (pF 28 r (f138_0 r) a (uF 29 r (fun hS=>l3 r (hS.bk 0 r) r) a (pF 30 r (xAddW r r) a (pF 31 r (xSubW r r) a ?_)))))))))))))
     refine pF 32 r (xNeqD r r) a (pF 33 r (xPkFB r r) a (hD ?_))
     rcases iv C with ⟨am,C⟩|⟨am,C⟩
     ·refine wIfT (bt am) (q (g (s (xAsB r) (n (wRt ?_)))))
      obtain rfl:=sm C
      replace D:=oi D
      obtain rfl:=sm D
      replace S:=oi S
      obtain rfl:=sm S
      refine resV1 r (rdT r) ?_
      exact ⟨r,(b.ad [] [])⟩
     refine wIfF (bf am) (wk ?_)
     exact ap _ _ ⟨⟨r,r,r,r,r,r,r,r,y⟩,(b.dp [2,3,4,5,6,7,8]),sm C⟩
    replace a2:=nt a2
    refine wIfF (cb a2) (wk ?_)
    exact ap _ _ ⟨⟨r,r,r,r,r,r,r,r,y⟩,b,sm C⟩
   clear b
   rintro f w ⟨hf,b,aF⟩
   obtain ⟨bg,rfl⟩:=has_updL _ _ hf
   clear hf
   subst aF
   replace D:=gi D
   refine q (g (s (xLoadS [Z o B.Program.Records p,Z t B.Program.Funcs u,Z v B.Vars x,Z z B.Stmts A] u30_ r ti30 r r (Cells.part (b.bk 2 r).cells (o2:=0) r)) (s (mi r) (s (mi r) (s (f138_5 r) (s (l109 r (b.bk 0 r) r) ?_))))))
   obtain ⟨aG,aH,D⟩:=bs D
   have hc:=H_l04_names (b.pr [] [0,1,2] [2,3,4,5,0] r)  aH
   refine sc (ec cal47 r) hc ?_
   rintro _ aZ ⟨rfl,hK⟩
   replace b:=b.cl [] [0,1,2] r hK r
   try dsimp only [pick,nth,ca,na] at b
   refine s (xNot r) (n ?_)
   rcases iv D with ⟨a6,D⟩|⟨a6,D⟩
   ·refine wIfT (cb a6) (q (g (s (xAsB r) (n (wRt ?_)))))
    obtain rfl:=sm D
    replace S:=oi S
    obtain rfl:=sm S
    refine resV1 r (rdT r) ?_
    exact ⟨r,(b.ad [] [])⟩
   replace a6:=nt a6
   refine wIfF (cb a6) (wk (g (s (xAdd64 r r (by omega) (by omega)) (s (mi r) (n ?_)))))
   exact aA (N.length - (X+1)) _ _ (by omega) ⟨X+1,r,by omega,⟨r,r,r,r,r,r,r,y⟩,(b.ad [1,2] [1,2,3,4,5,6]),D⟩
  obtain rfl:X=N.length:=by omega
  rw [drop_end,F_l04_names_L0] at D
  refine q (g (s (xLssF r r (by omega)) (n (q (wIfF r (wEx ?_))))))
  exact az _ _ ⟨y,b,sm D⟩
 clear b
 rintro f w ⟨hf,b,aI⟩
 obtain ⟨bg,rfl⟩:=has_updL _ _ hf
 clear hf
 subst aI
 replace S:=gi S
 refine q (g (s (xAsB r) (n (wRt ?_))))
 obtain rfl:=sm S
 refine resV1 r (rdT r) ?_
 exact ⟨r,(b.ad [] [])⟩
theorem sps_l04_names (fu:Nat):Ct_l04_names (m_l04_names fu):=by
 induction fu with
 | zero=>exact by intro a b;intros;exact nn (by assumption)
 | succ fu ih=>exact wk_l04_names fu (m_l04_names fu) ih
theorem sp_l04_names (fu:Nat):Ct_l04_names (m_l04_names fu):=(sps_l04_names fu)
abbrev T_l04_all:=GSource→Int→(List GStmt)→Option (Bool)
def Ct_l04_all (m:GSource→Int→(List Gs)→Option (Bool)):Prop:=∀ {p:World} {z:Nat→Prop} {o:GSource} {u:Int} {t:(List Gs)} {a:Option Addr} {b:Nat} {c:Option Addr} {d:Nat} {e:Option Addr} {f:Nat} {h:Option Addr} {i:Nat} {j:Option Addr} {k:Nat} {x:Bool},Pre p z [] [.l a b o.Program.Records,.l c d o.Program.Funcs,.l e f o.Vars,.l h i o.Stmts,.l j k t]→m o u t=some x→
 Calls Try.prog 35 #[.agg #[Z a o.Program.Records b,Z c o.Program.Funcs d,Z e o.Vars f,Z h o.Stmts i],V u,Z j t k] p (Ret fun v w=>v=.bool x∧Bx p w z (Gof []) [] [])
def F_l04_all_L0 (fu:Nat)(r_l04_all:T_l04_all) (d:GSource) (e:Int):List Gs→Nat→Option (Ld (Unit) (Bool))
 | [],_=>some (.go ())
 | c :: i,j=>
 (m_l04_names fu d e c.Id c.Args).bind fun f=>
 if (!f)=true then
  some (.out false)
 else
  (m_l04_names fu d e c.Id c.Target).bind fun h=>
  if (!h)=true then
   some (.out false)
  else
   (r_l04_all d e c.Body).bind fun a=>
   if (!a)=true then
    some (.out false)
   else
    (r_l04_all d e c.Else).bind fun b=>
    if (!b)=true then
     some (.out false)
    else
     F_l04_all_L0 fu r_l04_all d e i (j+1)
def F_l04_all (fu:Nat)(r_l04_all:T_l04_all) (a:GSource) (b:Int)(c:(List Gs)):Option (Bool):=
 (F_l04_all_L0 fu r_l04_all a b c 0).bind fun d=>d.el (fun _=>
 some true
 ) (fun o=>some o)
def tab_l04_all:Nat→(GSource→Int→(List Gs)→Option (Bool))
 | 0=>(fun _ _ _=>none)
 | fu+1=>F_l04_all fu (tab_l04_all fu)
def m_l04_all (fu:Nat):=(tab_l04_all fu)
theorem wk_l04_all (fu:Nat)(r_l04_all:T_l04_all) (H_l04_all:Ct_l04_all r_l04_all):Ct_l04_all (F_l04_all fu r_l04_all):=by
 intro w0 aB v x1 K e h j m o p t u x z r0 hP A
 unfold F_l04_all at A
 have b:=hP.bx
 clear hP
 generalize hG:Gof _=G at b ⊢
 refine cf Try.func35 r ?_
 refine wCut [(0,.agg #[Z e v.Program.Records h,Z j v.Program.Funcs m,Z o v.Vars p,Z t v.Stmts u]),(1,V x1),(2,Z x K z)] ⟨r,r,r,y⟩ fun aC=>?_
 refine q (g (sTo (aNewB b (mBox r)) ?_))
 rintro _ w1 ⟨b1,rfl,b⟩
 refine s (xAsB r) (n (q (q (g (s (xMvS r) (s (xLnR u80_ r) (s (mi r) (n ?_))))))))
 have aj:=(b.dl 4 r).bd
 obtain ⟨Y2,a,A⟩:=bs A
 refine wJd (fun f w=>Has f []∧Bx w0 w aB G [.box b1 30 #[Z e v.Program.Records h,Z j v.Program.Funcs m,Z o v.Vars p,Z t v.Stmts u]] [.l e h v.Program.Records,.l j m v.Program.Funcs,.l o p v.Vars,.l t u v.Stmts,.l x z K]∧Ld.go ()=Y2) (fun J2 a4=>?_) ?_
 ·refine wBk (wLoopGd (fun aD f w=>∃ (N:Nat),aD=K.length - N∧N≤K.length∧Has f [(11,V (N:Int)),(1,V x1),(3,Pt b1),(9,Z x K z),(10,V (K.length:Int))]∧Bx w0 w aB G [.box b1 30 #[Z e v.Program.Records h,Z j v.Program.Funcs m,Z o v.Vars p,Z t v.Stmts u]] [.l e h v.Program.Records,.l j m v.Program.Funcs,.l o p v.Vars,.l t u v.Stmts,.l x z K]∧F_l04_all_L0 fu r_l04_all v x1 (K.drop N) N=some Y2) (K.length) ⟨0,r,Nat.zero_le _,⟨r,r,r,r,r,y⟩,b,a⟩ ?_)
  clear b a
  rintro aD f w ⟨N,rfl,ak,hf,b,a⟩ K2 a5
  obtain ⟨aC,rfl⟩:=has_updL _ _ hf
  clear hf
  rcases Nat.lt_or_ge N K.length with S | S
  ·obtain ⟨c,Q⟩:=get_ex (l:=K) S
   rw [drop_id Q,F_l04_all_L0] at a
   obtain ⟨al,a6,b⟩:=b.nm 4 rfl Q
   obtain ⟨B,C,D,E,F,H,I,J,rfl,U,W,X,Y⟩:=GStmt.out a6
   replace b:=b.dadd (d:=.l B C c.Target) U
   replace b:=b.dadd (d:=.l D E c.Args) W
   replace b:=b.dadd (d:=.l F H c.Body) X
   replace b:=b.dadd (d:=.l I J c.Else) Y
   refine q (g (s (xLssT r r (by omega)) (n (q (wIfT r (wk (q (wBk (q (g (s (xIdR u80_ ti111 r r r (b.dl 9 r) Q) (s (xLoadS [V c.Kind,V c.Line,V c.Id,T c.Name,T c.Type_,V c.Len,V c.Var,Z B c.Target C,T c.Func,V c.Callee,Z D c.Args E,Z F c.Body H,Z I c.Else J] u111_ r ti111 r r (b.dc 4 r)) (sTo (aNewB b (mAlloc ti111)) ?_)))))))))))))
   rintro _ w4 ⟨b4,rfl,b⟩
   refine sTs (tb b 0 [V c.Kind,V c.Line,V c.Id,T c.Name,T c.Type_,V c.Len,V c.Var,Z B c.Target C,T c.Func,V c.Callee,Z D c.Args E,Z F c.Body H,Z I c.Else J] r ti111 r r r r r (show _=#[V c.Kind,V c.Line,V c.Id,T c.Name,T c.Type_,V c.Len,V c.Var,Z B c.Target C,T c.Func,V c.Callee,Z D c.Args E,Z F c.Body H,Z I c.Else J] from r)) ?_
   intro w5 b
   try dsimp only [List.set] at b
   refine n (q (g (s (xLoadS [Z e v.Program.Records h,Z j v.Program.Funcs m,Z o v.Vars p,Z t v.Stmts u] u30_ r ti30 r r (Cells.part (b.bk 1 r).cells (o2:=0) r)) (s (mi r) (s (f111_2 r) (s (l3 r (b.bk 0 r) r) (s (f111_10 r) (s (l109 r (b.bk 0 r) r) ?_))))))))
   obtain ⟨ah,h6,a⟩:=bs a
   have hc:=(sp_l04_names fu) (b.pr [] [0,1] [5,6,7,8,2] r)  h6
   refine sc (ec cal47 r) hc ?_
   rintro _ w6 ⟨rfl,R⟩
   replace b:=b.cl [] [0,1] r R r
   try dsimp only [pick,nth,ca,na] at b
   refine s (xNot r) (s (xMvB r) ?_)
   rcases iv a with ⟨h7,a⟩|⟨h7,a⟩
   ·rw [h7]
    refine sNo r (sNo r (sNo r (sNo r (sNo r (sNo r (sNo r (sNo r (s (xPkTB r r) (s (xMvB r) (sNo r (sNo r (sNo r (sNo r ?_)))))))))))))
    refine sNo r (sNo r (s (xPkTB r r) (s (xMvB r) (sNo r (sNo r (sNo r (sNo r (sNo r (sNo r (s (xPkTB r r) (n (wIfT r (q ?_)))))))))))))
    refine g (s (xAsB r) (n (wRt ?_)))
    obtain rfl:=sm a
    replace A:=oi A
    obtain rfl:=sm A
    refine resV1 r (rdT r) ?_
    exact ⟨r,(b.ad [] [])⟩
   replace h7:=nt h7
   rw [h7]
   refine sGo r (s (xLoadS [Z e v.Program.Records h,Z j v.Program.Funcs m,Z o v.Vars p,Z t v.Stmts u] u30_ r ti30 r r (Cells.part (b.bk 1 r).cells (o2:=0) r)) (sGo r (s (mi r) (sGo r (s (f111_2 r) (sGo r (s (l3 r (b.bk 0 r) r) (sGo r (s (f111_7 r) (sGo r (s (l109 r (b.bk 0 r) r) ?_)))))))))))
   obtain ⟨ai,h8,a⟩:=bs a
   refine sGo r ?_
   have hc:=(sp_l04_names fu) (b.pr [] [0,1] [5,6,7,8,3] r)  h8
   refine sc (ec cal47 r) hc ?_
   rintro _ w8 ⟨rfl,R⟩
   replace b:=b.cl [] [0,1] r R r
   try dsimp only [pick,nth,ca,na] at b
   refine sGo r (s (xNot r) (s (xPkFB r r) (s (xMvB r) ?_)))
   rcases iv a with ⟨h9,a⟩|⟨h9,a⟩
   ·rw [h9]
    refine sNo r (sNo r (sNo r (sNo r (sNo r (sNo r (s (xPkTB r r) (s (xMvB r) (sNo r (sNo r (sNo r (sNo r (sNo r (sNo r ?_)))))))))))))
    refine s (xPkTB r r) (n (wIfT r (q (g (s (xAsB r) (n (wRt ?_)))))))
    obtain rfl:=sm a
    replace A:=oi A
    obtain rfl:=sm A
    refine resV1 r (rdT r) ?_
    exact ⟨r,(b.ad [] [])⟩
   replace h9:=nt h9
   rw [h9]
   refine sGo r (s (xLoadS [Z e v.Program.Records h,Z j v.Program.Funcs m,Z o v.Vars p,Z t v.Stmts u] u30_ r ti30 r r (Cells.part (b.bk 1 r).cells (o2:=0) r)) (sGo r (s (mi r) (sGo r (s (f111_11 r) (sGo r (s (l80 r (b.bk 0 r) r) ?_)))))))
   obtain ⟨a8,a9,a⟩:=bs a
   refine sGo r ?_
   have hc:=H_l04_all (b.pr [] [0,1] [5,6,7,8,1] r)  a9
   refine sc (ec cal35 r) hc ?_
   rintro _ ao ⟨rfl,R⟩
   replace b:=b.cl [] [0,1] r R r
   try dsimp only [pick,nth,ca,na] at b
   refine sGo r (s (xNot r) (s (xPkFB r r) (s (xMvB r) ?_)))
   rcases iv a with ⟨L,a⟩|⟨L,a⟩
   ·rw [L]
    refine sNo r (sNo r (sNo r (sNo r (sNo r (sNo r (s (xPkTB r r) (n (wIfT r (q (g (s (xAsB r) (n (wRt ?_)))))))))))))
    obtain rfl:=sm a
    replace A:=oi A
    obtain rfl:=sm A
    refine resV1 r (rdT r) ?_
    exact ⟨r,(b.ad [] [])⟩
   replace L:=nt L
   rw [L]
   refine sGo r (s (xLoadS [Z e v.Program.Records h,Z j v.Program.Funcs m,Z o v.Vars p,Z t v.Stmts u] u30_ r ti30 r r (Cells.part (b.bk 1 r).cells (o2:=0) r)) (sGo r (s (mi r) (sGo r (s (f111_12 r) (sGo r (s (l80 r (b.bk 0 r) r) ?_)))))))
   obtain ⟨aa,ab,a⟩:=bs a
   refine sGo r ?_
   have hc:=H_l04_all (b.pr [] [0,1] [5,6,7,8,0] r)  ab
   refine sc (ec cal35 r) hc ?_
   rintro _ ap ⟨rfl,R⟩
   replace b:=b.cl [] [0,1] r R r
   try dsimp only [pick,nth,ca,na] at b
   refine sGo r (s (xNot r) (s (xPkFB r r) (n ?_)))
   rcases iv a with ⟨M,a⟩|⟨M,a⟩
   ·refine wIfT (cb M) (q (g (s (xAsB r) (n (wRt ?_)))))
    obtain rfl:=sm a
    replace A:=oi A
    obtain rfl:=sm A
    refine resV1 r (rdT r) ?_
    exact ⟨r,(b.ad [] [])⟩
   replace M:=nt M
   refine wIfF (cb M) (wk (g (s (xAdd64 r r (by omega) (by omega)) (s (mi r) (n ?_)))))
   exact a5 (K.length - (N+1)) _ _ (by omega) ⟨N+1,r,by omega,⟨r,r,r,r,r,y⟩,(b.ad [1] [5,6,7,8,9]),a⟩
  obtain rfl:N=K.length:=by omega
  rw [drop_end,F_l04_all_L0] at a
  refine q (g (s (xLssF r r (by omega)) (n (q (wIfF r (wEx ?_))))))
  exact a4 _ _ ⟨y,b,sm a⟩
 clear b
 rintro f w ⟨hf,b,ac⟩
 obtain ⟨aC,rfl⟩:=has_updL _ _ hf
 clear hf
 subst ac
 replace A:=gi A
 refine q (g (s (xAsB r) (n (wRt ?_))))
 obtain rfl:=sm A
 refine resV1 r (rdT r) ?_
 exact ⟨r,(b.ad [] [])⟩
theorem sps_l04_all (fu:Nat):Ct_l04_all (m_l04_all fu):=by
 induction fu with
 | zero=>exact by intro a b;intros;exact nn (by assumption)
 | succ fu ih=>exact wk_l04_all fu (m_l04_all fu) ih
theorem sp_l04_all (fu:Nat):Ct_l04_all (m_l04_all fu):=(sps_l04_all fu)
def Ct_l04_CheckerResolves (m:(List Int)→Option (Bool)):Prop:=∀ {c:World} {f:Nat→Prop} {d:(List Int)} {a:Option Addr} {b:Nat} {e:Bool},Pre c f [] [.l a b d]→m d=some e→
 Calls Try.prog 12 #[Z a d b] c (Ret fun v w=>v=.bool e∧Bx c w f (Gof []) [] [])
def m_l04_CheckerResolves_J0 (fu:Nat)(a:Int)(b:Int):Option (Ld (Bool) (Bool)):=
 if a≠0 then
  some (.go true)
 else
  some (.go (decide (b≠0)))
def m_l04_CheckerResolves_L1 (fu:Nat)(b:GSource):Nat→Int→Option (Ld (Int) (Bool))
 | 0,_=>none
 | d+1,a=>
 if a < (b.Program.Funcs.length:Int) then
  if a < (b.Vars.length:Int) then
   (ix b.Program.Funcs a).bind fun e=>
   (m_l04_all fu b a e.Body).bind fun c=>
   if (!c)=true then
    some (.out false)
   else
    m_l04_CheckerResolves_L1 fu b d (wr (a+1))
  else
   some (.go a)
 else
  some (.go a)
def m_l04_CheckerResolves (fu:Nat)(p:(List Int)):Option (Bool):=
 (m_kit_Short fu p).bind fun c=>
 (m_kit_Text fu c).bind fun d=>
 (m_r03_Parse fu d).bind fun t=>
 pel t fun e t=>pel t fun l f=>
 (m_checker_Check fu e).bind fun t=>
 pel t fun h t=>pel t fun m i=>
 (m_l04_CheckerResolves_J0 fu f i).bind fun t=>t.el (fun j=>
 if j=true then
  (m_l04_known fu).bind fun a=>
  some a
 else
  (m_l04_CheckerResolves_L1 fu h fu 0).bind fun t=>t.el (fun k=>
  (m_l04_known fu).bind fun b=>
  some b
  ) (fun o=>some o)
 ) (fun o=>some o)
theorem sp_l04_CheckerResolves (fu:Nat):Ct_l04_CheckerResolves (m_l04_CheckerResolves fu):=by
 intro w0 aV x0 N Q r0 hP x
 unfold m_l04_CheckerResolves at x
 have b:=hP.bx
 clear hP
 generalize hG:Gof _=G at b ⊢
 refine cf Try.func12 r ?_
 refine wCut [(0,Z N x0 Q)] ⟨r,y⟩ fun aW=>?_
 refine q (g (s (xAsB r) (n (q (g (s (xMvS r) ?_))))))
 obtain ⟨ap,h1,x⟩:=bs x
 have hc:=(sp_kit_Short fu) (b.pr [] [] [0] r)  h1
 refine sc (ec cal27 r) hc ?_
 rintro _ w1 ⟨a4,a5,rfl,F⟩
 replace b:=b.cl [] [] r F r
 try dsimp only [pick,nth,ca,na] at b
 obtain ⟨aq,h2,x⟩:=bs x
 have hc:=(sp_kit_Text fu) (b.pr [] [] [0] r)  h2
 refine sc (ec cal26 r) hc ?_
 rintro _ w2 ⟨rfl,F⟩
 replace b:=b.cl [] [] r F r
 try dsimp only [pick,nth,ca,na] at b
 obtain ⟨⟨D,ar,au⟩,h3,x⟩:=bs x
 replace x:=pi x
 replace x:=pi x
 have hc:=(sp_r03_Parse fu) (b.pr [] [] [] r)  h3
 refine sc (ec cal32 r) hc ?_
 rintro _ w3 ⟨z,A,B,C,rfl,F⟩
 replace b:=b.cl [] [] r F r
 try dsimp only [pick,nth,ca,na] at b
 refine s xMove (s (xExtract r r) (s (xExtract r r) (s (xExtract r r) (sTo (aNewB b (mAlloc ti26)) ?_))))
 rintro _ w4 ⟨b4,rfl,b⟩
 refine sTs (tb b 0 [Z z D.Records A,Z B D.Funcs C] r ti26 r r r r r (show _=#[Z z D.Records A,Z B D.Funcs C] from r)) ?_
 intro w5 b
 try dsimp only [List.set] at b
 refine s (xi r) (s (xi r) (n (q (g (s (xLoadS [Z z D.Records A,Z B D.Funcs C] u26_ r ti26 r r (Cells.part (b.bk 0 r).cells (o2:=0) r)) ?_)))))
 obtain ⟨⟨a,av,a6⟩,h6,x⟩:=bs x
 replace x:=pi x
 replace x:=pi x
 have hc:=(sp_checker_Check fu) (b.pr [] [0] [0,1] r)  h6
 refine sc (ec cal33 r) hc ?_
 rintro _ w6 ⟨e,h,j,m,o,p,t,u,rfl,F⟩
 replace b:=b.cl [] [0] r F r
 try dsimp only [pick,nth,ca,na] at b
 refine s xMove (s (xExtract r r) (s (xExtract r r) (s (xExtract r r) (sTo (aNewB b (mAlloc ti30)) ?_))))
 rintro _ w7 ⟨b7,rfl,b⟩
 refine sTs (tb b 0 [Z e a.Program.Records h,Z j a.Program.Funcs m,Z o a.Vars p,Z t a.Stmts u] r ti30 r r r r r (show _=#[Z e a.Program.Records h,Z j a.Program.Funcs m,Z o a.Vars p,Z t a.Stmts u] from r)) ?_
 intro w8 b
 try dsimp only [List.set] at b
 refine s (xi r) (s (xi r) (n (q (q ?_))))
 obtain ⟨Y9,H,x⟩:=bs x
 refine wJd (fun f w=>∃ (J:Bool),Has f [(6,Pt b7),(29,.bool J)]∧Bx w0 w aV G [.box b7 30 #[Z e a.Program.Records h,Z j a.Program.Funcs m,Z o a.Vars p,Z t a.Stmts u]] [.l e h a.Program.Records,.l j m a.Program.Funcs,.l o p a.Vars,.l t u a.Stmts]∧Ld.go J=Y9) (fun J9 a8=>?_) ?_
 ·unfold m_l04_CheckerResolves_J0 at H
  refine g (s (mi r) (s (xNeqD r r) (s (xMvB r) ?_)))
  rcases iv H with ⟨R,H⟩|⟨R,H⟩
  ·rw [decide_eq_true R]
   refine sNo r (sNo r (s (xPkTB r r) (n ?_)))
   exact a8 _ _ ⟨true,⟨r,r,y⟩,(b.ad [0] [0,1,2,3]),sm H⟩
  rw [decide_eq_false R]
  refine sGo r (s (mi r) (sGo r (s (xNeqD r r) (s (xPkFB r r) (n ?_)))))
  exact a8 _ _ ⟨(decide (a6≠0)),⟨r,r,y⟩,(b.ad [0] [0,1,2,3]),sm H⟩
 clear b
 rintro f w ⟨J,hf,b,ah⟩
 obtain ⟨aW,rfl⟩:=has_updL _ _ hf
 clear hf
 subst ah
 replace x:=gi x
 rcases iv x with ⟨K,x⟩|⟨K,x⟩
 ·refine wIfT (cb K) (q (g ?_))
  obtain ⟨ai,aj,x⟩:=bs x
  have hc:=(sp_l04_known fu) (b.pr [] [0] [] r)  aj
  refine sc (ec cal28 r) hc ?_
  rintro _ aE ⟨rfl,F⟩
  replace b:=b.cl [] [0] r F r
  try dsimp only [pick,nth,ca,na] at b
  refine s (xAsB r) (n (wRt ?_))
  obtain rfl:=sm x
  refine resV1 r (rdT r) ?_
  exact ⟨r,(b.ad [] [])⟩
 replace K:=nt K
 refine wIfF (cb K) (wk (q (q (g (s (xi r) (n ?_))))))
 obtain ⟨a9,c,x⟩:=bs x
 refine wJd (fun f w=>∃ (v:Int),Has f []∧Bx w0 w aV G [.box b7 30 #[Z e a.Program.Records h,Z j a.Program.Funcs m,Z o a.Vars p,Z t a.Stmts u]] [.l e h a.Program.Records,.l j m a.Program.Funcs,.l o p a.Vars,.l t u a.Stmts]∧Ld.go v=a9) (fun aF M=>?_) ?_
 ·refine wBk (wLoopGd (fun aX f w=>∃ (v:Int),Has f [(6,Pt b7),(9,V v)]∧Bx w0 w aV G [.box b7 30 #[Z e a.Program.Records h,Z j a.Program.Funcs m,Z o a.Vars p,Z t a.Stmts u]] [.l e h a.Program.Records,.l j m a.Program.Funcs,.l o p a.Vars,.l t u a.Stmts]∧m_l04_CheckerResolves_L1 fu a aX v=some a9) fu ⟨0,⟨r,r,y⟩,b,c⟩ ?_)
  clear b c
  rintro S f w ⟨v,hf,b,c⟩ aG aa
  obtain ⟨aW,rfl⟩:=has_updL _ _ hf
  clear hf
  cases S with
  | zero=>exact nn c
  | succ S=>
   rw [m_l04_CheckerResolves_L1] at c
   refine q (q (g (s (mi r) (s (f30_0 r) (s (f26_1 r) (s (l24 r (b.bk 0 r) r) (s (xLnR u24_ r) (s (xLss r r) (s (xMvB r) ?_)))))))))
   rcases iv c with ⟨U,c⟩|⟨U,c⟩
   ·rw [decide_eq_true U]
    refine sGo r (s (mi r) (sGo r (s (f30_2 r) (sGo r (s (l27 r (b.bk 0 r) r) (sGo r (s (xLnR u27_ r) (sGo r (s (xLss r r) (s (xPkTB r r) (n ?_)))))))))))
    rcases iv c with ⟨W,c⟩|⟨W,c⟩
    ·refine wIfT (bt W) (wk (q (wBk (q ?_))))
     obtain ⟨ab,E,c⟩:=bs c
     obtain ⟨aH,ac,E⟩:=ix_inv E
     obtain ⟨aw,ae,b⟩:=b.nm 1 rfl E
     obtain ⟨X,Y,a0,a1,rfl,a2,a3⟩:=GFunc.out ae
     replace b:=b.dadd (d:=.l X Y ab.Params) a2
     replace b:=b.dadd (d:=.l a0 a1 ab.Body) a3
     refine wDr1 b [0] [0,1,2,4] [] (by kernel_rfl) ?_
     replace b:=b.drew
     have I:=(b.dp [0,1,2,4])
     refine uF 0 r (fun hS=>xLoadS [Z e a.Program.Records h,Z j a.Program.Funcs m,Z o a.Vars p,Z t a.Stmts u] u30_ r ti30 r r (Cells.part (hS.bk 0 r).cells (o2:=0) r)) I (pF 1 r (mi r) I (pF 2 r (f30_0 r) I (pF 3 r (f26_1 r) I (uF 4 r (fun hS=>l24 r (hS.bk 0 r) r) I (pF 5 r (mi r) I (pF 6 r (xIdR u24_ ti82 r r ac (b.dl 4 r) E) I (pF 7 r (f82_3 r) I (uF 8 r (fun hS=>xLoad u80_ r r ((hS.dc 2 r) 3 _ r)) I ?_))))))))
     obtain ⟨ak,al,c⟩:=bs c
     have hc:=(sp_l04_all fu) (b.pr [] [0] [3,4,5,6,0] r)  al
     refine hO 9 (oc r r (ec cal35 r) hc ?_)
     rintro _ aI ⟨rfl,F⟩
     replace b:=b.cl [] [0] r F r
     try dsimp only [pick,nth,ca,na] at b
     have I:=(b.dp [0,1,2,4])
     refine ⟨(sF I),?_⟩
     refine pF 10 r (xNot r) I (hD ?_)
     rcases iv c with ⟨L,c⟩|⟨L,c⟩
     ·refine wIfT (cb L) (q (g (s (xAsB r) (n (wRt ?_)))))
      obtain rfl:=sm c
      replace x:=oi x
      obtain rfl:=sm x
      refine resV1 r (rdT r) ?_
      exact ⟨r,(b.ad [] [])⟩
     replace L:=nt L
     refine wIfF (cb L) (wk (g (s (mi r) (s (xAddW r r) (s (xi r) (n ?_))))))
     exact aa S _ _ (Nat.lt_succ_self _) ⟨(wr (v+1)),⟨r,r,y⟩,(b.dp [3,4,5,6]),c⟩
    refine wIfF (bf W) (wEx ?_)
    exact M _ _ ⟨v,y,b,sm c⟩
   rw [decide_eq_false U]
   refine sNo r (sNo r (sNo r (sNo r (sNo r (s (xPkFB r r) (n (wIfF r (wEx ?_))))))))
   exact M _ _ ⟨v,y,b,sm c⟩
 clear b
 rintro f w ⟨v,hf,b,af⟩
 obtain ⟨aW,rfl⟩:=has_updL _ _ hf
 clear hf
 subst af
 replace x:=gi x
 refine q (g ?_)
 obtain ⟨am,an,x⟩:=bs x
 have hc:=(sp_l04_known fu) (b.pr [] [0] [] r)  an
 refine sc (ec cal28 r) hc ?_
 rintro _ aJ ⟨rfl,F⟩
 replace b:=b.cl [] [0] r F r
 try dsimp only [pick,nth,ca,na] at b
 refine s (xAsB r) (n (wRt ?_))
 obtain rfl:=sm x
 refine resV1 r (rdT r) ?_
 exact ⟨r,(b.ad [] [])⟩
end
end Go.Proofs.Ytfglbdkfnphjgaa
