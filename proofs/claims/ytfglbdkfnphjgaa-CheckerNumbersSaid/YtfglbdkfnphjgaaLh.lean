/- Contracts, printed by gen3.py. -/
import Derived.Test.YtfglbdkfnphjgaaZt
import Derived.Test.YtfglbdkfnphjgaaLb
import Derived.Test.YtfglbdkfnphjgaaLc
import Derived.Test.YtfglbdkfnphjgaaLd
import Derived.Test.YtfglbdkfnphjgaaLg
import Derived.Test.YtfglbdkfnphjgaaLi
import Derived.Test.YtfglbdkfnphjgaaLj
set_option linter.unusedVariables false
set_option maxHeartbeats 12800000
set_option linter.unusedSimpArgs false
set_option maxRecDepth 4000
namespace Go.Proofs.Ytfglbdkfnphjgaa
open Go.RowKit Go.Fw
noncomputable section
def Ct_kit_Text (m:(List Int)→Option (BA)):Prop:=∀ {c:World} {f:Nat→Prop} {d:(List Int)} {a:Option Addr} {b:Nat} {e:BA},Pre c f [] [.l a b d]→m d=some e→
 Calls Try.prog 26 #[Z a d b] c (Ret fun v w=>v=T e∧Bx c w f (Gof []) [] [])
def m_kit_Text (fu:Nat)(c:(List Int)):Option (BA):=
 (m_kit_Program fu c).bind fun a=>
 (m_r03_Print fu a).bind fun b=>
 some b
theorem sp_kit_Text (fu:Nat):Ct_kit_Text (m_kit_Text fu):=by
 intro u A o b c v k d
 unfold m_kit_Text at d
 have a:=k.bx
 clear k
 generalize w:Gof _=G at a ⊢
 refine cf Try.func26 r ?_
 refine wCut [(0,Z b o c)] ⟨r,y⟩ fun B=>?_
 refine q (g (s (xAsT r) (n (q (g (s (xMvS r) ?_))))))
 obtain ⟨l,p,d⟩:=bs d
 have hc:=(sp_kit_Program fu) (a.pr [] [] [0] r)  p
 refine sc (ec cal43 r) hc ?_
 rintro _ x ⟨e,f,h,i,rfl,j⟩
 replace a:=a.cl [] [] r j r
 try dsimp only [pick,nth,ca,na] at a
 obtain ⟨m,t,d⟩:=bs d
 have hc:=(sp_r03_Print fu) (a.pr [] [] [0,1] r)  t
 refine sc (ec cal42 r) hc ?_
 rintro _ z ⟨rfl,j⟩
 replace a:=a.cl [] [] r j r
 try dsimp only [pick,nth,ca,na] at a
 refine s (xAsT r) (n (wRt ?_))
 obtain rfl:=sm d
 refine resV1 r (rdT r) ?_
 exact ⟨r,(a.dp [])⟩
def Ct_l04_known (m:Option (Bool)):Prop:=∀ {a:World} {c:Nat→Prop}  {b:Bool},Pre a c [] []→m=some b→
 Calls Try.prog 28 #[] a (Ret fun v w=>v=.bool b∧Bx a w c (Gof []) [] [])
def m_l04_known (fu:Nat):Option (Bool):=
 (m_r03_Parse fu (⟨#[102,117,110,99,32,102,40,97,41,32,123,32,118,97,114,32,116,58,32,105,110,116,59,32,116,32,61,32,97,59,32,125]⟩:BA)).bind fun o=>
 pel o fun f o=>pel o fun j k=>
 (m_checker_Check fu f).bind fun o=>
 pel o fun a o=>pel o fun l h=>
 if h≠0 then
  some false
 else
  if (a.Vars.length:Int)≠1 then
   some false
  else
   (ix a.Vars 0).bind fun m=>
   if (m.length:Int)≠2 then
    some false
   else
    if (a.Stmts.length:Int)≠3 then
     some false
    else
     (m_checker_Find fu a (⟨#[102]⟩:BA)).bind fun o=>
     pel o fun b c=>
     (ix m 1).bind fun i=>
     if i.From=1 then
      if i.To=2 then
       (m_checker_Visible fu a 0 0).bind fun d=>
       (m_same_int fu d ([0]:List Int)).bind fun e=>
       if e=true then
        if b=0 then
         some c
        else
         some false
       else
        some false
      else
       some false
     else
      some false
theorem sp_l04_known (fu:Nat):Ct_l04_known (m_l04_known fu):=by
 intro w0 aF r0 hP b
 unfold m_l04_known at b
 have a:=hP.bx
 clear hP
 generalize hG:Gof _=G at a ⊢
 refine cf Try.func28 r ?_
 refine wCut [] y fun aG=>?_
 refine q (g (s (xAsB r) (n (q (g ?_)))))
 obtain ⟨⟨B,ac,ae⟩,h1,b⟩:=bs b
 replace b:=pi b
 replace b:=pi b
 have hc:=(sp_r03_Parse fu) (a.pr [] [] [] r)  h1
 refine sc (ec cal32 r) hc ?_
 rintro _ w1 ⟨w,x,z,A,rfl,I⟩
 replace a:=a.cl [] [] r I r
 try dsimp only [pick,nth,ca,na] at a
 refine s xMove (s (xExtract r r) (s (xExtract r r) (s (xExtract r r) (sTo (aNewB a (mAlloc ti26)) ?_))))
 rintro _ w2 ⟨b2,rfl,a⟩
 refine sTs (tb a 0 [Z w B.Records x,Z z B.Funcs A] r ti26 r r r r r (show _=#[Z w B.Records x,Z z B.Funcs A] from r)) ?_
 intro w3 a
 try dsimp only [List.set] at a
 refine s (xi r) (s (xi r) (n (q (g (s (xLoadS [Z w B.Records x,Z z B.Funcs A] u26_ r ti26 r r (Cells.part (a.bk 0 r).cells (o2:=0) r)) ?_)))))
 obtain ⟨⟨c,ag,ah⟩,h4,b⟩:=bs b
 replace b:=pi b
 replace b:=pi b
 have hc:=(sp_checker_Check fu) (a.pr [] [0] [0,1] r)  h4
 refine sc (ec cal33 r) hc ?_
 rintro _ w4 ⟨e,f,j,m,o,p,t,u,rfl,I⟩
 replace a:=a.cl [] [0] r I r
 try dsimp only [pick,nth,ca,na] at a
 refine s xMove (s (xExtract r r) (s (xExtract r r) (s (xExtract r r) (sTo (aNewB a (mAlloc ti30)) ?_))))
 rintro _ w5 ⟨b5,rfl,a⟩
 refine sTs (tb a 0 [Z e c.Program.Records f,Z j c.Program.Funcs m,Z o c.Vars p,Z t c.Stmts u] r ti30 r r r r r (show _=#[Z e c.Program.Records f,Z j c.Program.Funcs m,Z o c.Vars p,Z t c.Stmts u] from r)) ?_
 intro w6 a
 try dsimp only [List.set] at a
 refine s (xi r) (s (xi r) (n (q (q (g (s (mi r) (s (xNeqD r r) (s (xMvB r) ?_))))))))
 rcases iv b with ⟨h7,b⟩|⟨h7,b⟩
 ·rw [decide_eq_true h7]
  refine sNo r (sNo r (sNo r (sNo r (s (xPkTB r r) (s (xMvB r) (sNo r (sNo r (sNo r (sNo r (sNo r (sNo r (s (xPkTB r r) (s (xMvB r) ?_)))))))))))))
  refine sNo r (sNo r (sNo r (sNo r (s (xPkTB r r) (n (wIfT r (q (g (s (xAsB r) (n (wRt ?_)))))))))))
  obtain rfl:=sm b
  refine resV1 r (rdT r) ?_
  exact ⟨r,(a.ad [] [])⟩
 rw [decide_eq_false h7]
 refine sGo r (s (f30_2 r) (sGo r (s (l27 r (a.bk 0 r) r) (sGo r (s (xLnR u27_ r) (sGo r (s (xNeqD r r) (s (xPkFB r r) (s (xMvB r) ?_)))))))))
 rcases iv b with ⟨h8,b⟩|⟨h8,b⟩
 ·rw [decide_eq_true h8]
  refine sNo r (sNo r (sNo r (sNo r (sNo r (sNo r (s (xPkTB r r) (s (xMvB r) (sNo r (sNo r (sNo r (sNo r (s (xPkTB r r) (n ?_)))))))))))))
  refine wIfT r (q (g (s (xAsB r) (n (wRt ?_)))))
  obtain rfl:=sm b
  refine resV1 r (rdT r) ?_
  exact ⟨r,(a.ad [] [])⟩
 rw [decide_eq_false h8]
 refine sGo r (s (f30_2 r) (sGo r (s (l27 r (a.bk 0 r) r) ?_)))
 obtain ⟨e9,D,b⟩:=bs b
 obtain ⟨k9,K,D⟩:=ix_inv D
 obtain ⟨ai,a0,a⟩:=a.nm 2 rfl D
 obtain ⟨L,M,rfl,N⟩:=a0
 replace a:=a.dadd (d:=.l L M e9) N
 refine sGo r (s (xIdR u27_ ti60 r r K (a.dl 4 r) D) (sGo r (s (xLoad u60_ r r ((a.dc 1 r) 0 _ r)) (sGo r (s (xLnR u60_ r) (sGo r (s (xNeqD r r) (s (xPkFB r r) (s (xMvB r) ?_)))))))))
 rcases iv b with ⟨Q,b⟩|⟨Q,b⟩
 ·rw [decide_eq_true Q]
  refine sNo r (sNo r (sNo r (sNo r (s (xPkTB r r) (n (wIfT r (q (g (s (xAsB r) (n (wRt ?_)))))))))))
  obtain rfl:=sm b
  refine resV1 r (rdT r) ?_
  exact ⟨r,(a.ad [] [])⟩
 rw [decide_eq_false Q]
 refine sGo r (s (f30_3 r) (sGo r (s (l28 r (a.bk 0 r) r) (sGo r (s (xLnR u28_ r) (sGo r (s (xNeqD r r) (s (xPkFB r r) (n ?_)))))))))
 rcases iv b with ⟨R,b⟩|⟨R,b⟩
 ·refine wIfT (bt R) (q (g (s (xAsB r) (n (wRt ?_)))))
  obtain rfl:=sm b
  refine resV1 r (rdT r) ?_
  exact ⟨r,(a.ad [] [])⟩
 refine wIfF (bf R) (wk (q (g (s (xLoadS [Z e c.Program.Records f,Z j c.Program.Funcs m,Z o c.Vars p,Z t c.Stmts u] u30_ r ti30 r r (Cells.part (a.bk 0 r).cells (o2:=0) r)) ?_))))
 obtain ⟨⟨a3,a4⟩,a5,b⟩:=bs b
 replace b:=pi b
 have hc:=(sp_checker_Find fu) (a.pr [] [0,1] [2,3,4,5] r)  a5
 refine sc (ec cal29 r) hc ?_
 rintro _ an ⟨rfl,I⟩
 replace a:=a.cl [] [0,1] r I r
 try dsimp only [pick,nth,ca,na] at a
 refine s xMove (s (xExtract r r) (s (xExtract r r) (s (xi r) (s (xAsB r) (n (q (g (s (f30_2 r) (s (l27 r (a.bk 0 r) r) (s (xIdR u27_ ti60 r r K (a.dl 4 r) D) (s (xLoad u60_ r r ((a.dc 1 r) 0 _ r)) ?_)))))))))))
 obtain ⟨v,C,b⟩:=bs b
 obtain ⟨ao,J,C⟩:=ix_inv C
 refine s (xIdR u60_ ti59 r r J (a.dl 0 r) C) (s (f59_5 r) (s (xLoad u3_ r r ((elF (ds:=[T v.Name,V v.Kind,V v.Record,V v.Words,.bool v.Param,V v.From,V v.To]) (a.dl 0 r) C (fun _ h=>h)) 5 _ r)) (s (xEqlD r r) (s (xMvB r) ?_))))
 rcases iv b with ⟨S,b⟩|⟨S,b⟩
 ·rw [decide_eq_true S]
  refine sGo r (s (f30_2 r) (sGo r (s (l27 r (a.bk 0 r) r) (sGo r (s (xIdR u27_ ti60 r r K (a.dl 4 r) D) (sGo r (s (xLoad u60_ r r ((a.dc 1 r) 0 _ r)) (sGo r (s (xIdR u60_ ti59 r r J (a.dl 0 r) C) (sGo r (s (f59_6 r) (sGo r (s (xLoad u3_ r r ((elF (ds:=[T v.Name,V v.Kind,V v.Record,V v.Words,.bool v.Param,V v.From,V v.To]) (a.dl 0 r) C (fun _ h=>h)) 6 _ r)) ?_)))))))))))))
  refine sGo r (s (xEqlD r r) (s (xPkTB r r) (s (xMvB r) ?_)))
  rcases iv b with ⟨U,b⟩|⟨U,b⟩
  ·rw [decide_eq_true U]
   refine sGo r (s (xLoadS [Z e c.Program.Records f,Z j c.Program.Funcs m,Z o c.Vars p,Z t c.Stmts u] u30_ r ti30 r r (Cells.part (a.bk 0 r).cells (o2:=0) r)) ?_)
   obtain ⟨W,a6,b⟩:=bs b
   refine sGo r ?_
   have hc:=(sp_checker_Visible fu) (a.pr [] [0,1] [2,3,4,5] r)  a6
   refine sc (ec cal31 r) hc ?_
   rintro _ ap ⟨E,F,Y,rfl,I⟩
   have a7:=a.chg.size
   replace a:=a.cl [] [0,1] r I r
   try dsimp only [pick,nth,ca,na] at a
   replace a:=a.reb 0 w0.heap.size r a7
   try dsimp only [List.set] at a
   refine sGo r (sTo (aRowB a [[V 0]] ([0]:List Int) (bs22_1_a r) r r (by decide) ⟨r,y⟩) ?_)
   rintro _ aq ⟨a8,rfl,a⟩
   obtain ⟨a9,aa,b⟩:=bs b
   refine sGo r ?_
   have hc:=(sp_same_int fu) (Pre.all (Dc:=[.l E F W,.l (ad a8) 1 ([0]:List Int)]) (dcons ((a.vw 1 1 r r)).all (dcons ((a.vw 0 0 r r)).all dnil))) aa
   refine sc (ec cal21 r) hc ?_
   rintro _ ar ⟨rfl,I⟩
   replace a:=a.ext I.ex
   refine s (xPkTB r r) (s (xMvB r) ?_)
   rcases iv b with ⟨H,b⟩|⟨H,b⟩
   ·rw [H]
    refine sGo r (s (mi r) (sGo r (s (xEqlD r r) (s (xPkTB r r) (s (xMvB r) ?_)))))
    rcases iv b with ⟨X,b⟩|⟨X,b⟩
    ·rw [decide_eq_true X]
     refine sGo r (s (xMvB r) (s (xPkTB r r) (s (xAsB r) (n (wRt ?_)))))
     obtain rfl:=sm b
     refine resV1 r (rdT r) ?_
     exact ⟨r,(a.ad [] [])⟩
    rw [decide_eq_false X]
    refine sNo r (s (xPkFB r r) (s (xAsB r) (n (wRt ?_))))
    obtain rfl:=sm b
    refine resV1 r (rdT r) ?_
    exact ⟨r,(a.ad [] [])⟩
   replace H:=nt H
   rw [H]
   refine sNo r (sNo r (s (xPkFB r r) (s (xMvB r) (sNo r (s (xPkFB r r) (s (xAsB r) (n (wRt ?_))))))))
   obtain rfl:=sm b
   refine resV1 r (rdT r) ?_
   exact ⟨r,(a.ad [] [])⟩
  rw [decide_eq_false U]
  refine sNo r (sNo r (sNo r (sNo r (s (xPkFB r r) (s (xMvB r) (sNo r (sNo r (s (xPkFB r r) (s (xMvB r) (sNo r (s (xPkFB r r) (s (xAsB r) (n ?_)))))))))))))
  refine wRt ?_
  obtain rfl:=sm b
  refine resV1 r (rdT r) ?_
  exact ⟨r,(a.ad [] [])⟩
 rw [decide_eq_false S]
 refine sNo r (sNo r (sNo r (sNo r (sNo r (sNo r (sNo r (sNo r (s (xPkFB r r) (s (xMvB r) (sNo r (sNo r (sNo r (sNo r ?_)))))))))))))
 refine s (xPkFB r r) (s (xMvB r) (sNo r (sNo r (s (xPkFB r r) (s (xMvB r) (sNo r (s (xPkFB r r) (s (xAsB r) (n (wRt ?_))))))))))
 obtain rfl:=sm b
 refine resV1 r (rdT r) ?_
 exact ⟨r,(a.ad [] [])⟩
abbrev T_l04_numbered:=GSource→Int→(List GStmt)→Int→Option (Int)
def Ct_l04_numbered (m:GSource→Int→(List Gs)→Int→Option (Int)):Prop:=∀ {p:World} {A:Nat→Prop} {o:GSource} {u:Int} {t:(List Gs)} {x:Int} {a:Option Addr} {b:Nat} {c:Option Addr} {d:Nat} {e:Option Addr} {f:Nat} {h:Option Addr} {i:Nat} {j:Option Addr} {k:Nat} {z:Int},Pre p A [] [.l a b o.Program.Records,.l c d o.Program.Funcs,.l e f o.Vars,.l h i o.Stmts,.l j k t]→m o u t x=some z→
 Calls Try.prog 34 #[.agg #[Z a o.Program.Records b,Z c o.Program.Funcs d,Z e o.Vars f,Z h o.Stmts i],V u,Z j t k,V x] p (Ret fun v w=>v=V z∧Bx p w A (Gof []) [] [])
def F_l04_numbered_L0 (fu:Nat)(r_l04_numbered:T_l04_numbered) (d:GSource) (f:Int):List Gs→Nat→Int→Option (Ld (Int) (Int))
 | [],_,a=>some (.go a)
 | e :: i,j,a=>
 if a < 0 then
  some (.out (-1))
 else
  if e.Id≠a then
   some (.out (-1))
  else
   if (d.Stmts.length:Int)≤a then
    some (.out (-1))
   else
    (ix d.Stmts a).bind fun h=>
    if ¬ [h.Func,h.Kind,h.Line]=[f,e.Kind,e.Line] then
     some (.out (-1))
    else
     (r_l04_numbered d f e.Body (wr (a+1))).bind fun b=>
     (r_l04_numbered d f e.Else b).bind fun c=>
     F_l04_numbered_L0 fu r_l04_numbered d f i (j+1) c
def F_l04_numbered (fu:Nat)(r_l04_numbered:T_l04_numbered) (b:GSource) (c:Int)(d:(List Gs)) (e:Int):Option (Int):=
 (F_l04_numbered_L0 fu r_l04_numbered b c d 0 e).bind fun f=>f.el (fun a=>
 some a
 ) (fun o=>some o)
def tab_l04_numbered:Nat→(GSource→Int→(List Gs)→Int→Option (Int))
 | 0=>(fun _ _ _ _=>none)
 | fu+1=>F_l04_numbered fu (tab_l04_numbered fu)
def m_l04_numbered (fu:Nat):=(tab_l04_numbered fu)
theorem wk_l04_numbered (fu:Nat)(r_l04_numbered:T_l04_numbered) (H_l04_numbered:Ct_l04_numbered r_l04_numbered):Ct_l04_numbered (F_l04_numbered fu r_l04_numbered):=by
 intro w0 aE z x1 N x3 j m o p t u v x B C r0 hP D
 unfold F_l04_numbered at D
 have c:=hP.bx
 clear hP
 generalize hG:Gof _=G at c ⊢
 refine cf Try.func34 r ?_
 refine wCut [(0,.agg #[Z j z.Program.Records m,Z o z.Program.Funcs p,Z t z.Vars u,Z v z.Stmts x]),(1,V x1),(2,Z B N C),(3,V x3)] ⟨r,r,r,r,y⟩ fun aF=>?_
 refine q (g (sTo (aNewB c (mBox r)) ?_))
 rintro _ w1 ⟨b1,rfl,c⟩
 refine s (xi r) (n (q (q (g (s (xMvS r) (s (xLnR u80_ r) (s (mi r) (n ?_))))))))
 have an:=(c.dl 4 r).bd
 obtain ⟨Y2,b,D⟩:=bs D
 refine wJd (fun f w=>∃ (A:Int),Has f [(3,V A)]∧Bx w0 w aE G [.box b1 30 #[Z j z.Program.Records m,Z o z.Program.Funcs p,Z t z.Vars u,Z v z.Stmts x]] [.l j m z.Program.Records,.l o p z.Program.Funcs,.l t u z.Vars,.l v x z.Stmts,.l B C N]∧Ld.go A=Y2) (fun J2 a6=>?_) ?_
 ·refine wBk (wLoopGd (fun aG f w=>∃ (Q:Nat)(A:Int),aG=N.length - Q∧Q≤N.length∧Has f [(13,V (Q:Int)),(1,V x1),(3,V A),(4,Pt b1),(11,Z B N C),(12,V (N.length:Int))]∧Bx w0 w aE G [.box b1 30 #[Z j z.Program.Records m,Z o z.Program.Funcs p,Z t z.Vars u,Z v z.Stmts x]] [.l j m z.Program.Records,.l o p z.Program.Funcs,.l t u z.Vars,.l v x z.Stmts,.l B C N]∧F_l04_numbered_L0 fu r_l04_numbered z x1 (N.drop Q) Q A=some Y2) (N.length) ⟨0,x3,r,Nat.zero_le _,⟨r,r,r,r,r,r,y⟩,c,b⟩ ?_)
  clear c b
  rintro aG f w ⟨Q,A,rfl,ao,hf,c,b⟩ K2 a7
  obtain ⟨aF,rfl⟩:=has_updL _ _ hf
  clear hf
  rcases Nat.lt_or_ge Q N.length with Y | Y
  ·obtain ⟨e,S⟩:=get_ex (l:=N) Y
   rw [drop_id S,F_l04_numbered_L0] at b
   obtain ⟨ap,a8,c⟩:=c.nm 4 rfl S
   obtain ⟨E,F,H,I,J,K,L,M,rfl,a0,a1,a2,a3⟩:=GStmt.out a8
   replace c:=c.dadd (d:=.l E F e.Target) a0
   replace c:=c.dadd (d:=.l H I e.Args) a1
   replace c:=c.dadd (d:=.l J K e.Body) a2
   replace c:=c.dadd (d:=.l L M e.Else) a3
   refine q (g (s (xLssT r r (by omega)) (n (q (wIfT r (wk (q (wBk (q (g (s (xIdR u80_ ti111 r r r (c.dl 9 r) S) (s (xLoadS [V e.Kind,V e.Line,V e.Id,T e.Name,T e.Type_,V e.Len,V e.Var,Z E e.Target F,T e.Func,V e.Callee,Z H e.Args I,Z J e.Body K,Z L e.Else M] u111_ r ti111 r r (c.dc 4 r)) (sTo (aNewB c (mAlloc ti111)) ?_)))))))))))))
   rintro _ w4 ⟨b4,rfl,c⟩
   refine sTs (tb c 0 [V e.Kind,V e.Line,V e.Id,T e.Name,T e.Type_,V e.Len,V e.Var,Z E e.Target F,T e.Func,V e.Callee,Z H e.Args I,Z J e.Body K,Z L e.Else M] r ti111 r r r r r (show _=#[V e.Kind,V e.Line,V e.Id,T e.Name,T e.Type_,V e.Len,V e.Var,Z E e.Target F,T e.Func,V e.Callee,Z H e.Args I,Z J e.Body K,Z L e.Else M] from r)) ?_
   intro w5 c
   try dsimp only [List.set] at c
   refine n (q (q (wDr1 c [0,1] [8] [] (by kernel_rfl) ?_)))
   replace c:=c.drew
   have a:=(c.dp [8])
   refine pF 0 r (mi r) a (pF 1 r (xLss r r) a (pF 2 r (xMvB r) a ?_))
   rcases iv b with ⟨h6,b⟩|⟨h6,b⟩
   ·rw [decide_eq_true h6]
    have a:=(c.dp [8])
    refine hSkip' 3 r (by kernel_rfl) r (sF a) (hSkip' 4 r (by kernel_rfl) r (sF a) (hSkip' 5 r (by kernel_rfl) r (sF a) (hSkip' 6 r (by kernel_rfl) r (sF a) (pF 7 r (xPkTB r r) a (pF 8 r (xMvB r) a (hSkip' 9 r (by kernel_rfl) r (sF a) (hSkip' 10 r (by kernel_rfl) r (sF a) (hSkip' 11 r (by kernel_rfl) r (sF a) (hSkip' 12 r (by kernel_rfl) r (sF a) (hSkip' 13 r (by kernel_rfl) r (sF a) (pF 14 r (xPkTB r r) a (pF 15 r (xMvB r) a (hSkip' 16 r (by kernel_rfl) r (sF a) ?_)))))))))))))
    refine hSkip' 17 r (by kernel_rfl) r (sF a) (hSkip' 18 r (by kernel_rfl) r (sF a) (hSkip' 19 r (by kernel_rfl) r (sF a) (hSkip' 20 r (by kernel_rfl) r (sF a) (hSkip' 21 r (by kernel_rfl) r (sF a) (hSkip' 22 r (by kernel_rfl) r (sF a) (hSkip' 23 r (by kernel_rfl) r (sF a) (hSkip' 24 r (by kernel_rfl) r (sF a) (hSkip' 25 r (by kernel_rfl) r (sF a) (hSkip' 26 r (by kernel_rfl) r (sF a) (hSkip' 27 r (by kernel_rfl) r (sF a) (pF 28 r (xPkTB r r) a (hD (wIfT r ?_)))))))))))))
    refine q (g (s (xi r) (n (wRt ?_))))
    obtain rfl:=sm b
    replace D:=oi D
    obtain rfl:=sm D
    refine resV1 r (rdT r) ?_
    exact ⟨r,(c.ad [] [])⟩
   rw [decide_eq_false h6]
   have a:=(c.dp [8])
   refine pF 3 r (f111_2 r) a (uF 4 r (fun hS=>l3 r (hS.bk 0 r) r) a (pF 5 r (mi r) a (pF 6 r (xNeqD r r) a (pF 7 r (xPkFB r r) a (pF 8 r (xMvB r) a ?_)))))
   rcases iv b with ⟨h7,b⟩|⟨h7,b⟩
   ·rw [decide_eq_true h7]
    have a:=(c.dp [8])
    refine hSkip' 9 r (by kernel_rfl) r (sF a) (hSkip' 10 r (by kernel_rfl) r (sF a) (hSkip' 11 r (by kernel_rfl) r (sF a) (hSkip' 12 r (by kernel_rfl) r (sF a) (hSkip' 13 r (by kernel_rfl) r (sF a) (pF 14 r (xPkTB r r) a (pF 15 r (xMvB r) a (hSkip' 16 r (by kernel_rfl) r (sF a) (hSkip' 17 r (by kernel_rfl) r (sF a) (hSkip' 18 r (by kernel_rfl) r (sF a) (hSkip' 19 r (by kernel_rfl) r (sF a) (hSkip' 20 r (by kernel_rfl) r (sF a) (hSkip' 21 r (by kernel_rfl) r (sF a) (hSkip' 22 r (by kernel_rfl) r (sF a) ?_)))))))))))))
    refine hSkip' 23 r (by kernel_rfl) r (sF a) (hSkip' 24 r (by kernel_rfl) r (sF a) (hSkip' 25 r (by kernel_rfl) r (sF a) (hSkip' 26 r (by kernel_rfl) r (sF a) (hSkip' 27 r (by kernel_rfl) r (sF a) (pF 28 r (xPkTB r r) a (hD (wIfT r (q (g (s (xi r) (n (wRt ?_))))))))))))
    obtain rfl:=sm b
    replace D:=oi D
    obtain rfl:=sm D
    refine resV1 r (rdT r) ?_
    exact ⟨r,(c.ad [] [])⟩
   rw [decide_eq_false h7]
   have a:=(c.dp [8])
   refine pF 9 r (mi r) a (pF 10 r (f30_3 r) a (uF 11 r (fun hS=>l28 r (hS.bk 1 r) r) a (pF 12 r (xLnR u28_ r) a (pF 13 r (xGeq r r) a (pF 14 r (xPkFB r r) a (pF 15 r (xMvB r) a ?_))))))
   rcases iv b with ⟨h8,b⟩|⟨h8,b⟩
   ·rw [decide_eq_true h8]
    have a:=(c.dp [8])
    refine hSkip' 16 r (by kernel_rfl) r (sF a) (hSkip' 17 r (by kernel_rfl) r (sF a) (hSkip' 18 r (by kernel_rfl) r (sF a) (hSkip' 19 r (by kernel_rfl) r (sF a) (hSkip' 20 r (by kernel_rfl) r (sF a) (hSkip' 21 r (by kernel_rfl) r (sF a) (hSkip' 22 r (by kernel_rfl) r (sF a) (hSkip' 23 r (by kernel_rfl) r (sF a) (hSkip' 24 r (by kernel_rfl) r (sF a) (hSkip' 25 r (by kernel_rfl) r (sF a) (hSkip' 26 r (by kernel_rfl) r (sF a) (hSkip' 27 r (by kernel_rfl) r (sF a) (pF 28 r (xPkTB r r) a (hD ?_)))))))))))))
    refine wIfT r (q (g (s (xi r) (n (wRt ?_)))))
    obtain rfl:=sm b
    replace D:=oi D
    obtain rfl:=sm D
    refine resV1 r (rdT r) ?_
    exact ⟨r,(c.ad [] [])⟩
   rw [decide_eq_false h8]
   have a:=(c.dp [8])
   refine pF 16 r (f30_3 r) a (uF 17 r (fun hS=>l28 r (hS.bk 1 r) r) a (pF 18 r (mi r) a ?_))
   obtain ⟨X,R,b⟩:=bs b
   obtain ⟨k9,ac,R⟩:=ix_inv R
   refine pF 19 r (xIdR u28_ ti65 r r ac (c.dl 8 r) R) a (uF 20 r (fun hS=>xLoadS [V X.Func,V X.Kind,V X.Line] u65_ r ti65 r r (elF (ds:=[V X.Func,V X.Kind,V X.Line]) (hS.dl 0 r) R (fun _ h=>h))) a (pF 21 r (mi r) a (pF 22 r (f111_0 r) a (uF 23 r (fun hS=>l3 r (hS.bk 0 r) r) a (pF 24 r (f111_1 r) a (uF 25 r (fun hS=>l3 r (hS.bk 0 r) r) a (pF 26 r (bd65_0_1_2 r r r) a (pF 27 r (xAgNe3 u65_ (by kernel_rfl) (by kernel_rfl) (by kernel_rfl) r r) a (pF 28 r (xPkFB r r) a (hD ?_))))))))))
   rcases iv b with ⟨U,b⟩|⟨U,b⟩
   ·refine wIfT (bt U) (q (g (s (xi r) (n (wRt ?_)))))
    obtain rfl:=sm b
    replace D:=oi D
    obtain rfl:=sm D
    refine resV1 r (rdT r) ?_
    exact ⟨r,(c.ad [] [])⟩
   refine wIfF (bf U) (wk (wDr1 c [0,1] [] [] (by kernel_rfl) ?_))
   replace c:=c.drew
   have a:=(c.dp [])
   refine uF 0 r (fun hS=>xLoadS [Z j z.Program.Records m,Z o z.Program.Funcs p,Z t z.Vars u,Z v z.Stmts x] u30_ r ti30 r r (Cells.part (hS.bk 1 r).cells (o2:=0) r)) a (pF 1 r (mi r) a (pF 2 r (f111_12 r) a (uF 3 r (fun hS=>l80 r (hS.bk 0 r) r) a (uF 4 r (fun hS=>xLoadS [Z j z.Program.Records m,Z o z.Program.Funcs p,Z t z.Vars u,Z v z.Stmts x] u30_ r ti30 r r (Cells.part (hS.bk 1 r).cells (o2:=0) r)) a (pF 5 r (mi r) a (pF 6 r (f111_11 r) a (uF 7 r (fun hS=>l80 r (hS.bk 0 r) r) a (pF 8 r (mi r) a (pF 9 r (xAddW r r) a ?_)))))))))
   obtain ⟨ae,af,b⟩:=bs b
   have hc:=H_l04_numbered (c.pr [] [0,1] [5,6,7,8,1] r)  af
   refine hO 10 (oc r r (ec cal34 r) hc ?_)
   rintro _ ar ⟨rfl,hK⟩
   replace c:=c.cl [] [0,1] r hK r
   try dsimp only [pick,nth,ca,na] at c
   have a:=(c.dp [])
   refine ⟨(sF a),?_⟩
   obtain ⟨W,ah,b⟩:=bs b
   have hc:=H_l04_numbered (c.pr [] [0,1] [5,6,7,8,0] r)  ah
   refine hO 11 (oc r r (ec cal34 r) hc ?_)
   rintro _ au ⟨rfl,hK⟩
   replace c:=c.cl [] [0,1] r hK r
   try dsimp only [pick,nth,ca,na] at c
   have a:=(c.dp [])
   refine ⟨(sF a),?_⟩
   refine pF 12 r (xi r) a (hD (g (s (xAdd64 r r (by omega) (by omega)) (s (mi r) (n ?_)))))
   exact a7 (N.length - (Q+1)) _ _ (by omega) ⟨Q+1,W,r,by omega,⟨r,r,r,r,r,r,y⟩,(c.ad [1] [5,6,7,8,9]),b⟩
  obtain rfl:Q=N.length:=by omega
  rw [drop_end,F_l04_numbered_L0] at b
  refine q (g (s (xLssF r r (by omega)) (n (q (wIfF r (wEx ?_))))))
  exact a6 _ _ ⟨A,⟨r,y⟩,c,sm b⟩
 clear c
 rintro f w ⟨A,hf,c,ai⟩
 obtain ⟨aF,rfl⟩:=has_updL _ _ hf
 clear hf
 subst ai
 replace D:=gi D
 refine q (g (s (mi r) (s (xi r) (n (wRt ?_)))))
 obtain rfl:=sm D
 refine resV1 r (rdT r) ?_
 exact ⟨r,(c.ad [] [])⟩
theorem sps_l04_numbered (fu:Nat):Ct_l04_numbered (m_l04_numbered fu):=by
 induction fu with
 | zero=>exact by intro a b;intros;exact nn (by assumption)
 | succ fu ih=>exact wk_l04_numbered fu (m_l04_numbered fu) ih
theorem sp_l04_numbered (fu:Nat):Ct_l04_numbered (m_l04_numbered fu):=(sps_l04_numbered fu)
def Ct_l04_CheckerNumbers (m:(List Int)→Option (Bool)):Prop:=∀ {c:World} {f:Nat→Prop} {d:(List Int)} {a:Option Addr} {b:Nat} {e:Bool},Pre c f [] [.l a b d]→m d=some e→
 Calls Try.prog 10 #[Z a d b] c (Ret fun v w=>v=.bool e∧Bx c w f (Gof []) [] [])
def m_l04_CheckerNumbers_J0 (fu:Nat)(a:Int)(b:Int):Option (Ld (Bool) (Bool)):=
 if a≠0 then
  some (.go true)
 else
  some (.go (decide (b≠0)))
def m_l04_CheckerNumbers_L2 (fu:Nat)(b:Int)(a:Int):List Gv→Nat→Option (Ld (Unit) (Bool))
 | [],_=>some (.go ())
 | c :: d,e=>
 if c.From < b then
  some (.out false)
 else
  if a < c.From then
   some (.out false)
  else
   if c.To < (wr (c.From - 1)) then
    some (.out false)
   else
    if (wr (a - 1)) < c.To then
     some (.out false)
    else
     if c.Param=true then
      if c.From≠b then
       some (.out false)
      else
       if c.To≠(wr (a - 1)) then
        some (.out false)
       else
        m_l04_CheckerNumbers_L2 fu b a d (e+1)
     else
      m_l04_CheckerNumbers_L2 fu b a d (e+1)
def m_l04_CheckerNumbers_L1 (fu:Nat)(b:GSource):Nat→Int→Int→Option (Ld (Int × Int) (Bool))
 | 0,_,_=>none
 | e+1,c,a=>
 if a < (b.Program.Funcs.length:Int) then
  if a < (b.Vars.length:Int) then
   (ix b.Program.Funcs a).bind fun f=>
   (m_l04_numbered fu b a f.Body c).bind fun d=>
   if d < 0 then
    some (.out false)
   else
    (ix b.Vars a).bind fun h=>
    (m_l04_CheckerNumbers_L2 fu c d h 0).bind fun i=>i.el (fun _=>
    m_l04_CheckerNumbers_L1 fu b e d (wr (a+1))
    ) (fun o=>some (.out o))
  else
   some (.go (c,a))
 else
  some (.go (c,a))
def m_l04_CheckerNumbers (fu:Nat)(t:(List Int)):Option (Bool):=
 (m_kit_Short fu t).bind fun e=>
 (m_kit_Text fu e).bind fun f=>
 (m_r03_Parse fu f).bind fun u=>
 pel u fun h u=>pel u fun m i=>
 (m_checker_Check fu h).bind fun u=>
 pel u fun a u=>pel u fun p j=>
 (m_l04_CheckerNumbers_J0 fu i j).bind fun u=>u.el (fun k=>
 if k=true then
  (m_l04_known fu).bind fun b=>
  some b
 else
  (m_l04_CheckerNumbers_L1 fu a fu 0 0).bind fun u=>u.el (fun u=>
  pel u fun c l=>
  if c=(a.Stmts.length:Int) then
   if (a.Vars.length:Int)=(a.Program.Funcs.length:Int) then
    (m_l04_known fu).bind fun d=>
    some d
   else
    some false
  else
   some false
  ) (fun o=>some o)
 ) (fun o=>some o)
theorem sp_l04_CheckerNumbers (fu:Nat):Ct_l04_CheckerNumbers (m_l04_CheckerNumbers fu):=by
 intro w0 bF x0 a6 a7 r0 hP z
 unfold m_l04_CheckerNumbers at z
 have c:=hP.bx
 clear hP
 generalize hG:Gof _=G at c ⊢
 refine cf Try.func10 r ?_
 refine wCut [(0,Z a6 x0 a7)] ⟨r,y⟩ fun bG=>?_
 refine q (g (s (xAsB r) (n (q (g (s (xMvS r) ?_))))))
 obtain ⟨aS,h1,z⟩:=bs z
 have hc:=(sp_kit_Short fu) (c.pr [] [] [0] r)  h1
 refine sc (ec cal27 r) hc ?_
 rintro _ w1 ⟨aw,ax,rfl,S⟩
 replace c:=c.cl [] [] r S r
 try dsimp only [pick,nth,ca,na] at c
 obtain ⟨aT,h2,z⟩:=bs z
 have hc:=(sp_kit_Text fu) (c.pr [] [] [0] r)  h2
 refine sc (ec cal26 r) hc ?_
 rintro _ w2 ⟨rfl,S⟩
 replace c:=c.cl [] [] r S r
 try dsimp only [pick,nth,ca,na] at c
 obtain ⟨⟨K,aU,aV⟩,h3,z⟩:=bs z
 replace z:=pi z
 replace z:=pi z
 have hc:=(sp_r03_Parse fu) (c.pr [] [] [] r)  h3
 refine sc (ec cal32 r) hc ?_
 rintro _ w3 ⟨F,H,I,J,rfl,S⟩
 replace c:=c.cl [] [] r S r
 try dsimp only [pick,nth,ca,na] at c
 refine s xMove (s (xExtract r r) (s (xExtract r r) (s (xExtract r r) (sTo (aNewB c (mAlloc ti26)) ?_))))
 rintro _ w4 ⟨b4,rfl,c⟩
 refine sTs (tb c 0 [Z F K.Records H,Z I K.Funcs J] r ti26 r r r r r (show _=#[Z F K.Records H,Z I K.Funcs J] from r)) ?_
 intro w5 c
 try dsimp only [List.set] at c
 refine s (xi r) (s (xi r) (n (q (g (s (xLoadS [Z F K.Records H,Z I K.Funcs J] u26_ r ti26 r r (Cells.part (c.bk 0 r).cells (o2:=0) r)) ?_)))))
 obtain ⟨⟨a,aW,ay⟩,h6,z⟩:=bs z
 replace z:=pi z
 replace z:=pi z
 have hc:=(sp_checker_Check fu) (c.pr [] [0] [0,1] r)  h6
 refine sc (ec cal33 r) hc ?_
 rintro _ w6 ⟨j,m,o,p,t,u,v,x,rfl,S⟩
 replace c:=c.cl [] [0] r S r
 try dsimp only [pick,nth,ca,na] at c
 refine s xMove (s (xExtract r r) (s (xExtract r r) (s (xExtract r r) (sTo (aNewB c (mAlloc ti30)) ?_))))
 rintro _ w7 ⟨b7,rfl,c⟩
 refine sTs (tb c 0 [Z j a.Program.Records m,Z o a.Program.Funcs p,Z t a.Vars u,Z v a.Stmts x] r ti30 r r r r r (show _=#[Z j a.Program.Records m,Z o a.Program.Funcs p,Z t a.Vars u,Z v a.Stmts x] from r)) ?_
 intro w8 c
 try dsimp only [List.set] at c
 refine s (xi r) (s (xi r) (n (q (q ?_))))
 obtain ⟨Y9,U,z⟩:=bs z
 refine wJd (fun f w=>∃ (X:Bool),Has f [(6,Pt b7),(33,.bool X)]∧Bx w0 w bF G [.box b7 30 #[Z j a.Program.Records m,Z o a.Program.Funcs p,Z t a.Vars u,Z v a.Stmts x]] [.l j m a.Program.Records,.l o p a.Program.Funcs,.l t u a.Vars,.l v x a.Stmts]∧Ld.go X=Y9) (fun J9 az=>?_) ?_
 ·unfold m_l04_CheckerNumbers_J0 at U
  refine g (s (mi r) (s (xNeqD r r) (s (xMvB r) ?_)))
  rcases iv U with ⟨a8,U⟩|⟨a8,U⟩
  ·rw [decide_eq_true a8]
   refine sNo r (sNo r (s (xPkTB r r) (n ?_)))
   exact az _ _ ⟨true,⟨r,r,y⟩,(c.ad [0] [0,1,2,3]),sm U⟩
  rw [decide_eq_false a8]
  refine sGo r (s (mi r) (sGo r (s (xNeqD r r) (s (xPkFB r r) (n ?_)))))
  exact az _ _ ⟨(decide (ay≠0)),⟨r,r,y⟩,(c.ad [0] [0,1,2,3]),sm U⟩
 clear c
 rintro f w ⟨X,hf,c,aL⟩
 obtain ⟨bG,rfl⟩:=has_updL _ _ hf
 clear hf
 subst aL
 replace z:=gi z
 rcases iv z with ⟨Y,z⟩|⟨Y,z⟩
 ·refine wIfT (cb Y) (q (g ?_))
  obtain ⟨aM,aN,z⟩:=bs z
  have hc:=(sp_l04_known fu) (c.pr [] [0] [] r)  aN
  refine sc (ec cal28 r) hc ?_
  rintro _ ba ⟨rfl,S⟩
  replace c:=c.cl [] [0] r S r
  try dsimp only [pick,nth,ca,na] at c
  refine s (xAsB r) (n (wRt ?_))
  obtain rfl:=sm z
  refine resV1 r (rdT r) ?_
  exact ⟨r,(c.ad [] [])⟩
 replace Y:=nt Y
 refine wIfF (cb Y) (wk (q (g (s (xi r) (n (q (q (g (s (xi r) (n ?_))))))))))
 obtain ⟨aA,b,z⟩:=bs z
 refine wJd (fun f w=>∃ (B:Int)(C:Int),Has f [(6,Pt b7),(9,V B)]∧Bx w0 w bF G [.box b7 30 #[Z j a.Program.Records m,Z o a.Program.Funcs p,Z t a.Vars u,Z v a.Stmts x]] [.l j m a.Program.Records,.l o p a.Program.Funcs,.l t u a.Vars,.l v x a.Stmts]∧Ld.go (B,C)=aA) (fun bb a3=>?_) ?_
 ·refine wBk (wLoopGd (fun bH f w=>∃ (B:Int)(C:Int),Has f [(6,Pt b7),(9,V B),(10,V C)]∧Bx w0 w bF G [.box b7 30 #[Z j a.Program.Records m,Z o a.Program.Funcs p,Z t a.Vars u,Z v a.Stmts x]] [.l j m a.Program.Records,.l o p a.Program.Funcs,.l t u a.Vars,.l v x a.Stmts]∧m_l04_CheckerNumbers_L1 fu a bH B C=some aA) fu ⟨0,0,⟨r,r,r,y⟩,c,b⟩ ?_)
  clear c b
  rintro a9 f w ⟨B,C,hf,c,b⟩ bc aB
  obtain ⟨bG,rfl⟩:=has_updL _ _ hf
  clear hf
  cases a9 with
  | zero=>exact nn b
  | succ a9=>
   rw [m_l04_CheckerNumbers_L1] at b
   refine q (q (g (s (mi r) (s (f30_0 r) (s (f26_1 r) (s (l24 r (c.bk 0 r) r) (s (xLnR u24_ r) (s (xLss r r) (s (xMvB r) ?_)))))))))
   rcases iv b with ⟨aa,b⟩|⟨aa,b⟩
   ·rw [decide_eq_true aa]
    refine sGo r (s (mi r) (sGo r (s (f30_2 r) (sGo r (s (l27 r (c.bk 0 r) r) (sGo r (s (xLnR u27_ r) (sGo r (s (xLss r r) (s (xPkTB r r) (n ?_)))))))))))
    rcases iv b with ⟨ab,b⟩|⟨ab,b⟩
    ·refine wIfT (bt ab) (wk (q (wBk (q (g (s (mi r) (s (xi r) (n (q ?_)))))))))
     obtain ⟨aC,Q,b⟩:=bs b
     obtain ⟨bg,aD,Q⟩:=ix_inv Q
     obtain ⟨aX,aE,c⟩:=c.nm 1 rfl Q
     obtain ⟨ac,ae,af,ag,rfl,ah,ai⟩:=GFunc.out aE
     replace c:=c.dadd (d:=.l ac ae aC.Params) ah
     replace c:=c.dadd (d:=.l af ag aC.Body) ai
     refine wDr1 c [0] [0,1,2,4] [] (by kernel_rfl) ?_
     replace c:=c.drew
     have W:=(c.dp [0,1,2,4])
     refine uF 0 r (fun hS=>xLoadS [Z j a.Program.Records m,Z o a.Program.Funcs p,Z t a.Vars u,Z v a.Stmts x] u30_ r ti30 r r (Cells.part (hS.bk 0 r).cells (o2:=0) r)) W (pF 1 r (mi r) W (pF 2 r (f30_0 r) W (pF 3 r (f26_1 r) W (uF 4 r (fun hS=>l24 r (hS.bk 0 r) r) W (pF 5 r (mi r) W (pF 6 r (xIdR u24_ ti82 r r aD (c.dl 4 r) Q) W (pF 7 r (f82_3 r) W (uF 8 r (fun hS=>xLoad u80_ r r ((hS.dc 2 r) 3 _ r)) W (pF 9 r (mi r) W ?_)))))))))
     obtain ⟨L,aO,b⟩:=bs b
     have hc:=(sp_l04_numbered fu) (c.pr [] [0] [3,4,5,6,0] r)  aO
     refine hO 10 (oc r r (ec cal34 r) hc ?_)
     rintro _ bh ⟨rfl,S⟩
     replace c:=c.cl [] [0] r S r
     try dsimp only [pick,nth,ca,na] at c
     have W:=(c.dp [0,1,2,4])
     refine ⟨(sF W),?_⟩
     refine pF 11 r (xi r) W (hD (q (q (g (s (mi r) (s (xLss r r) (n ?_)))))))
     rcases iv b with ⟨aj,b⟩|⟨aj,b⟩
     ·refine wIfT (bt aj) (q (g (s (xAsB r) (n (wRt ?_)))))
      obtain rfl:=sm b
      replace z:=oi z
      obtain rfl:=sm z
      refine resV1 r (rdT r) ?_
      exact ⟨r,(c.ad [] [])⟩
     refine wIfF (bf aj) (wk (q (g (s (f30_2 r) (s (l27 r (c.bk 0 r) r) (s (mi r) ?_))))))
     obtain ⟨D,R,b⟩:=bs b
     obtain ⟨bi,aF,R⟩:=ix_inv R
     obtain ⟨aY,aG,c⟩:=c.nm 5 rfl R
     obtain ⟨M,N,rfl,ak⟩:=aG
     replace c:=c.dadd (d:=.l M N D) ak
     refine s (xIdR u27_ ti60 r r aF (c.dl 7 r) R) (s (xLoad u60_ r r ((c.dc 1 r) 0 _ r)) (s (xLnR u60_ r) (s (mi r) (n ?_))))
     have aZ:=(c.dl 0 r).bd
     obtain ⟨aH,e,b⟩:=bs b
     refine wJd (fun f w=>Has f [(6,Pt b7),(9,V L),(10,V C)]∧Bx w0 w bF G [.box b7 30 #[Z j a.Program.Records m,Z o a.Program.Funcs p,Z t a.Vars u,Z v a.Stmts x]] [.l M N D,.l j m a.Program.Records,.l o p a.Program.Funcs,.l t u a.Vars,.l v x a.Stmts]∧Ld.go ()=aH) (fun bj aI=>?_) ?_
     ·refine wBk (wLoopGd (fun bH f w=>∃ (E:Nat),bH=D.length - E∧E≤D.length∧Has f [(70,V (E:Int)),(6,Pt b7),(9,V L),(10,V C),(11,V B),(68,Z M D N),(69,V (D.length:Int))]∧Bx w0 w bF G [.box b7 30 #[Z j a.Program.Records m,Z o a.Program.Funcs p,Z t a.Vars u,Z v a.Stmts x]] [.l M N D,.l j m a.Program.Records,.l o p a.Program.Funcs,.l t u a.Vars,.l v x a.Stmts]∧m_l04_CheckerNumbers_L2 fu B L (D.drop E) E=some aH) (D.length) ⟨0,r,Nat.zero_le _,⟨r,r,r,r,r,r,r,y⟩,(c.dp [0,5,6,7,8]),e⟩ ?_)
      clear c e
      rintro bH f w ⟨E,rfl,b0,hf,c,e⟩ bl a4
      obtain ⟨bG,rfl⟩:=has_updL _ _ hf
      clear hf
      rcases Nat.lt_or_ge E D.length with a5 | a5
      ·obtain ⟨A,a0⟩:=get_ex (l:=D) a5
       rw [drop_id a0,m_l04_CheckerNumbers_L2] at e
       refine q (g (s (xLssT r r (by omega)) (n (q (wIfT r (wk (q (wBk (q (g (s (xIdR u60_ ti59 r r r (c.dl 0 r) a0) (s (xLoadS [T A.Name,V A.Kind,V A.Record,V A.Words,.bool A.Param,V A.From,V A.To] u59_ r ti59 r r (elF (ds:=[T A.Name,V A.Kind,V A.Record,V A.Words,.bool A.Param,V A.From,V A.To]) (c.dl 0 r) a0 (fun _ h=>h))) (sTo (aNewB c (mAlloc ti59)) ?_)))))))))))))
       rintro _ bm ⟨bn,rfl,c⟩
       refine sTs (tb c 0 [T A.Name,V A.Kind,V A.Record,V A.Words,.bool A.Param,V A.From,V A.To] r ti59 r r r r r (show _=#[T A.Name,V A.Kind,V A.Record,V A.Words,.bool A.Param,V A.From,V A.To] from r)) ?_
       intro bo c
       try dsimp only [List.set] at c
       refine n (q (g (s (f59_5 r) (s (l3 r (c.bk 0 r) r) (s (mi r) (s (xLss r r) (s (xMvB r) ?_)))))))
       rcases iv e with ⟨al,e⟩|⟨al,e⟩
       ·rw [decide_eq_true al]
        refine sNo r (sNo r (sNo r (sNo r (s (xPkTB r r) (s (xMvB r) (sNo r (sNo r (sNo r (sNo r (sNo r (sNo r (s (xPkTB r r) (s (xMvB r) ?_)))))))))))))
        refine sNo r (sNo r (sNo r (sNo r (sNo r (s (xPkTB r r) (s (xMvB r) (sNo r (sNo r (sNo r (sNo r (sNo r (sNo r (sNo r ?_)))))))))))))
        refine sNo r (sNo r (sNo r (sNo r (sNo r (sNo r (sNo r (sNo r (s (xPkTB r r) (n (wIfT r (q (g (s (xAsB r) ?_)))))))))))))
        refine n (wRt ?_)
        obtain rfl:=sm e
        replace b:=oi b
        obtain rfl:=sm b
        replace z:=oi z
        obtain rfl:=sm z
        refine resV1 r (rdT r) ?_
        exact ⟨r,(c.ad [] [])⟩
       rw [decide_eq_false al]
       refine sGo r (s (f59_5 r) (sGo r (s (l3 r (c.bk 0 r) r) (sGo r (s (mi r) (sGo r (s (xGtr r r) (s (xPkFB r r) (s (xMvB r) ?_)))))))))
       rcases iv e with ⟨am,e⟩|⟨am,e⟩
       ·rw [decide_eq_true am]
        refine sNo r (sNo r (sNo r (sNo r (sNo r (sNo r (s (xPkTB r r) (s (xMvB r) (sNo r (sNo r (sNo r (sNo r (sNo r (s (xPkTB r r) ?_)))))))))))))
        refine s (xMvB r) (sNo r (sNo r (sNo r (sNo r (sNo r (sNo r (sNo r (sNo r (sNo r (sNo r (sNo r (sNo r (sNo r ?_)))))))))))))
        refine sNo r (sNo r (s (xPkTB r r) (n (wIfT r (q (g (s (xAsB r) (n (wRt ?_)))))))))
        obtain rfl:=sm e
        replace b:=oi b
        obtain rfl:=sm b
        replace z:=oi z
        obtain rfl:=sm z
        refine resV1 r (rdT r) ?_
        exact ⟨r,(c.ad [] [])⟩
       rw [decide_eq_false am]
       refine sGo r (s (f59_6 r) (sGo r (s (l3 r (c.bk 0 r) r) (sGo r (s (f59_5 r) (sGo r (s (l3 r (c.bk 0 r) r) (sGo r (s (xSubW r r) (sGo r (s (xLss r r) (s (xPkFB r r) (s (xMvB r) ?_)))))))))))))
       rcases iv e with ⟨an,e⟩|⟨an,e⟩
       ·rw [decide_eq_true an]
        refine sNo r (sNo r (sNo r (sNo r (sNo r (s (xPkTB r r) (s (xMvB r) (sNo r (sNo r (sNo r (sNo r (sNo r (sNo r (sNo r ?_)))))))))))))
        refine sNo r (sNo r (sNo r (sNo r (sNo r (sNo r (sNo r (sNo r (s (xPkTB r r) (n (wIfT r (q (g (s (xAsB r) ?_)))))))))))))
        refine n (wRt ?_)
        obtain rfl:=sm e
        replace b:=oi b
        obtain rfl:=sm b
        replace z:=oi z
        obtain rfl:=sm z
        refine resV1 r (rdT r) ?_
        exact ⟨r,(c.ad [] [])⟩
       rw [decide_eq_false an]
       refine sGo r (s (f59_6 r) (sGo r (s (l3 r (c.bk 0 r) r) (sGo r (s (mi r) (sGo r (s (xSubW r r) (sGo r (s (xGtr r r) (s (xPkFB r r) (s (xMvB r) ?_)))))))))))
       rcases iv e with ⟨ao,e⟩|⟨ao,e⟩
       ·rw [decide_eq_true ao]
        refine sNo r (sNo r (sNo r (sNo r (sNo r (sNo r (sNo r (sNo r (sNo r (sNo r (sNo r (sNo r (sNo r (sNo r ?_)))))))))))))
        refine sNo r (s (xPkTB r r) (n (wIfT r (q (g (s (xAsB r) (n (wRt ?_))))))))
        obtain rfl:=sm e
        replace b:=oi b
        obtain rfl:=sm b
        replace z:=oi z
        obtain rfl:=sm z
        refine resV1 r (rdT r) ?_
        exact ⟨r,(c.ad [] [])⟩
       rw [decide_eq_false ao]
       refine sGo r (s (f59_4 r) (sGo r (s (l4 r (c.bk 0 r) r) (sGo r (s (xMvB r) ?_)))))
       rcases iv e with ⟨a1,e⟩|⟨a1,e⟩
       ·rw [a1]
        refine sGo r (s (f59_5 r) (sGo r (s (l3 r (c.bk 0 r) r) (sGo r (s (mi r) (sGo r (s (xNeqD r r) (sGo r (s (xMvB r) ?_)))))))))
        rcases iv e with ⟨ap,e⟩|⟨ap,e⟩
        ·rw [decide_eq_true ap]
         refine sNo r (sNo r (sNo r (sNo r (sNo r (sGo r (s (xPkTB r r) (sGo r (s (xPkTB r r) (s (xPkFB r r) (n (wIfT r (q (g ?_)))))))))))))
         refine s (xAsB r) (n (wRt ?_))
         obtain rfl:=sm e
         replace b:=oi b
         obtain rfl:=sm b
         replace z:=oi z
         obtain rfl:=sm z
         refine resV1 r (rdT r) ?_
         exact ⟨r,(c.ad [] [])⟩
        rw [decide_eq_false ap]
        refine sGo r (s (f59_6 r) (sGo r (s (l3 r (c.bk 0 r) r) (sGo r (s (mi r) (sGo r (s (xSubW r r) (sGo r (s (xNeqD r r) (sGo r (s (xPkFB r r) (sGo r (s (xPkTB r r) ?_)))))))))))))
        refine s (xPkFB r r) (n ?_)
        rcases iv e with ⟨aq,e⟩|⟨aq,e⟩
        ·refine wIfT (bt aq) (q (g (s (xAsB r) (n (wRt ?_)))))
         obtain rfl:=sm e
         replace b:=oi b
         obtain rfl:=sm b
         replace z:=oi z
         obtain rfl:=sm z
         refine resV1 r (rdT r) ?_
         exact ⟨r,(c.ad [] [])⟩
        refine wIfF (bf aq) (wk (g (s (xAdd64 r r (by omega) (by omega)) (s (mi r) (n ?_)))))
        exact a4 (D.length - (E+1)) _ _ (by omega) ⟨E+1,r,by omega,⟨r,r,r,r,r,r,r,y⟩,(c.arr [1] r),e⟩
       replace a1:=nt a1
       rw [a1]
       refine sNo r (sNo r (sNo r (sNo r (sNo r (sNo r (sNo r (sNo r (sNo r (sNo r (sNo r (sGo r (s (xPkFB r r) (s (xPkFB r r) ?_)))))))))))))
       refine n (wIfF r (wk (g (s (xAdd64 r r (by omega) (by omega)) (s (mi r) (n ?_))))))
       exact a4 (D.length - (E+1)) _ _ (by omega) ⟨E+1,r,by omega,⟨r,r,r,r,r,r,r,y⟩,(c.arr [1] r),e⟩
      obtain rfl:E=D.length:=by omega
      rw [drop_end,m_l04_CheckerNumbers_L2] at e
      refine q (g (s (xLssF r r (by omega)) (n (q (wIfF r (wEx ?_))))))
      exact aI _ _ ⟨⟨r,r,r,y⟩,c,sm e⟩
     clear c
     rintro f w ⟨hf,c,aJ⟩
     obtain ⟨bG,rfl⟩:=has_updL _ _ hf
     clear hf
     subst aJ
     replace b:=gi b
     refine g (s (mi r) (s (xAddW r r) (s (xi r) (n ?_))))
     exact aB a9 _ _ (Nat.lt_succ_self _) ⟨L,(wr (C+1)),⟨r,r,r,y⟩,(c.dp [1,2,3,4]),b⟩
    refine wIfF (bf ab) (wEx ?_)
    exact a3 _ _ ⟨B,C,⟨r,r,y⟩,c,sm b⟩
   rw [decide_eq_false aa]
   refine sNo r (sNo r (sNo r (sNo r (sNo r (s (xPkFB r r) (n (wIfF r (wEx ?_))))))))
   exact a3 _ _ ⟨B,C,⟨r,r,y⟩,c,sm b⟩
 clear c
 rintro f w ⟨B,C,hf,c,aK⟩
 obtain ⟨bG,rfl⟩:=has_updL _ _ hf
 clear hf
 subst aK
 replace z:=gi z
 replace z:=pi z
 refine q (g (s (mi r) (s (f30_3 r) (s (l28 r (c.bk 0 r) r) (s (xLnR u28_ r) (s (xEqlD r r) (s (xMvB r) ?_)))))))
 rcases iv z with ⟨ar,z⟩|⟨ar,z⟩
 ·rw [decide_eq_true ar]
  refine sGo r (s (f30_2 r) (sGo r (s (l27 r (c.bk 0 r) r) (sGo r (s (xLnR u27_ r) (sGo r (s (f30_0 r) (sGo r (s (f26_1 r) (sGo r (s (l24 r (c.bk 0 r) r) (sGo r (s (xLnR u24_ r) ?_)))))))))))))
  refine sGo r (s (xEqlD r r) (s (xPkTB r r) (s (xMvB r) ?_)))
  rcases iv z with ⟨au,z⟩|⟨au,z⟩
  ·rw [decide_eq_true au]
   obtain ⟨aP,aQ,z⟩:=bs z
   refine sGo r ?_
   have hc:=(sp_l04_known fu) (c.pr [] [0] [] r)  aQ
   refine sc (ec cal28 r) hc ?_
   rintro _ bp ⟨rfl,S⟩
   replace c:=c.cl [] [0] r S r
   try dsimp only [pick,nth,ca,na] at c
   refine s (xPkTB r r) (s (xAsB r) (n (wRt ?_)))
   obtain rfl:=sm z
   refine resV1 r (rdT r) ?_
   exact ⟨r,(c.ad [] [])⟩
  rw [decide_eq_false au]
  refine sNo r (s (xPkFB r r) (s (xAsB r) (n (wRt ?_))))
  obtain rfl:=sm z
  refine resV1 r (rdT r) ?_
  exact ⟨r,(c.ad [] [])⟩
 rw [decide_eq_false ar]
 refine sNo r (sNo r (sNo r (sNo r (sNo r (sNo r (sNo r (sNo r (s (xPkFB r r) (s (xMvB r) (sNo r (s (xPkFB r r) (s (xAsB r) (n ?_)))))))))))))
 refine wRt ?_
 obtain rfl:=sm z
 refine resV1 r (rdT r) ?_
 exact ⟨r,(c.ad [] [])⟩
end
end Go.Proofs.Ytfglbdkfnphjgaa
