/- Contracts, printed by gen3.py. -/
import Derived.Test.YtfglbdkfnphjgaaZt
import Derived.Test.YtfglbdkfnphjgaaLb
import Derived.Test.YtfglbdkfnphjgaaLc
import Derived.Test.YtfglbdkfnphjgaaLd
import Derived.Test.YtfglbdkfnphjgaaLg
import Derived.Test.YtfglbdkfnphjgaaLi
import Derived.Test.YtfglbdkfnphjgaaLj
set_option linter.unusedVariables false
set_option maxHeartbeats 12800000
set_option linter.unusedSimpArgs false
set_option maxRecDepth 4000
namespace Go.Proofs.Ytfglbdkfnphjgaa
open Go.RowKit Go.Fw
noncomputable section
def Ct_kit_Text (m:(List Int)→Option (BA)):Prop:=∀ {c:World} {f:Nat→Prop} {d:(List Int)} {a:Option Addr} {b:Nat} {e:BA},Pre c f [] [.l a b d]→m d=some e→
 Calls Try.prog 26 #[Z a d b] c (Ret fun v w=>v=T e∧Bx c w f (Gof []) [] [])
def m_kit_Text (fu:Nat)(c:(List Int)):Option (BA):=
 (m_kit_Program fu c).bind fun a=>
 (m_r03_Print fu a).bind fun b=>
 some b
theorem sp_kit_Text (fu:Nat):Ct_kit_Text (m_kit_Text fu):=by
 intro u A o b c v k d
 unfold m_kit_Text at d
 have a:=k.bx
 clear k
 generalize w:Gof _=G at a ⊢
 refine cf Try.func26 r ?_
 refine wCut [(0,Z b o c)] ⟨r,y⟩ fun B=>?_
 refine q (g (s (xAsT r) (n (q (g (s (xMvS r) ?_))))))
 obtain ⟨l,p,d⟩:=bs d
 have hc:=(sp_kit_Program fu) (a.pr [] [] [0] r)  p
 refine sc (ec cal43 r) hc ?_
 rintro _ x ⟨e,f,h,i,rfl,j⟩
 replace a:=a.cl [] [] r j r
 try dsimp only [pick,nth,ca,na] at a
 obtain ⟨m,t,d⟩:=bs d
 have hc:=(sp_r03_Print fu) (a.pr [] [] [0,1] r)  t
 refine sc (ec cal42 r) hc ?_
 rintro _ z ⟨rfl,j⟩
 replace a:=a.cl [] [] r j r
 try dsimp only [pick,nth,ca,na] at a
 refine s (xAsT r) (n (wRt ?_))
 obtain rfl:=sm d
 refine resV1 r (rdT r) ?_
 exact ⟨r,(a.dp [])⟩
def Ct_kit_Checked (m:(List Int)→Option (GSource × Bool)):Prop:=∀ {p:World} {x:Nat→Prop} {t:(List Int)} {a:Option Addr} {b:Nat} {R:GSource × Bool},Pre p x [] [.l a b t]→m t=some R→
 Calls Try.prog 13 #[Z a t b] p (Ret fun v w=>pel R fun o u=>∃ (c:OA)(d:Nat)(e:OA)(f:Nat)(h:OA)(i:Nat)(j:OA)(k:Nat),v=.tuple #[.agg #[Z c o.Program.Records d,Z e o.Program.Funcs f,Z h o.Vars i,Z j o.Stmts k],.bool u]∧Bx p w x (Gof []) [] [.l c d o.Program.Records,.l e f o.Program.Funcs,.l h i o.Vars,.l j k o.Stmts])
def m_kit_Checked (fu:Nat)(j:(List Int)):Option (GSource × Bool):=
 (m_kit_Short fu j).bind fun c=>
 (m_kit_Text fu c).bind fun d=>
 (m_r03_Parse fu d).bind fun k=>
 pel k fun e k=>pel k fun i f=>
 if f≠0 then
  some ((⟨(⟨([]:List Gr),([]:List Gn)⟩:GProgram),([]:List (List Gv)),([]:List Gi)⟩:GSource),false)
 else
  (m_r04_Check fu e).bind fun k=>
  pel k fun a k=>pel k fun h b=>
  some (a,(decide (b=0)))
theorem sp_kit_Checked (fu:Nat):Ct_kit_Checked (m_kit_Checked fu):=by
 intro w0 ae N x z R I v
 unfold m_kit_Checked at v
 have b:=I.bx
 clear I
 generalize hG:Gof _=G at b ⊢
 refine cf Try.func13 r ?_
 refine wCut [(0,Z x N z)] ⟨r,y⟩ fun af=>?_
 refine q (g (sTo (aNewB b (mAlloc ti30)) ?_))
 rintro _ w1 ⟨b1,rfl,b⟩
 refine s (xAsB r) (n (q (g (s (xMvS r) ?_))))
 obtain ⟨J,Q,v⟩:=bs v
 have hc:=(sp_kit_Short fu) (b.pr [] [0] [0] r)  Q
 refine sc (ec cal27 r) hc ?_
 rintro _ w2 ⟨B,C,rfl,A⟩
 replace b:=b.cl [] [0] r A r
 try dsimp only [pick,nth,ca,na] at b
 obtain ⟨K,S,v⟩:=bs v
 have hc:=(sp_kit_Text fu) (b.pr [] [0] [0] r)  S
 refine sc (ec cal26 r) hc ?_
 rintro _ w3 ⟨rfl,A⟩
 replace b:=b.cl [] [0] r A r
 try dsimp only [pick,nth,ca,na] at b
 obtain ⟨⟨w,L,M⟩,U,v⟩:=bs v
 replace v:=pi v
 replace v:=pi v
 have hc:=(sp_r03_Parse fu) (b.pr [] [0] [] r)  U
 refine sc (ec cal32 r) hc ?_
 rintro _ w4 ⟨o,p,t,u,rfl,A⟩
 replace b:=b.cl [] [0] r A r
 try dsimp only [pick,nth,ca,na] at b
 refine s xMove (s (xExtract r r) (s (xExtract r r) (s (xExtract r r) (sTo (aNewB b (mAlloc ti26)) ?_))))
 rintro _ w5 ⟨b5,rfl,b⟩
 refine sTs (tb b 0 [Z o w.Records p,Z t w.Funcs u] r ti26 r r r r r (show _=#[Z o w.Records p,Z t w.Funcs u] from r)) ?_
 intro w6 b
 try dsimp only [List.set] at b
 refine s (xi r) (s (xi r) (n (q (q (g (s (mi r) (s (xNeqD r r) (n ?_))))))))
 rcases iv v with ⟨D,v⟩|⟨D,v⟩
 ·refine wIfT (bt D) (q (g (s bd30_ (sTs (tb b 1 [sn,sn,sn,sn] r ti30 r r r r r (show _=#[sn,sn,sn,sn] from r)) ?_))))
  intro w8 b
  try dsimp only [List.set] at b
  refine s (xAsB r) (n (wRt ?_))
  replace b:=b.dadd (d:=.l none 0 ([]:List Gr)) ln_
  replace b:=b.dadd (d:=.l none 0 ([]:List Gn)) ln_
  replace b:=b.dadd (d:=.l none 0 ([]:List (List Gv))) ln_
  replace b:=b.dadd (d:=.l none 0 ([]:List Gi)) ln_
  obtain rfl:=sm v
  refine resV2 r (rdA r u30_ r ti30 r (b.bk 1 r)) (rdT r) ?_
  exact pok (⟨none,0,none,0,none,0,none,0,r,(b.ad [] [3,2,1,0])⟩)
 refine wIfF (bf D) (wk (q (g (s (xLoadS [Z o w.Records p,Z t w.Funcs u] u26_ r ti26 r r (Cells.part (b.bk 0 r).cells (o2:=0) r)) ?_))))
 obtain ⟨⟨a,E,F⟩,H,v⟩:=bs v
 replace v:=pi v
 replace v:=pi v
 have hc:=(sp_r04_Check fu) (b.pr [] [0,1] [0,1] r)  H
 refine sc (ec cal36 r) hc ?_
 rintro _ X ⟨c,e,f,h,i,j,k,m,rfl,A⟩
 replace b:=b.cl [] [0,1] r A r
 try dsimp only [pick,nth,ca,na] at b
 refine s xMove (s (xExtract r r) (s (xExtract r r) (s (xExtract r r) (sTo (aNewB b (mAlloc ti30)) ?_))))
 rintro _ Y ⟨a0,rfl,b⟩
 refine sTs (tb b 0 [Z c a.Program.Records e,Z f a.Program.Funcs h,Z i a.Vars j,Z k a.Stmts m] r ti30 r r r r r (show _=#[Z c a.Program.Records e,Z f a.Program.Funcs h,Z i a.Vars j,Z k a.Stmts m] from r)) ?_
 intro a1 b
 try dsimp only [List.set] at b
 refine s (xi r) (s (xi r) (n (q (g (s (xLoadS [Z c a.Program.Records e,Z f a.Program.Funcs h,Z i a.Vars j,Z k a.Stmts m] u30_ r ti30 r r (Cells.part (b.bk 0 r).cells (o2:=0) r)) (s (mi r) (s (xEqlD r r) (sTs (tb b 2 [Z c a.Program.Records e,Z f a.Program.Funcs h,Z i a.Vars j,Z k a.Stmts m] r ti30 r r r r r (show _=#[Z c a.Program.Records e,Z f a.Program.Funcs h,Z i a.Vars j,Z k a.Stmts m] from r)) ?_))))))))
 intro a2 b
 try dsimp only [List.set] at b
 refine s (xAsB r) (n (wRt ?_))
 obtain rfl:=sm v
 refine resV2 r (rdA r u30_ r ti30 r (b.bk 2 r)) (rdT r) ?_
 exact pok (⟨c,e,f,h,i,j,k,m,r,(b.ad [] [0,1,2,3])⟩)
def Ct_l04_known (m:Option (Bool)):Prop:=∀ {a:World} {c:Nat→Prop}  {b:Bool},Pre a c [] []→m=some b→
 Calls Try.prog 28 #[] a (Ret fun v w=>v=.bool b∧Bx a w c (Gof []) [] [])
def m_l04_known (fu:Nat):Option (Bool):=
 (m_r03_Parse fu (⟨#[102,117,110,99,32,102,40,97,41,32,123,32,118,97,114,32,116,58,32,105,110,116,59,32,116,32,61,32,97,59,32,125]⟩:BA)).bind fun o=>
 pel o fun f o=>pel o fun j k=>
 (m_checker_Check fu f).bind fun o=>
 pel o fun a o=>pel o fun l h=>
 if h≠0 then
  some false
 else
  if (a.Vars.length:Int)≠1 then
   some false
  else
   (ix a.Vars 0).bind fun m=>
   if (m.length:Int)≠2 then
    some false
   else
    if (a.Stmts.length:Int)≠3 then
     some false
    else
     (m_checker_Find fu a (⟨#[102]⟩:BA)).bind fun o=>
     pel o fun b c=>
     (ix m 1).bind fun i=>
     if i.From=1 then
      if i.To=2 then
       (m_checker_Visible fu a 0 0).bind fun d=>
       (m_same_int fu d ([0]:List Int)).bind fun e=>
       if e=true then
        if b=0 then
         some c
        else
         some false
       else
        some false
      else
       some false
     else
      some false
theorem sp_l04_known (fu:Nat):Ct_l04_known (m_l04_known fu):=by
 intro w0 aF r0 hP b
 unfold m_l04_known at b
 have a:=hP.bx
 clear hP
 generalize hG:Gof _=G at a ⊢
 refine cf Try.func28 r ?_
 refine wCut [] y fun aG=>?_
 refine q (g (s (xAsB r) (n (q (g ?_)))))
 obtain ⟨⟨B,ac,ae⟩,h1,b⟩:=bs b
 replace b:=pi b
 replace b:=pi b
 have hc:=(sp_r03_Parse fu) (a.pr [] [] [] r)  h1
 refine sc (ec cal32 r) hc ?_
 rintro _ w1 ⟨w,x,z,A,rfl,I⟩
 replace a:=a.cl [] [] r I r
 try dsimp only [pick,nth,ca,na] at a
 refine s xMove (s (xExtract r r) (s (xExtract r r) (s (xExtract r r) (sTo (aNewB a (mAlloc ti26)) ?_))))
 rintro _ w2 ⟨b2,rfl,a⟩
 refine sTs (tb a 0 [Z w B.Records x,Z z B.Funcs A] r ti26 r r r r r (show _=#[Z w B.Records x,Z z B.Funcs A] from r)) ?_
 intro w3 a
 try dsimp only [List.set] at a
 refine s (xi r) (s (xi r) (n (q (g (s (xLoadS [Z w B.Records x,Z z B.Funcs A] u26_ r ti26 r r (Cells.part (a.bk 0 r).cells (o2:=0) r)) ?_)))))
 obtain ⟨⟨c,ag,ah⟩,h4,b⟩:=bs b
 replace b:=pi b
 replace b:=pi b
 have hc:=(sp_checker_Check fu) (a.pr [] [0] [0,1] r)  h4
 refine sc (ec cal33 r) hc ?_
 rintro _ w4 ⟨e,f,j,m,o,p,t,u,rfl,I⟩
 replace a:=a.cl [] [0] r I r
 try dsimp only [pick,nth,ca,na] at a
 refine s xMove (s (xExtract r r) (s (xExtract r r) (s (xExtract r r) (sTo (aNewB a (mAlloc ti30)) ?_))))
 rintro _ w5 ⟨b5,rfl,a⟩
 refine sTs (tb a 0 [Z e c.Program.Records f,Z j c.Program.Funcs m,Z o c.Vars p,Z t c.Stmts u] r ti30 r r r r r (show _=#[Z e c.Program.Records f,Z j c.Program.Funcs m,Z o c.Vars p,Z t c.Stmts u] from r)) ?_
 intro w6 a
 try dsimp only [List.set] at a
 refine s (xi r) (s (xi r) (n (q (q (g (s (mi r) (s (xNeqD r r) (s (xMvB r) ?_))))))))
 rcases iv b with ⟨h7,b⟩|⟨h7,b⟩
 ·rw [decide_eq_true h7]
  refine sNo r (sNo r (sNo r (sNo r (s (xPkTB r r) (s (xMvB r) (sNo r (sNo r (sNo r (sNo r (sNo r (sNo r (s (xPkTB r r) (s (xMvB r) ?_)))))))))))))
  refine sNo r (sNo r (sNo r (sNo r (s (xPkTB r r) (n (wIfT r (q (g (s (xAsB r) (n (wRt ?_)))))))))))
  obtain rfl:=sm b
  refine resV1 r (rdT r) ?_
  exact ⟨r,(a.ad [] [])⟩
 rw [decide_eq_false h7]
 refine sGo r (s (f30_2 r) (sGo r (s (l27 r (a.bk 0 r) r) (sGo r (s (xLnR u27_ r) (sGo r (s (xNeqD r r) (s (xPkFB r r) (s (xMvB r) ?_)))))))))
 rcases iv b with ⟨h8,b⟩|⟨h8,b⟩
 ·rw [decide_eq_true h8]
  refine sNo r (sNo r (sNo r (sNo r (sNo r (sNo r (s (xPkTB r r) (s (xMvB r) (sNo r (sNo r (sNo r (sNo r (s (xPkTB r r) (n ?_)))))))))))))
  refine wIfT r (q (g (s (xAsB r) (n (wRt ?_)))))
  obtain rfl:=sm b
  refine resV1 r (rdT r) ?_
  exact ⟨r,(a.ad [] [])⟩
 rw [decide_eq_false h8]
 refine sGo r (s (f30_2 r) (sGo r (s (l27 r (a.bk 0 r) r) ?_)))
 obtain ⟨e9,D,b⟩:=bs b
 obtain ⟨k9,K,D⟩:=ix_inv D
 obtain ⟨ai,a0,a⟩:=a.nm 2 rfl D
 obtain ⟨L,M,rfl,N⟩:=a0
 replace a:=a.dadd (d:=.l L M e9) N
 refine sGo r (s (xIdR u27_ ti60 r r K (a.dl 4 r) D) (sGo r (s (xLoad u60_ r r ((a.dc 1 r) 0 _ r)) (sGo r (s (xLnR u60_ r) (sGo r (s (xNeqD r r) (s (xPkFB r r) (s (xMvB r) ?_)))))))))
 rcases iv b with ⟨Q,b⟩|⟨Q,b⟩
 ·rw [decide_eq_true Q]
  refine sNo r (sNo r (sNo r (sNo r (s (xPkTB r r) (n (wIfT r (q (g (s (xAsB r) (n (wRt ?_)))))))))))
  obtain rfl:=sm b
  refine resV1 r (rdT r) ?_
  exact ⟨r,(a.ad [] [])⟩
 rw [decide_eq_false Q]
 refine sGo r (s (f30_3 r) (sGo r (s (l28 r (a.bk 0 r) r) (sGo r (s (xLnR u28_ r) (sGo r (s (xNeqD r r) (s (xPkFB r r) (n ?_)))))))))
 rcases iv b with ⟨R,b⟩|⟨R,b⟩
 ·refine wIfT (bt R) (q (g (s (xAsB r) (n (wRt ?_)))))
  obtain rfl:=sm b
  refine resV1 r (rdT r) ?_
  exact ⟨r,(a.ad [] [])⟩
 refine wIfF (bf R) (wk (q (g (s (xLoadS [Z e c.Program.Records f,Z j c.Program.Funcs m,Z o c.Vars p,Z t c.Stmts u] u30_ r ti30 r r (Cells.part (a.bk 0 r).cells (o2:=0) r)) ?_))))
 obtain ⟨⟨a3,a4⟩,a5,b⟩:=bs b
 replace b:=pi b
 have hc:=(sp_checker_Find fu) (a.pr [] [0,1] [2,3,4,5] r)  a5
 refine sc (ec cal29 r) hc ?_
 rintro _ an ⟨rfl,I⟩
 replace a:=a.cl [] [0,1] r I r
 try dsimp only [pick,nth,ca,na] at a
 refine s xMove (s (xExtract r r) (s (xExtract r r) (s (xi r) (s (xAsB r) (n (q (g (s (f30_2 r) (s (l27 r (a.bk 0 r) r) (s (xIdR u27_ ti60 r r K (a.dl 4 r) D) (s (xLoad u60_ r r ((a.dc 1 r) 0 _ r)) ?_)))))))))))
 obtain ⟨v,C,b⟩:=bs b
 obtain ⟨ao,J,C⟩:=ix_inv C
 refine s (xIdR u60_ ti59 r r J (a.dl 0 r) C) (s (f59_5 r) (s (xLoad u3_ r r ((elF (ds:=[T v.Name,V v.Kind,V v.Record,V v.Words,.bool v.Param,V v.From,V v.To]) (a.dl 0 r) C (fun _ h=>h)) 5 _ r)) (s (xEqlD r r) (s (xMvB r) ?_))))
 rcases iv b with ⟨S,b⟩|⟨S,b⟩
 ·rw [decide_eq_true S]
  refine sGo r (s (f30_2 r) (sGo r (s (l27 r (a.bk 0 r) r) (sGo r (s (xIdR u27_ ti60 r r K (a.dl 4 r) D) (sGo r (s (xLoad u60_ r r ((a.dc 1 r) 0 _ r)) (sGo r (s (xIdR u60_ ti59 r r J (a.dl 0 r) C) (sGo r (s (f59_6 r) (sGo r (s (xLoad u3_ r r ((elF (ds:=[T v.Name,V v.Kind,V v.Record,V v.Words,.bool v.Param,V v.From,V v.To]) (a.dl 0 r) C (fun _ h=>h)) 6 _ r)) ?_)))))))))))))
  refine sGo r (s (xEqlD r r) (s (xPkTB r r) (s (xMvB r) ?_)))
  rcases iv b with ⟨U,b⟩|⟨U,b⟩
  ·rw [decide_eq_true U]
   refine sGo r (s (xLoadS [Z e c.Program.Records f,Z j c.Program.Funcs m,Z o c.Vars p,Z t c.Stmts u] u30_ r ti30 r r (Cells.part (a.bk 0 r).cells (o2:=0) r)) ?_)
   obtain ⟨W,a6,b⟩:=bs b
   refine sGo r ?_
   have hc:=(sp_checker_Visible fu) (a.pr [] [0,1] [2,3,4,5] r)  a6
   refine sc (ec cal31 r) hc ?_
   rintro _ ap ⟨E,F,Y,rfl,I⟩
   have a7:=a.chg.size
   replace a:=a.cl [] [0,1] r I r
   try dsimp only [pick,nth,ca,na] at a
   replace a:=a.reb 0 w0.heap.size r a7
   try dsimp only [List.set] at a
   refine sGo r (sTo (aRowB a [[V 0]] ([0]:List Int) (bs22_1_a r) r r (by decide) ⟨r,y⟩) ?_)
   rintro _ aq ⟨a8,rfl,a⟩
   obtain ⟨a9,aa,b⟩:=bs b
   refine sGo r ?_
   have hc:=(sp_same_int fu) (Pre.all (Dc:=[.l E F W,.l (ad a8) 1 ([0]:List Int)]) (dcons ((a.vw 1 1 r r)).all (dcons ((a.vw 0 0 r r)).all dnil))) aa
   refine sc (ec cal21 r) hc ?_
   rintro _ ar ⟨rfl,I⟩
   replace a:=a.ext I.ex
   refine s (xPkTB r r) (s (xMvB r) ?_)
   rcases iv b with ⟨H,b⟩|⟨H,b⟩
   ·rw [H]
    refine sGo r (s (mi r) (sGo r (s (xEqlD r r) (s (xPkTB r r) (s (xMvB r) ?_)))))
    rcases iv b with ⟨X,b⟩|⟨X,b⟩
    ·rw [decide_eq_true X]
     refine sGo r (s (xMvB r) (s (xPkTB r r) (s (xAsB r) (n (wRt ?_)))))
     obtain rfl:=sm b
     refine resV1 r (rdT r) ?_
     exact ⟨r,(a.ad [] [])⟩
    rw [decide_eq_false X]
    refine sNo r (s (xPkFB r r) (s (xAsB r) (n (wRt ?_))))
    obtain rfl:=sm b
    refine resV1 r (rdT r) ?_
    exact ⟨r,(a.ad [] [])⟩
   replace H:=nt H
   rw [H]
   refine sNo r (sNo r (s (xPkFB r r) (s (xMvB r) (sNo r (s (xPkFB r r) (s (xAsB r) (n (wRt ?_))))))))
   obtain rfl:=sm b
   refine resV1 r (rdT r) ?_
   exact ⟨r,(a.ad [] [])⟩
  rw [decide_eq_false U]
  refine sNo r (sNo r (sNo r (sNo r (s (xPkFB r r) (s (xMvB r) (sNo r (sNo r (s (xPkFB r r) (s (xMvB r) (sNo r (s (xPkFB r r) (s (xAsB r) (n ?_)))))))))))))
  refine wRt ?_
  obtain rfl:=sm b
  refine resV1 r (rdT r) ?_
  exact ⟨r,(a.ad [] [])⟩
 rw [decide_eq_false S]
 refine sNo r (sNo r (sNo r (sNo r (sNo r (sNo r (sNo r (sNo r (s (xPkFB r r) (s (xMvB r) (sNo r (sNo r (sNo r (sNo r ?_)))))))))))))
 refine s (xPkFB r r) (s (xMvB r) (sNo r (sNo r (s (xPkFB r r) (s (xMvB r) (sNo r (s (xPkFB r r) (s (xAsB r) (n (wRt ?_))))))))))
 obtain rfl:=sm b
 refine resV1 r (rdT r) ?_
 exact ⟨r,(a.ad [] [])⟩
def Ct_l04_CheckerVisible (m:(List Int)→Int→Int→BA→Option (Bool)):Prop:=∀ {c:World} {j:Nat→Prop} {d:(List Int)} {e:Int} {f:Int} {h:BA} {a:Option Addr} {b:Nat} {i:Bool},Pre c j [] [.l a b d]→m d e f h=some i→
 Calls Try.prog 9 #[Z a d b,V e,V f,T h] c (Ret fun v w=>v=.bool i∧Bx c w j (Gof []) [] [])
def m_l04_CheckerVisible_L0 (fu:Nat)(c:GSource) (b:Int):Nat→Int→Option (Ld (Int) (Bool))
 | 0,_=>none
 | h+1,a=>
 if a < (c.Stmts.length:Int) then
  (m_checker_Visible fu c b a).bind fun d=>
  (m_r04_Visible fu c b a).bind fun e=>
  (m_same_int fu d e).bind fun f=>
  if (!f)=true then
   some (.out false)
  else
   m_l04_CheckerVisible_L0 fu c b h (wr (a+1))
 else
  some (.go a)
def m_l04_CheckerVisible (fu:Nat)(w:(List Int)) (p:Int)(u:Int)(v:BA):Option (Bool):=
 (m_kit_Checked fu w).bind fun x=>
 pel x fun a h=>
 if (!h)=true then
  (m_l04_known fu).bind fun i=>
  some i
 else
  (m_checker_Find fu a v).bind fun x=>
  pel x fun j k=>
  (m_r04_Find fu a v).bind fun x=>
  pel x fun l m=>
  if j≠l then
   some false
  else
   if ¬ k=m then
    some false
   else
    (m_checker_Visible fu a p u).bind fun b=>
    (m_r04_Visible fu a p u).bind fun c=>
    (m_same_int fu b c).bind fun d=>
    if (!d)=true then
     some false
    else
     (m_kit_Mod fu p (a.Vars.length:Int)).bind fun e=>
     (m_l04_CheckerVisible_L0 fu a e fu 0).bind fun x=>x.el (fun t=>
     (m_l04_known fu).bind fun f=>
     some f
     ) (fun o=>some o)
theorem sp_l04_CheckerVisible (fu:Nat):Ct_l04_CheckerVisible (m_l04_CheckerVisible fu):=by
 intro w0 aZ x0 x1 x2 x3 N Q r0 hP v
 unfold m_l04_CheckerVisible at v
 have b:=hP.bx
 clear hP
 generalize hG:Gof _=G at b ⊢
 refine cf Try.func9 r ?_
 refine wCut [(0,Z N x0 Q),(1,V x1),(2,V x2),(3,T x3)] ⟨r,r,r,r,y⟩ fun b0=>?_
 refine q (g (s (xAsB r) (n (q (g (s (xMvS r) ?_))))))
 obtain ⟨⟨a,ar⟩,h1,v⟩:=bs v
 replace v:=pi v
 have hc:=(sp_kit_Checked fu) (b.pr [] [] [0] r)  h1
 refine sc (ec cal13 r) hc ?_
 rintro _ w1 ⟨c,d,e,h,j,m,o,p,rfl,z⟩
 replace b:=b.cl [] [] r z r
 try dsimp only [pick,nth,ca,na] at b
 refine s xMove (s (xExtract r r) (s (xExtract r r) (sTo (aNewB b (mAlloc ti30)) ?_)))
 rintro _ w2 ⟨b2,rfl,b⟩
 refine sTs (tb b 0 [Z c a.Program.Records d,Z e a.Program.Funcs h,Z j a.Vars m,Z o a.Stmts p] r ti30 r r r r r (show _=#[Z c a.Program.Records d,Z e a.Program.Funcs h,Z j a.Vars m,Z o a.Stmts p] from r)) ?_
 intro w3 b
 try dsimp only [List.set] at b
 refine s (xAsB r) (n (q (q (g (s (xMvB r) (s (xNot r) (n ?_)))))))
 rcases iv v with ⟨h4,v⟩|⟨h4,v⟩
 ·refine wIfT (cb h4) (q (g ?_))
  obtain ⟨au,h5,v⟩:=bs v
  have hc:=(sp_l04_known fu) (b.pr [] [0] [] r)  h5
  refine sc (ec cal28 r) hc ?_
  rintro _ w5 ⟨rfl,z⟩
  replace b:=b.cl [] [0] r z r
  try dsimp only [pick,nth,ca,na] at b
  refine s (xAsB r) (n (wRt ?_))
  obtain rfl:=sm v
  refine resV1 r (rdT r) ?_
  exact ⟨r,(b.ad [] [])⟩
 replace h4:=nt h4
 refine wIfF (cb h4) (wk (q (g (s (xLoadS [Z c a.Program.Records d,Z e a.Program.Funcs h,Z j a.Vars m,Z o a.Stmts p] u30_ r ti30 r r (Cells.part (b.bk 0 r).cells (o2:=0) r)) (s (xMvT r) ?_)))))
 obtain ⟨⟨av,aw⟩,h6,v⟩:=bs v
 replace v:=pi v
 have hc:=(sp_checker_Find fu) (b.pr [] [0] [0,1,2,3] r)  h6
 refine sc (ec cal29 r) hc ?_
 rintro _ w6 ⟨rfl,z⟩
 replace b:=b.cl [] [0] r z r
 try dsimp only [pick,nth,ca,na] at b
 refine s xMove (s (xExtract r r) (s (xExtract r r) (s (xi r) (s (xAsB r) (n (q (g (s (xLoadS [Z c a.Program.Records d,Z e a.Program.Funcs h,Z j a.Vars m,Z o a.Stmts p] u30_ r ti30 r r (Cells.part (b.bk 0 r).cells (o2:=0) r)) (s (xMvT r) ?_)))))))))
 obtain ⟨⟨ax,ay⟩,h7,v⟩:=bs v
 replace v:=pi v
 have hc:=(sp_r04_Find fu) (b.pr [] [0] [0,1,2,3] r)  h7
 refine sc (ec cal30 r) hc ?_
 rintro _ w7 ⟨rfl,z⟩
 replace b:=b.cl [] [0] r z r
 try dsimp only [pick,nth,ca,na] at b
 refine s xMove (s (xExtract r r) (s (xExtract r r) (s (xi r) (s (xAsB r) (n (q (q (wDr1 b [0] [] [] (by kernel_rfl) ?_))))))))
 replace b:=b.drew
 have t:=(b.dp [])
 refine pF 0 r (mi r) t (pF 1 r (mi r) t (pF 2 r (xNeqD r r) t (pF 3 r (xMvB r) t ?_)))
 rcases iv v with ⟨h8,v⟩|⟨h8,v⟩
 ·rw [decide_eq_true h8]
  have t:=(b.dp [])
  refine hSkip' 4 r (by kernel_rfl) r (sF t) (hSkip' 5 r (by kernel_rfl) r (sF t) (hSkip' 6 r (by kernel_rfl) r (sF t) (pF 7 r (xPkTB r r) t (pF 8 r (xMvB r) t (hSkip' 9 r (by kernel_rfl) r (sF t) (hSkip' 10 r (by kernel_rfl) r (sF t) (hSkip' 11 r (by kernel_rfl) r (sF t) (hSkip' 12 r (by kernel_rfl) r (sF t) (hSkip' 13 r (by kernel_rfl) r (sF t) (hSkip' 14 r (by kernel_rfl) r (sF t) (hSkip' 15 r (by kernel_rfl) r (sF t) (hSkip' 16 r (by kernel_rfl) r (sF t) (hSkip' 17 r (by kernel_rfl) r (sF t) ?_)))))))))))))
  refine hSkip' 18 r (by kernel_rfl) r (sF t) (pF 19 r (xPkTB r r) t (hD (wIfT r (q (g (s (xAsB r) (n (wRt ?_))))))))
  obtain rfl:=sm v
  refine resV1 r (rdT r) ?_
  exact ⟨r,(b.ad [] [])⟩
 rw [decide_eq_false h8]
 have t:=(b.dp [])
 refine pF 4 r (xMvB r) t (pF 5 r (xMvB r) t (pF 6 r (xNeB u4_ r r) t (pF 7 r (xPkFB r r) t (pF 8 r (xMvB r) t ?_))))
 rcases iv v with ⟨h9,v⟩|⟨h9,v⟩
 ·rw [decide_eq_true h9]
  have t:=(b.dp [])
  refine hSkip' 9 r (by kernel_rfl) r (sF t) (hSkip' 10 r (by kernel_rfl) r (sF t) (hSkip' 11 r (by kernel_rfl) r (sF t) (hSkip' 12 r (by kernel_rfl) r (sF t) (hSkip' 13 r (by kernel_rfl) r (sF t) (hSkip' 14 r (by kernel_rfl) r (sF t) (hSkip' 15 r (by kernel_rfl) r (sF t) (hSkip' 16 r (by kernel_rfl) r (sF t) (hSkip' 17 r (by kernel_rfl) r (sF t) (hSkip' 18 r (by kernel_rfl) r (sF t) (pF 19 r (xPkTB r r) t (hD (wIfT r (q ?_)))))))))))))
  refine g (s (xAsB r) (n (wRt ?_)))
  obtain rfl:=sm v
  refine resV1 r (rdT r) ?_
  exact ⟨r,(b.ad [] [])⟩
 rw [decide_eq_false h9]
 have t:=(b.dp [])
 refine uF 9 r (fun hS=>xLoadS [Z c a.Program.Records d,Z e a.Program.Funcs h,Z j a.Vars m,Z o a.Stmts p] u30_ r ti30 r r (Cells.part (hS.bk 0 r).cells (o2:=0) r)) t (pF 10 r (mi r) t (pF 11 r (mi r) t (uF 13 r (fun hS=>xLoadS [Z c a.Program.Records d,Z e a.Program.Funcs h,Z j a.Vars m,Z o a.Stmts p] u30_ r ti30 r r (Cells.part (hS.bk 0 r).cells (o2:=0) r)) t (pF 14 r (mi r) t (pF 15 r (mi r) t ?_)))))
 obtain ⟨R,af,v⟩:=bs v
 have hc:=(sp_checker_Visible fu) (b.pr [] [0] [0,1,2,3] r)  af
 refine hO 12 (oc r r (ec cal31 r) hc ?_)
 rintro _ aH ⟨B,C,a1,rfl,z⟩
 have A:=b.chg.size
 replace b:=b.cl [] [0] r z r
 try dsimp only [pick,nth,ca,na] at b
 replace b:=b.reb 0 w0.heap.size r A
 try dsimp only [List.set] at b
 have t:=(b.ad [1] [])
 refine ⟨(sF t),?_⟩
 obtain ⟨S,ag,v⟩:=bs v
 have hc:=(sp_r04_Visible fu) (b.pr [] [0,1] [1,2,3,4] r)  ag
 refine hO 16 (oc r r (ec cal22 r) hc ?_)
 rintro _ aI ⟨D,E,a2,rfl,z⟩
 have A:=b.chg.size
 replace b:=b.cl [] [0,1] r z r
 try dsimp only [pick,nth,ca,na] at b
 replace b:=b.reb 0 w0.heap.size r A
 try dsimp only [List.set] at b
 have t:=(b.ad [2] [])
 refine ⟨(sF t),?_⟩
 obtain ⟨ah,ai,v⟩:=bs v
 have hc:=(sp_same_int fu) (Pre.all (Dc:=[.l B C R,.l D E S]) (dcons ((b.vw 1 1 r r)).all (dcons ((b.vw 0 0 r r)).all dnil))) ai
 refine hO 17 (oc r r (ec cal21 r) hc ?_)
 rintro _ aJ ⟨rfl,z⟩
 replace b:=b.ext z.ex
 have t:=(b.ad [2] [])
 refine ⟨(sF t),?_⟩
 refine pF 18 r (xNot r) t (pF 19 r (xPkFB r r) t (hD ?_))
 rcases iv v with ⟨K,v⟩|⟨K,v⟩
 ·refine wIfT (cb K) (q (g (s (xAsB r) (n (wRt ?_)))))
  obtain rfl:=sm v
  refine resV1 r (rdT r) ?_
  exact ⟨r,(b.ad [] [])⟩
 replace K:=nt K
 refine wIfF (cb K) (wk (q (g (s (mi r) (s (f30_2 r) (s (l27 r (b.bk 2 r) r) (s (xLnR u27_ r) ?_)))))))
 obtain ⟨L,aj,v⟩:=bs v
 have hc:=(sp_kit_Mod fu) (b.pr [] [0,1,2] [] r)  aj
 refine sc (ec cal16 r) hc ?_
 rintro _ aK ⟨rfl,z⟩
 replace b:=b.cl [] [0,1,2] r z r
 try dsimp only [pick,nth,ca,na] at b
 refine s (xi r) (n (q (q (g (s (xi r) (n ?_))))))
 obtain ⟨a7,u,v⟩:=bs v
 refine wJd (fun f w=>∃ (x:Int),Has f []∧Bx w0 w aZ G [.box b2 30 #[Z c a.Program.Records d,Z e a.Program.Funcs h,Z j a.Vars m,Z o a.Stmts p]] [.l c d a.Program.Records,.l e h a.Program.Funcs,.l j m a.Vars,.l o p a.Stmts]∧Ld.go x=a7) (fun aL a8=>?_) ?_
 ·refine wBk (wLoopGd (fun b1 f w=>∃ (x:Int),Has f [(9,Pt b2),(15,V L),(16,V x)]∧Bx w0 w aZ G [.box b2 30 #[Z c a.Program.Records d,Z e a.Program.Funcs h,Z j a.Vars m,Z o a.Stmts p]] [.l c d a.Program.Records,.l e h a.Program.Funcs,.l j m a.Vars,.l o p a.Stmts]∧m_l04_CheckerVisible_L0 fu a L b1 x=some a7) fu ⟨0,⟨r,r,r,y⟩,(b.ad [2] [2,3,4,5]),u⟩ ?_)
  clear b u
  rintro U f w ⟨x,hf,b,u⟩ aM a9
  obtain ⟨b0,rfl⟩:=has_updL _ _ hf
  clear hf
  cases U with
  | zero=>exact nn u
  | succ U=>
   rw [m_l04_CheckerVisible_L0] at u
   refine q (q (g (s (mi r) (s (f30_3 r) (s (l28 r (b.bk 0 r) r) (s (xLnR u28_ r) (s (xLss r r) (n ?_))))))))
   rcases iv u with ⟨W,u⟩|⟨W,u⟩
   ·refine wIfT (bt W) (wk (q (wBk (q (wDr1 b [0] [] [] (by kernel_rfl) ?_)))))
    replace b:=b.drew
    have t:=(b.dp [])
    refine uF 0 r (fun hS=>xLoadS [Z c a.Program.Records d,Z e a.Program.Funcs h,Z j a.Vars m,Z o a.Stmts p] u30_ r ti30 r r (Cells.part (hS.bk 0 r).cells (o2:=0) r)) t (pF 1 r (mi r) t (pF 2 r (mi r) t (uF 4 r (fun hS=>xLoadS [Z c a.Program.Records d,Z e a.Program.Funcs h,Z j a.Vars m,Z o a.Stmts p] u30_ r ti30 r r (Cells.part (hS.bk 0 r).cells (o2:=0) r)) t (pF 5 r (mi r) t (pF 6 r (mi r) t ?_)))))
    obtain ⟨X,ak,u⟩:=bs u
    have hc:=(sp_checker_Visible fu) (b.pr [] [0] [0,1,2,3] r)  ak
    refine hO 3 (oc r r (ec cal31 r) hc ?_)
    rintro _ aN ⟨F,H,a3,rfl,z⟩
    have A:=b.chg.size
    replace b:=b.cl [] [0] r z r
    try dsimp only [pick,nth,ca,na] at b
    replace b:=b.reb 0 w0.heap.size r A
    try dsimp only [List.set] at b
    have t:=(b.ad [1] [])
    refine ⟨(sF t),?_⟩
    obtain ⟨Y,al,u⟩:=bs u
    have hc:=(sp_r04_Visible fu) (b.pr [] [0,1] [1,2,3,4] r)  al
    refine hO 7 (oc r r (ec cal22 r) hc ?_)
    rintro _ aO ⟨I,J,a4,rfl,z⟩
    have A:=b.chg.size
    replace b:=b.cl [] [0,1] r z r
    try dsimp only [pick,nth,ca,na] at b
    replace b:=b.reb 0 w0.heap.size r A
    try dsimp only [List.set] at b
    have t:=(b.ad [2] [])
    refine ⟨(sF t),?_⟩
    obtain ⟨am,an,u⟩:=bs u
    have hc:=(sp_same_int fu) (Pre.all (Dc:=[.l F H X,.l I J Y]) (dcons ((b.vw 1 1 r r)).all (dcons ((b.vw 0 0 r r)).all dnil))) an
    refine hO 8 (oc r r (ec cal21 r) hc ?_)
    rintro _ aP ⟨rfl,z⟩
    replace b:=b.ext z.ex
    have t:=(b.ad [2] [])
    refine ⟨(sF t),?_⟩
    refine pF 9 r (xNot r) t (hD ?_)
    rcases iv u with ⟨M,u⟩|⟨M,u⟩
    ·refine wIfT (cb M) (q (g (s (xAsB r) (n (wRt ?_)))))
     obtain rfl:=sm u
     replace v:=oi v
     obtain rfl:=sm v
     refine resV1 r (rdT r) ?_
     exact ⟨r,(b.ad [] [])⟩
    replace M:=nt M
    refine wIfF (cb M) (wk (g (s (mi r) (s (xAddW r r) (s (xi r) (n ?_))))))
    exact a9 U _ _ (Nat.lt_succ_self _) ⟨(wr (x+1)),⟨r,r,r,y⟩,(b.ad [2] [2,3,4,5]),u⟩
   refine wIfF (bf W) (wEx ?_)
   exact a8 _ _ ⟨x,y,b,sm u⟩
 clear b
 rintro f w ⟨x,hf,b,aa⟩
 obtain ⟨b0,rfl⟩:=has_updL _ _ hf
 clear hf
 subst aa
 replace v:=gi v
 refine q (g ?_)
 obtain ⟨ao,ap,v⟩:=bs v
 have hc:=(sp_l04_known fu) (b.pr [] [0] [] r)  ap
 refine sc (ec cal28 r) hc ?_
 rintro _ aQ ⟨rfl,z⟩
 replace b:=b.cl [] [0] r z r
 try dsimp only [pick,nth,ca,na] at b
 refine s (xAsB r) (n (wRt ?_))
 obtain rfl:=sm v
 refine resV1 r (rdT r) ?_
 exact ⟨r,(b.ad [] [])⟩
end
end Go.Proofs.Ytfglbdkfnphjgaa
