/- Contracts, printed by gen3.py. -/
import Derived.Test.YtfglbdkfnphjgaaZt
import Derived.Test.YtfglbdkfnphjgaaLb
import Derived.Test.YtfglbdkfnphjgaaLc
import Derived.Test.YtfglbdkfnphjgaaLd
import Derived.Test.YtfglbdkfnphjgaaLg
import Derived.Test.YtfglbdkfnphjgaaLi
import Derived.Test.YtfglbdkfnphjgaaLj
set_option linter.unusedVariables false
set_option maxHeartbeats 12800000
set_option linter.unusedSimpArgs false
set_option maxRecDepth 4000
namespace Go.Proofs.Ytfglbdkfnphjgaa
open Go.RowKit Go.Fw
noncomputable section
def Ct_kit_Text (m:(List Int)→Option (BA)):Prop:=∀ {c:World} {f:Nat→Prop} {d:(List Int)} {a:Option Addr} {b:Nat} {e:BA},Pre c f [] [.l a b d]→m d=some e→
 Calls Try.prog 26 #[Z a d b] c (Ret fun v w=>v=T e∧Bx c w f (Gof []) [] [])
def m_kit_Text (fu:Nat)(c:(List Int)):Option (BA):=
 (m_kit_Program fu c).bind fun a=>
 (m_r03_Print fu a).bind fun b=>
 some b
theorem sp_kit_Text (fu:Nat):Ct_kit_Text (m_kit_Text fu):=by
 intro u A o b c v k d
 unfold m_kit_Text at d
 have a:=k.bx
 clear k
 generalize w:Gof _=G at a ⊢
 refine cf Try.func26 r ?_
 refine wCut [(0,Z b o c)] ⟨r,y⟩ fun B=>?_
 refine q (g (s (xAsT r) (n (q (g (s (xMvS r) ?_))))))
 obtain ⟨l,p,d⟩:=bs d
 have hc:=(sp_kit_Program fu) (a.pr [] [] [0] r)  p
 refine sc (ec cal43 r) hc ?_
 rintro _ x ⟨e,f,h,i,rfl,j⟩
 replace a:=a.cl [] [] r j r
 try dsimp only [pick,nth,ca,na] at a
 obtain ⟨m,t,d⟩:=bs d
 have hc:=(sp_r03_Print fu) (a.pr [] [] [0,1] r)  t
 refine sc (ec cal42 r) hc ?_
 rintro _ z ⟨rfl,j⟩
 replace a:=a.cl [] [] r j r
 try dsimp only [pick,nth,ca,na] at a
 refine s (xAsT r) (n (wRt ?_))
 obtain rfl:=sm d
 refine resV1 r (rdT r) ?_
 exact ⟨r,(a.dp [])⟩
def Ct_kit_Checked (m:(List Int)→Option (GSource × Bool)):Prop:=∀ {p:World} {x:Nat→Prop} {t:(List Int)} {a:Option Addr} {b:Nat} {R:GSource × Bool},Pre p x [] [.l a b t]→m t=some R→
 Calls Try.prog 13 #[Z a t b] p (Ret fun v w=>pel R fun o u=>∃ (c:OA)(d:Nat)(e:OA)(f:Nat)(h:OA)(i:Nat)(j:OA)(k:Nat),v=.tuple #[.agg #[Z c o.Program.Records d,Z e o.Program.Funcs f,Z h o.Vars i,Z j o.Stmts k],.bool u]∧Bx p w x (Gof []) [] [.l c d o.Program.Records,.l e f o.Program.Funcs,.l h i o.Vars,.l j k o.Stmts])
def m_kit_Checked (fu:Nat)(j:(List Int)):Option (GSource × Bool):=
 (m_kit_Short fu j).bind fun c=>
 (m_kit_Text fu c).bind fun d=>
 (m_r03_Parse fu d).bind fun k=>
 pel k fun e k=>pel k fun i f=>
 if f≠0 then
  some ((⟨(⟨([]:List Gr),([]:List Gn)⟩:GProgram),([]:List (List Gv)),([]:List Gi)⟩:GSource),false)
 else
  (m_r04_Check fu e).bind fun k=>
  pel k fun a k=>pel k fun h b=>
  some (a,(decide (b=0)))
theorem sp_kit_Checked (fu:Nat):Ct_kit_Checked (m_kit_Checked fu):=by
 intro w0 ae N x z R I v
 unfold m_kit_Checked at v
 have b:=I.bx
 clear I
 generalize hG:Gof _=G at b ⊢
 refine cf Try.func13 r ?_
 refine wCut [(0,Z x N z)] ⟨r,y⟩ fun af=>?_
 refine q (g (sTo (aNewB b (mAlloc ti30)) ?_))
 rintro _ w1 ⟨b1,rfl,b⟩
 refine s (xAsB r) (n (q (g (s (xMvS r) ?_))))
 obtain ⟨J,Q,v⟩:=bs v
 have hc:=(sp_kit_Short fu) (b.pr [] [0] [0] r)  Q
 refine sc (ec cal27 r) hc ?_
 rintro _ w2 ⟨B,C,rfl,A⟩
 replace b:=b.cl [] [0] r A r
 try dsimp only [pick,nth,ca,na] at b
 obtain ⟨K,S,v⟩:=bs v
 have hc:=(sp_kit_Text fu) (b.pr [] [0] [0] r)  S
 refine sc (ec cal26 r) hc ?_
 rintro _ w3 ⟨rfl,A⟩
 replace b:=b.cl [] [0] r A r
 try dsimp only [pick,nth,ca,na] at b
 obtain ⟨⟨w,L,M⟩,U,v⟩:=bs v
 replace v:=pi v
 replace v:=pi v
 have hc:=(sp_r03_Parse fu) (b.pr [] [0] [] r)  U
 refine sc (ec cal32 r) hc ?_
 rintro _ w4 ⟨o,p,t,u,rfl,A⟩
 replace b:=b.cl [] [0] r A r
 try dsimp only [pick,nth,ca,na] at b
 refine s xMove (s (xExtract r r) (s (xExtract r r) (s (xExtract r r) (sTo (aNewB b (mAlloc ti26)) ?_))))
 rintro _ w5 ⟨b5,rfl,b⟩
 refine sTs (tb b 0 [Z o w.Records p,Z t w.Funcs u] r ti26 r r r r r (show _=#[Z o w.Records p,Z t w.Funcs u] from r)) ?_
 intro w6 b
 try dsimp only [List.set] at b
 refine s (xi r) (s (xi r) (n (q (q (g (s (mi r) (s (xNeqD r r) (n ?_))))))))
 rcases iv v with ⟨D,v⟩|⟨D,v⟩
 ·refine wIfT (bt D) (q (g (s bd30_ (sTs (tb b 1 [sn,sn,sn,sn] r ti30 r r r r r (show _=#[sn,sn,sn,sn] from r)) ?_))))
  intro w8 b
  try dsimp only [List.set] at b
  refine s (xAsB r) (n (wRt ?_))
  replace b:=b.dadd (d:=.l none 0 ([]:List Gr)) ln_
  replace b:=b.dadd (d:=.l none 0 ([]:List Gn)) ln_
  replace b:=b.dadd (d:=.l none 0 ([]:List (List Gv))) ln_
  replace b:=b.dadd (d:=.l none 0 ([]:List Gi)) ln_
  obtain rfl:=sm v
  refine resV2 r (rdA r u30_ r ti30 r (b.bk 1 r)) (rdT r) ?_
  exact pok (⟨none,0,none,0,none,0,none,0,r,((b.arr [] r).dp [3,2,1,0])⟩)
 refine wIfF (bf D) (wk (q (g (s (xLoadS [Z o w.Records p,Z t w.Funcs u] u26_ r ti26 r r (Cells.part (b.bk 0 r).cells (o2:=0) r)) ?_))))
 obtain ⟨⟨a,E,F⟩,H,v⟩:=bs v
 replace v:=pi v
 replace v:=pi v
 have hc:=(sp_r04_Check fu) (b.pr [] [0,1] [0,1] r)  H
 refine sc (ec cal36 r) hc ?_
 rintro _ X ⟨c,e,f,h,i,j,k,m,rfl,A⟩
 replace b:=b.cl [] [0,1] r A r
 try dsimp only [pick,nth,ca,na] at b
 refine s xMove (s (xExtract r r) (s (xExtract r r) (s (xExtract r r) (sTo (aNewB b (mAlloc ti30)) ?_))))
 rintro _ Y ⟨a0,rfl,b⟩
 refine sTs (tb b 0 [Z c a.Program.Records e,Z f a.Program.Funcs h,Z i a.Vars j,Z k a.Stmts m] r ti30 r r r r r (show _=#[Z c a.Program.Records e,Z f a.Program.Funcs h,Z i a.Vars j,Z k a.Stmts m] from r)) ?_
 intro a1 b
 try dsimp only [List.set] at b
 refine s (xi r) (s (xi r) (n (q (g (s (xLoadS [Z c a.Program.Records e,Z f a.Program.Funcs h,Z i a.Vars j,Z k a.Stmts m] u30_ r ti30 r r (Cells.part (b.bk 0 r).cells (o2:=0) r)) (s (mi r) (s (xEqlD r r) (sTs (tb b 2 [Z c a.Program.Records e,Z f a.Program.Funcs h,Z i a.Vars j,Z k a.Stmts m] r ti30 r r r r r (show _=#[Z c a.Program.Records e,Z f a.Program.Funcs h,Z i a.Vars j,Z k a.Stmts m] from r)) ?_))))))))
 intro a2 b
 try dsimp only [List.set] at b
 refine s (xAsB r) (n (wRt ?_))
 obtain rfl:=sm v
 refine resV2 r (rdA r u30_ r ti30 r (b.bk 2 r)) (rdT r) ?_
 exact pok (⟨c,e,f,h,i,j,k,m,r,((b.arr [] r).dp [0,1,2,3])⟩)
def Ct_l04_known (m:Option (Bool)):Prop:=∀ {a:World} {c:Nat→Prop}  {b:Bool},Pre a c [] []→m=some b→
 Calls Try.prog 28 #[] a (Ret fun v w=>v=.bool b∧Bx a w c (Gof []) [] [])
def m_l04_known (fu:Nat):Option (Bool):=
 (m_r03_Parse fu (⟨#[102,117,110,99,32,102,40,97,41,32,123,32,118,97,114,32,116,58,32,105,110,116,59,32,116,32,61,32,97,59,32,125]⟩:BA)).bind fun o=>
 pel o fun f o=>pel o fun j k=>
 (m_checker_Check fu f).bind fun o=>
 pel o fun a o=>pel o fun l h=>
 if h≠0 then
  some false
 else
  if (a.Vars.length:Int)≠1 then
   some false
  else
   (ix a.Vars 0).bind fun m=>
   if (m.length:Int)≠2 then
    some false
   else
    if (a.Stmts.length:Int)≠3 then
     some false
    else
     (m_checker_Find fu a (⟨#[102]⟩:BA)).bind fun o=>
     pel o fun b c=>
     (ix m 1).bind fun i=>
     if i.From=1 then
      if i.To=2 then
       (m_checker_Visible fu a 0 0).bind fun d=>
       (m_same_int fu d ([0]:List Int)).bind fun e=>
       if e=true then
        if b=0 then
         some c
        else
         some false
       else
        some false
      else
       some false
     else
      some false
theorem sp_l04_known (fu:Nat):Ct_l04_known (m_l04_known fu):=by
 intro w0 aF r0 hP b
 unfold m_l04_known at b
 have a:=hP.bx
 clear hP
 generalize hG:Gof _=G at a ⊢
 refine cf Try.func28 r ?_
 refine wCut [] y fun aG=>?_
 refine q (g (s (xAsB r) (n (q (g ?_)))))
 obtain ⟨⟨B,ac,ae⟩,h1,b⟩:=bs b
 replace b:=pi b
 replace b:=pi b
 have hc:=(sp_r03_Parse fu) (a.pr [] [] [] r)  h1
 refine sc (ec cal32 r) hc ?_
 rintro _ w1 ⟨w,x,z,A,rfl,I⟩
 replace a:=a.cl [] [] r I r
 try dsimp only [pick,nth,ca,na] at a
 refine s xMove (s (xExtract r r) (s (xExtract r r) (s (xExtract r r) (sTo (aNewB a (mAlloc ti26)) ?_))))
 rintro _ w2 ⟨b2,rfl,a⟩
 refine sTs (tb a 0 [Z w B.Records x,Z z B.Funcs A] r ti26 r r r r r (show _=#[Z w B.Records x,Z z B.Funcs A] from r)) ?_
 intro w3 a
 try dsimp only [List.set] at a
 refine s (xi r) (s (xi r) (n (q (g (s (xLoadS [Z w B.Records x,Z z B.Funcs A] u26_ r ti26 r r (Cells.part (a.bk 0 r).cells (o2:=0) r)) ?_)))))
 obtain ⟨⟨c,ag,ah⟩,h4,b⟩:=bs b
 replace b:=pi b
 replace b:=pi b
 have hc:=(sp_checker_Check fu) (a.pr [] [0] [0,1] r)  h4
 refine sc (ec cal33 r) hc ?_
 rintro _ w4 ⟨e,f,j,m,o,p,t,u,rfl,I⟩
 replace a:=a.cl [] [0] r I r
 try dsimp only [pick,nth,ca,na] at a
 refine s xMove (s (xExtract r r) (s (xExtract r r) (s (xExtract r r) (sTo (aNewB a (mAlloc ti30)) ?_))))
 rintro _ w5 ⟨b5,rfl,a⟩
 refine sTs (tb a 0 [Z e c.Program.Records f,Z j c.Program.Funcs m,Z o c.Vars p,Z t c.Stmts u] r ti30 r r r r r (show _=#[Z e c.Program.Records f,Z j c.Program.Funcs m,Z o c.Vars p,Z t c.Stmts u] from r)) ?_
 intro w6 a
 try dsimp only [List.set] at a
 refine s (xi r) (s (xi r) (n (q (q (g (s (mi r) (s (xNeqD r r) (s (xMvB r) ?_))))))))
 rcases iv b with ⟨h7,b⟩|⟨h7,b⟩
 ·rw [decide_eq_true h7]
  refine sNo r (sNo r (sNo r (sNo r (s (xPkTB r r) (s (xMvB r) (sNo r (sNo r (sNo r (sNo r (sNo r (sNo r (s (xPkTB r r) (s (xMvB r) ?_)))))))))))))
  refine sNo r (sNo r (sNo r (sNo r (s (xPkTB r r) (n (wIfT r (q (g (s (xAsB r) (n (wRt ?_)))))))))))
  obtain rfl:=sm b
  refine resV1 r (rdT r) ?_
  exact ⟨r,((a.arr [] r).dp [])⟩
 rw [decide_eq_false h7]
 refine sGo r (s (f30_2 r) (sGo r (s (l27 r (a.bk 0 r) r) (sGo r (s (xLnR u27_ r) (sGo r (s (xNeqD r r) (s (xPkFB r r) (s (xMvB r) ?_)))))))))
 rcases iv b with ⟨h8,b⟩|⟨h8,b⟩
 ·rw [decide_eq_true h8]
  refine sNo r (sNo r (sNo r (sNo r (sNo r (sNo r (s (xPkTB r r) (s (xMvB r) (sNo r (sNo r (sNo r (sNo r (s (xPkTB r r) (n ?_)))))))))))))
  refine wIfT r (q (g (s (xAsB r) (n (wRt ?_)))))
  obtain rfl:=sm b
  refine resV1 r (rdT r) ?_
  exact ⟨r,((a.arr [] r).dp [])⟩
 rw [decide_eq_false h8]
 refine sGo r (s (f30_2 r) (sGo r (s (l27 r (a.bk 0 r) r) ?_)))
 obtain ⟨e9,D,b⟩:=bs b
 obtain ⟨k9,K,D⟩:=ix_inv D
 obtain ⟨ai,a0,a⟩:=a.nm 2 rfl D
 obtain ⟨L,M,rfl,N⟩:=a0
 replace a:=a.dadd (d:=.l L M e9) N
 refine sGo r (s (xIdR u27_ ti60 r r K (a.dl 4 r) D) (sGo r (s (xLoad u60_ r r ((a.dc 1 r) 0 _ r)) (sGo r (s (xLnR u60_ r) (sGo r (s (xNeqD r r) (s (xPkFB r r) (s (xMvB r) ?_)))))))))
 rcases iv b with ⟨Q,b⟩|⟨Q,b⟩
 ·rw [decide_eq_true Q]
  refine sNo r (sNo r (sNo r (sNo r (s (xPkTB r r) (n (wIfT r (q (g (s (xAsB r) (n (wRt ?_)))))))))))
  obtain rfl:=sm b
  refine resV1 r (rdT r) ?_
  exact ⟨r,((a.arr [] r).dp [])⟩
 rw [decide_eq_false Q]
 refine sGo r (s (f30_3 r) (sGo r (s (l28 r (a.bk 0 r) r) (sGo r (s (xLnR u28_ r) (sGo r (s (xNeqD r r) (s (xPkFB r r) (n ?_)))))))))
 rcases iv b with ⟨R,b⟩|⟨R,b⟩
 ·refine wIfT (bt R) (q (g (s (xAsB r) (n (wRt ?_)))))
  obtain rfl:=sm b
  refine resV1 r (rdT r) ?_
  exact ⟨r,((a.arr [] r).dp [])⟩
 refine wIfF (bf R) (wk (q (g (s (xLoadS [Z e c.Program.Records f,Z j c.Program.Funcs m,Z o c.Vars p,Z t c.Stmts u] u30_ r ti30 r r (Cells.part (a.bk 0 r).cells (o2:=0) r)) ?_))))
 obtain ⟨⟨a3,a4⟩,a5,b⟩:=bs b
 replace b:=pi b
 have hc:=(sp_checker_Find fu) (a.pr [] [0,1] [2,3,4,5] r)  a5
 refine sc (ec cal29 r) hc ?_
 rintro _ an ⟨rfl,I⟩
 replace a:=a.cl [] [0,1] r I r
 try dsimp only [pick,nth,ca,na] at a
 refine s xMove (s (xExtract r r) (s (xExtract r r) (s (xi r) (s (xAsB r) (n (q (g (s (f30_2 r) (s (l27 r (a.bk 0 r) r) (s (xIdR u27_ ti60 r r K (a.dl 4 r) D) (s (xLoad u60_ r r ((a.dc 1 r) 0 _ r)) ?_)))))))))))
 obtain ⟨v,C,b⟩:=bs b
 obtain ⟨ao,J,C⟩:=ix_inv C
 refine s (xIdR u60_ ti59 r r J (a.dl 0 r) C) (s (f59_5 r) (s (xLoad u3_ r r ((elF (ds:=[T v.Name,V v.Kind,V v.Record,V v.Words,.bool v.Param,V v.From,V v.To]) (a.dl 0 r) C (fun _ h=>h)) 5 _ r)) (s (xEqlD r r) (s (xMvB r) ?_))))
 rcases iv b with ⟨S,b⟩|⟨S,b⟩
 ·rw [decide_eq_true S]
  refine sGo r (s (f30_2 r) (sGo r (s (l27 r (a.bk 0 r) r) (sGo r (s (xIdR u27_ ti60 r r K (a.dl 4 r) D) (sGo r (s (xLoad u60_ r r ((a.dc 1 r) 0 _ r)) (sGo r (s (xIdR u60_ ti59 r r J (a.dl 0 r) C) (sGo r (s (f59_6 r) (sGo r (s (xLoad u3_ r r ((elF (ds:=[T v.Name,V v.Kind,V v.Record,V v.Words,.bool v.Param,V v.From,V v.To]) (a.dl 0 r) C (fun _ h=>h)) 6 _ r)) ?_)))))))))))))
  refine sGo r (s (xEqlD r r) (s (xPkTB r r) (s (xMvB r) ?_)))
  rcases iv b with ⟨U,b⟩|⟨U,b⟩
  ·rw [decide_eq_true U]
   refine sGo r (s (xLoadS [Z e c.Program.Records f,Z j c.Program.Funcs m,Z o c.Vars p,Z t c.Stmts u] u30_ r ti30 r r (Cells.part (a.bk 0 r).cells (o2:=0) r)) ?_)
   obtain ⟨W,a6,b⟩:=bs b
   refine sGo r ?_
   have hc:=(sp_checker_Visible fu) (a.pr [] [0,1] [2,3,4,5] r)  a6
   refine sc (ec cal31 r) hc ?_
   rintro _ ap ⟨E,F,Y,rfl,I⟩
   have a7:=a.chg.size
   replace a:=a.cl [] [0,1] r I r
   try dsimp only [pick,nth,ca,na] at a
   replace a:=a.reb 0 w0.heap.size r a7
   try dsimp only [List.set] at a
   refine sGo r (sTo (aRowB a [[V 0]] ([0]:List Int) (bs22_1_a r) r r (by decide) ⟨r,y⟩) ?_)
   rintro _ aq ⟨a8,rfl,a⟩
   obtain ⟨a9,aa,b⟩:=bs b
   refine sGo r ?_
   have hc:=(sp_same_int fu) (Pre.all (Dc:=[.l E F W,.l (ad a8) 1 ([0]:List Int)]) (dcons ((a.vw 1 1 r r)).all (dcons ((a.vw 0 0 r r)).all dnil))) aa
   refine sc (ec cal21 r) hc ?_
   rintro _ ar ⟨rfl,I⟩
   replace a:=a.ext I.ex
   refine s (xPkTB r r) (s (xMvB r) ?_)
   rcases iv b with ⟨H,b⟩|⟨H,b⟩
   ·rw [H]
    refine sGo r (s (mi r) (sGo r (s (xEqlD r r) (s (xPkTB r r) (s (xMvB r) ?_)))))
    rcases iv b with ⟨X,b⟩|⟨X,b⟩
    ·rw [decide_eq_true X]
     refine sGo r (s (xMvB r) (s (xPkTB r r) (s (xAsB r) (n (wRt ?_)))))
     obtain rfl:=sm b
     refine resV1 r (rdT r) ?_
     exact ⟨r,((a.arr [] r).dp [])⟩
    rw [decide_eq_false X]
    refine sNo r (s (xPkFB r r) (s (xAsB r) (n (wRt ?_))))
    obtain rfl:=sm b
    refine resV1 r (rdT r) ?_
    exact ⟨r,((a.arr [] r).dp [])⟩
   replace H:=nt H
   rw [H]
   refine sNo r (sNo r (s (xPkFB r r) (s (xMvB r) (sNo r (s (xPkFB r r) (s (xAsB r) (n (wRt ?_))))))))
   obtain rfl:=sm b
   refine resV1 r (rdT r) ?_
   exact ⟨r,((a.arr [] r).dp [])⟩
  rw [decide_eq_false U]
  refine sNo r (sNo r (sNo r (sNo r (s (xPkFB r r) (s (xMvB r) (sNo r (sNo r (s (xPkFB r r) (s (xMvB r) (sNo r (s (xPkFB r r) (s (xAsB r) (n ?_)))))))))))))
  refine wRt ?_
  obtain rfl:=sm b
  refine resV1 r (rdT r) ?_
  exact ⟨r,((a.arr [] r).dp [])⟩
 rw [decide_eq_false S]
 refine sNo r (sNo r (sNo r (sNo r (sNo r (sNo r (sNo r (sNo r (s (xPkFB r r) (s (xMvB r) (sNo r (sNo r (sNo r (sNo r ?_)))))))))))))
 refine s (xPkFB r r) (s (xMvB r) (sNo r (sNo r (s (xPkFB r r) (s (xMvB r) (sNo r (s (xPkFB r r) (s (xAsB r) (n (wRt ?_))))))))))
 obtain rfl:=sm b
 refine resV1 r (rdT r) ?_
 exact ⟨r,((a.arr [] r).dp [])⟩
def Ct_l04_CheckerNames (m:(List Int)→Option (Bool)):Prop:=∀ {c:World} {f:Nat→Prop} {d:(List Int)} {a:Option Addr} {b:Nat} {e:Bool},Pre c f [] [.l a b d]→m d=some e→
 Calls Try.prog 11 #[Z a d b] c (Ret fun v w=>v=.bool e∧Bx c w f (Gof []) [] [])
def m_l04_CheckerNames_L2 (fu:Nat)(d:GSource) (l:Gi) (c:(List Int)) (b:Int):Nat→Int→Option (Ld (Int) (Bool))
 | 0,_=>none
 | i+1,a=>
 if a < b then
  (ix d.Vars l.Func).bind fun e=>
  (ix c a).bind fun f=>
  (ix c b).bind fun h=>
  if h≤f then
   some (.out false)
  else
   (ix e f).bind fun j=>
   (ix e h).bind fun k=>
   if j.Name=k.Name then
    some (.out false)
   else
    m_l04_CheckerNames_L2 fu d l c b i (wr (a+1))
 else
  some (.go a)
def m_l04_CheckerNames_L1 (fu:Nat)(c:GSource) (f:Gi) (b:(List Int)):Nat→Int→Option (Ld (Int) (Bool))
 | 0,_=>none
 | d+1,a=>
 if a < (b.length:Int) then
  (m_l04_CheckerNames_L2 fu c f b a fu 0).bind fun h=>h.el (fun e=>
  m_l04_CheckerNames_L1 fu c f b d (wr (a+1))
  ) (fun o=>some (.out o))
 else
  some (.go a)
def m_l04_CheckerNames_L0 (fu:Nat)(a:GSource):Nat→Int→Option (Ld (Int) (Bool))
 | 0,_=>none
 | f+1,b=>
 if b < (a.Stmts.length:Int) then
  (ix a.Stmts b).bind fun e=>
  (m_checker_Visible fu a e.Func b).bind fun c=>
  (m_l04_CheckerNames_L1 fu a e c fu 0).bind fun h=>h.el (fun d=>
  m_l04_CheckerNames_L0 fu a f (wr (b+1))
  ) (fun o=>some (.out o))
 else
  some (.go b)
def m_l04_CheckerNames (fu:Nat)(f:(List Int)):Option (Bool):=
 (m_kit_Checked fu f).bind fun h=>
 pel h fun b c=>
 if (!c)=true then
  (m_l04_known fu).bind fun d=>
  some d
 else
  (m_l04_CheckerNames_L0 fu b fu 0).bind fun h=>h.el (fun e=>
  (m_l04_known fu).bind fun a=>
  some a
  ) (fun o=>some o)
theorem sp_l04_CheckerNames (fu:Nat):Ct_l04_CheckerNames (m_l04_CheckerNames fu):=by
 intro U bb x0 a3 a4 r0 hP J
 unfold m_l04_CheckerNames at J
 have v:=hP.bx
 clear hP
 generalize hG:Gof _=G at v ⊢
 refine cf Try.func11 r ?_
 refine wCut [(0,Z a3 x0 a4)] ⟨r,y⟩ fun bc=>?_
 refine q (g (s (xAsB r) (n (q (g (s (xMvS r) ?_))))))
 obtain ⟨⟨a,aH⟩,h1,J⟩:=bs J
 replace J:=pi J
 have hc:=(sp_kit_Checked fu) (v.pr [] [] [0] r)  h1
 refine sc (ec cal13 r) hc ?_
 rintro _ w1 ⟨b,c,e,j,m,o,p,t,rfl,hK⟩
 replace v:=v.cl [] [] r hK r
 try dsimp only [pick,nth,ca,na] at v
 refine s xMove (s (xExtract r r) (s (xExtract r r) (sTo (aNewB v (mAlloc ti30)) ?_)))
 rintro _ w2 ⟨W,rfl,v⟩
 refine sTs (tb v 0 [Z b a.Program.Records c,Z e a.Program.Funcs j,Z m a.Vars o,Z p a.Stmts t] r ti30 r r r r r (show _=#[Z b a.Program.Records c,Z e a.Program.Funcs j,Z m a.Vars o,Z p a.Stmts t] from r)) ?_
 intro w3 v
 try dsimp only [List.set] at v
 refine s (xAsB r) (n (q (q (g (s (xMvB r) (s (xNot r) (n ?_)))))))
 rcases iv J with ⟨h4,J⟩|⟨h4,J⟩
 ·refine wIfT (cb h4) (q (g ?_))
  obtain ⟨aI,h5,J⟩:=bs J
  have hc:=(sp_l04_known fu) (v.pr [] [0] [] r)  h5
  refine sc (ec cal28 r) hc ?_
  rintro _ w5 ⟨rfl,hK⟩
  replace v:=v.cl [] [0] r hK r
  try dsimp only [pick,nth,ca,na] at v
  refine s (xAsB r) (n (wRt ?_))
  obtain rfl:=sm J
  refine resV1 r (rdT r) ?_
  exact ⟨r,((v.arr [] r).dp [])⟩
 replace h4:=nt h4
 refine wIfF (cb h4) (wk (q (q (g (s (xi r) (n ?_))))))
 obtain ⟨Y6,B,J⟩:=bs J
 refine wJd (fun f w=>∃ (F:Int),Has f []∧Bx U w bb G [.box W 30 #[Z b a.Program.Records c,Z e a.Program.Funcs j,Z m a.Vars o,Z p a.Stmts t]] [.l b c a.Program.Records,.l e j a.Program.Funcs,.l m o a.Vars,.l p t a.Stmts]∧Ld.go F=Y6) (fun J6 aw=>?_) ?_
 ·refine wBk (wLoopGd (fun bd f w=>∃ (F:Int),Has f [(3,Pt W),(5,V F)]∧Bx U w bb G [.box W 30 #[Z b a.Program.Records c,Z e a.Program.Funcs j,Z m a.Vars o,Z p a.Stmts t]] [.l b c a.Program.Records,.l e j a.Program.Funcs,.l m o a.Vars,.l p t a.Stmts]∧m_l04_CheckerNames_L0 fu a bd F=some Y6) fu ⟨0,⟨r,r,y⟩,(v.dp [0,1,2,3]),B⟩ ?_)
  clear v B
  rintro n6 f w ⟨F,hf,v,B⟩ K6 ay
  obtain ⟨bc,rfl⟩:=has_updL _ _ hf
  clear hf
  cases n6 with
  | zero=>exact nn B
  | succ n6=>
   rw [m_l04_CheckerNames_L0] at B
   refine q (q (g (s (mi r) (s (f30_3 r) (s (l28 r (v.bk 0 r) r) (s (xLnR u28_ r) (s (xLss r r) (n ?_))))))))
   rcases iv B with ⟨h7,B⟩|⟨h7,B⟩
   ·refine wIfT (bt h7) (wk (q (wBk (q (g (s (f30_3 r) (s (l28 r (v.bk 0 r) r) (s (mi r) ?_))))))))
    obtain ⟨Y,X,B⟩:=bs B
    obtain ⟨k8,aA,X⟩:=ix_inv X
    refine s (xIdR u28_ ti65 r r aA (v.dl 3 r) X) (s (f65_0 r) (s (xLoad u3_ r r ((elF (ds:=[V Y.Func,V Y.Kind,V Y.Line]) (v.dl 3 r) X (fun _ h=>h)) 0 _ r)) (s (xi r) (n (q (g (s (xLoadS [Z b a.Program.Records c,Z e a.Program.Funcs j,Z m a.Vars o,Z p a.Stmts t] u30_ r ti30 r r (Cells.part (v.bk 0 r).cells (o2:=0) r)) (s (mi r) (s (mi r) ?_)))))))))
    obtain ⟨I,h9,B⟩:=bs B
    have hc:=(sp_checker_Visible fu) (v.pr [] [0] [0,1,2,3] r)  h9
    refine sc (ec cal31 r) hc ?_
    rintro _ w9 ⟨C,D,A,rfl,hK⟩
    have aB:=v.chg.size
    replace v:=v.cl [] [0] r hK r
    try dsimp only [pick,nth,ca,na] at v
    replace v:=v.reb 0 U.heap.size r aB
    try dsimp only [List.set] at v
    refine s (xAsS r) (n (q (g (s (xi r) (n ?_)))))
    obtain ⟨ah,z,B⟩:=bs B
    refine wJd (fun f w=>∃ (E:Int),Has f [(3,Pt W),(5,V F)]∧Bx U w bb G [O U.heap.size C D 3 Int A,.box W 30 #[Z b a.Program.Records c,Z e a.Program.Funcs j,Z m a.Vars o,Z p a.Stmts t]] [.els A I,.l b c a.Program.Records,.l e j a.Program.Funcs,.l m o a.Vars,.l p t a.Stmts]∧Ld.go E=ah) (fun aP ai=>?_) ?_
    ·refine wBk (wLoopGd (fun bd f w=>∃ (E:Int),Has f [(3,Pt W),(5,V F),(6,V Y.Func),(7,Z C I D),(8,V E)]∧Bx U w bb G [O U.heap.size C D 3 Int A,.box W 30 #[Z b a.Program.Records c,Z e a.Program.Funcs j,Z m a.Vars o,Z p a.Stmts t]] [.els A I,.l b c a.Program.Records,.l e j a.Program.Funcs,.l m o a.Vars,.l p t a.Stmts]∧m_l04_CheckerNames_L1 fu a Y I bd E=some ah) fu ⟨0,⟨r,r,r,r,r,y⟩,v,z⟩ ?_)
     clear v z
     rintro a6 f w ⟨E,hf,v,z⟩ aQ aj
     obtain ⟨bc,rfl⟩:=has_updL _ _ hf
     clear hf
     cases a6 with
     | zero=>exact nn z
     | succ a6=>
      rw [m_l04_CheckerNames_L1] at z
      refine q (q (g (s (mi r) (s (xMvS r) (s (xLnR u22_ r) (s (xLss r r) (n ?_)))))))
      rcases iv z with ⟨a7,z⟩|⟨a7,z⟩
      ·refine wIfT (bt a7) (wk (q (wBk (q (g (s (xi r) (n ?_)))))))
       obtain ⟨ak,u,z⟩:=bs z
       refine wJd (fun f w=>∃ (H:Int),Has f [(3,Pt W),(5,V F),(6,V Y.Func),(7,Z C I D),(8,V E)]∧Bx U w bb G [O U.heap.size C D 3 Int A,.box W 30 #[Z b a.Program.Records c,Z e a.Program.Funcs j,Z m a.Vars o,Z p a.Stmts t]] [.els A I,.l b c a.Program.Records,.l e j a.Program.Funcs,.l m o a.Vars,.l p t a.Stmts]∧Ld.go H=ak) (fun aR al=>?_) ?_
       ·refine wBk (wLoopGd (fun bd f w=>∃ (H:Int),Has f [(3,Pt W),(5,V F),(6,V Y.Func),(7,Z C I D),(8,V E),(9,V H)]∧Bx U w bb G [O U.heap.size C D 3 Int A,.box W 30 #[Z b a.Program.Records c,Z e a.Program.Funcs j,Z m a.Vars o,Z p a.Stmts t]] [.els A I,.l b c a.Program.Records,.l e j a.Program.Funcs,.l m o a.Vars,.l p t a.Stmts]∧m_l04_CheckerNames_L2 fu a Y I E bd H=some ak) fu ⟨0,⟨r,r,r,r,r,r,y⟩,v,u⟩ ?_)
        clear v u
        rintro a8 f w ⟨H,hf,v,u⟩ aS am
        obtain ⟨bc,rfl⟩:=has_updL _ _ hf
        clear hf
        cases a8 with
        | zero=>exact nn u
        | succ a8=>
         rw [m_l04_CheckerNames_L2] at u
         refine q (q (g (s (mi r) (s (mi r) (s (xLss r r) (n ?_))))))
         rcases iv u with ⟨a9,u⟩|⟨a9,u⟩
         ·refine wIfT (bt a9) (wk (q (wBk (q ?_))))
          obtain ⟨aC,M,u⟩:=bs u
          obtain ⟨aT,a0,M⟩:=ix_inv M
          obtain ⟨aK,an,v⟩:=v.nm 3 rfl M
          obtain ⟨aa,ab,rfl,ac⟩:=an
          replace v:=v.dadd (d:=.l aa ab aC) ac
          refine wDr1 v [0,1] [0,1,2,5] [] (by kernel_rfl) ?_
          replace v:=v.drew
          have x:=(v.dp [0,1,2,5])
          refine pF 0 r (xMvS r) x (pF 1 r (mi r) x ?_)
          obtain ⟨ao,K,u⟩:=bs u
          obtain ⟨aU,a1,K⟩:=ix_inv K
          refine pF 2 r (xIdR u22_ ti3 r r a1 (v.vw 0 2 r r) K) x (tU 3 r (fun _ hS=>xLoad u3_ r r ((elF (ds:=[V ao]) (hS.vw 0 2 r r) K (fun _ h=>h)) 0 _ r)) (sF x) (pF 4 r (xMvS r) x (pF 5 r (mi r) x ?_)))
          obtain ⟨ap,L,u⟩:=bs u
          obtain ⟨aV,a2,L⟩:=ix_inv L
          refine pF 6 r (xIdR u22_ ti3 r r a2 (v.vw 0 2 r r) L) x (tU 7 r (fun _ hS=>xLoad u3_ r r ((elF (ds:=[V ap]) (hS.vw 0 2 r r) L (fun _ h=>h)) 0 _ r)) (sF x) (pF 8 r (xGeq r r) x (pF 9 r (xMvB r) x ?_)))
          rcases iv u with ⟨ae,u⟩|⟨ae,u⟩
          ·rw [decide_eq_true ae]
           have x:=(v.dp [0,1,2,5])
           refine hSkip' 10 r (by kernel_rfl) r (sF x) (hSkip' 11 r (by kernel_rfl) r (sF x) (hSkip' 12 r (by kernel_rfl) r (sF x) (hSkip' 13 r (by kernel_rfl) r (sF x) (hSkip' 14 r (by kernel_rfl) r (sF x) (hSkip' 15 r (by kernel_rfl) r (sF x) (hSkip' 16 r (by kernel_rfl) r (sF x) (hSkip' 17 r (by kernel_rfl) r (sF x) (hSkip' 18 r (by kernel_rfl) r (sF x) (hSkip' 19 r (by kernel_rfl) r (sF x) (hSkip' 20 r (by kernel_rfl) r (sF x) (hSkip' 21 r (by kernel_rfl) r (sF x) (hSkip' 22 r (by kernel_rfl) r (sF x) (hSkip' 23 r (by kernel_rfl) r (sF x) ?_)))))))))))))
           refine hSkip' 24 r (by kernel_rfl) r (sF x) (hSkip' 25 r (by kernel_rfl) r (sF x) (hSkip' 26 r (by kernel_rfl) r (sF x) (hSkip' 27 r (by kernel_rfl) r (sF x) (hSkip' 28 r (by kernel_rfl) r (sF x) (hSkip' 29 r (by kernel_rfl) r (sF x) (hSkip' 30 r (by kernel_rfl) r (sF x) (hSkip' 31 r (by kernel_rfl) r (sF x) (hSkip' 32 r (by kernel_rfl) r (sF x) (hSkip' 33 r (by kernel_rfl) r (sF x) (hSkip' 34 r (by kernel_rfl) r (sF x) (pF 35 r (xPkTB r r) x (hD (wIfT r ?_)))))))))))))
           refine q (g (s (xAsB r) (n (wRt ?_))))
           obtain rfl:=sm u
           replace z:=oi z
           obtain rfl:=sm z
           replace B:=oi B
           obtain rfl:=sm B
           replace J:=oi J
           obtain rfl:=sm J
           refine resV1 r (rdT r) ?_
           exact ⟨r,((v.arr [] r).dp [])⟩
          rw [decide_eq_false ae]
          have x:=(v.dp [0,1,2,5])
          refine pF 10 r (f30_2 r) x (uF 11 r (fun hS=>l27 r (hS.bk 1 r) r) x (pF 12 r (mi r) x (pF 13 r (xIdR u27_ ti60 r r a0 (v.dl 5 r) M) x (uF 14 r (fun hS=>xLoad u60_ r r ((hS.dc 1 r) 0 _ r)) x (pF 15 r (xMvS r) x (pF 16 r (mi r) x (pF 17 r (xIdR u22_ ti3 r r a1 (v.vw 0 2 r r) K) x (tU 18 r (fun _ hS=>xLoad u3_ r r ((elF (ds:=[V ao]) (hS.vw 0 2 r r) K (fun _ h=>h)) 0 _ r)) (sF x) ?_))))))))
          obtain ⟨N,R,u⟩:=bs u
          obtain ⟨aW,aq,R⟩:=ix_inv R
          refine pF 19 r (xIdR u60_ ti59 r r aq (v.dl 0 r) R) x (pF 20 r (f59_0 r) x (tU 21 r (fun _ hS=>xLoad u9_ r r ((elF (ds:=[T N.Name,V N.Kind,V N.Record,V N.Words,.bool N.Param,V N.From,V N.To]) (hS.dl 0 r) R (fun _ h=>h)) 0 _ r)) (sF x) (pF 22 r (f30_2 r) x (uF 23 r (fun hS=>l27 r (hS.bk 1 r) r) x (pF 24 r (mi r) x (pF 25 r (xIdR u27_ ti60 r r a0 (v.dl 5 r) M) x (uF 26 r (fun hS=>xLoad u60_ r r ((hS.dc 1 r) 0 _ r)) x (pF 27 r (xMvS r) x (pF 28 r (mi r) x (pF 29 r (xIdR u22_ ti3 r r a2 (v.vw 0 2 r r) L) x (tU 30 r (fun _ hS=>xLoad u3_ r r ((elF (ds:=[V ap]) (hS.vw 0 2 r r) L (fun _ h=>h)) 0 _ r)) (sF x) ?_)))))))))))
          obtain ⟨Q,S,u⟩:=bs u
          obtain ⟨aX,ar,S⟩:=ix_inv S
          refine pF 31 r (xIdR u60_ ti59 r r ar (v.dl 0 r) S) x (pF 32 r (f59_0 r) x (tU 33 r (fun _ hS=>xLoad u9_ r r ((elF (ds:=[T Q.Name,V Q.Kind,V Q.Record,V Q.Words,.bool Q.Param,V Q.From,V Q.To]) (hS.dl 0 r) S (fun _ h=>h)) 0 _ r)) (sF x) (pF 34 r (xEqlT' r r) x (pF 35 r (xPkFB r r) x (hD ?_)))))
          rcases iv u with ⟨af,u⟩|⟨af,u⟩
          ·refine wIfT (bt af) (q (g (s (xAsB r) (n (wRt ?_)))))
           obtain rfl:=sm u
           replace z:=oi z
           obtain rfl:=sm z
           replace B:=oi B
           obtain rfl:=sm B
           replace J:=oi J
           obtain rfl:=sm J
           refine resV1 r (rdT r) ?_
           exact ⟨r,((v.arr [] r).dp [])⟩
          refine wIfF (bf af) (wk (g (s (mi r) (s (xAddW r r) (s (xi r) (n ?_))))))
          exact am a8 _ _ (Nat.lt_succ_self _) ⟨(wr (H+1)),⟨r,r,r,r,r,r,y⟩,(v.dp [2,3,4,5,6]),u⟩
         refine wIfF (bf a9) (wEx ?_)
         exact al _ _ ⟨H,⟨r,r,r,r,r,y⟩,v,sm u⟩
       clear v
       rintro f w ⟨H,hf,v,au⟩
       obtain ⟨bc,rfl⟩:=has_updL _ _ hf
       clear hf
       subst au
       replace z:=gi z
       refine g (s (mi r) (s (xAddW r r) (s (xi r) (n ?_))))
       exact aj a6 _ _ (Nat.lt_succ_self _) ⟨(wr (E+1)),⟨r,r,r,r,r,y⟩,v,z⟩
      refine wIfF (bf a7) (wEx ?_)
      exact ai _ _ ⟨E,⟨r,r,y⟩,v,sm z⟩
    clear v
    rintro f w ⟨E,hf,v,av⟩
    obtain ⟨bc,rfl⟩:=has_updL _ _ hf
    clear hf
    subst av
    replace B:=gi B
    refine g (s (mi r) (s (xAddW r r) (s (xi r) (n ?_))))
    exact ay n6 _ _ (Nat.lt_succ_self _) ⟨(wr (F+1)),⟨r,r,y⟩,((v.arr [1] r).dp [1,2,3,4]),B⟩
   refine wIfF (bf h7) (wEx ?_)
   exact aw _ _ ⟨F,y,v,sm B⟩
 clear v
 rintro f w ⟨F,hf,v,aD⟩
 obtain ⟨bc,rfl⟩:=has_updL _ _ hf
 clear hf
 subst aD
 replace J:=gi J
 refine q (g ?_)
 obtain ⟨aE,aF,J⟩:=bs J
 have hc:=(sp_l04_known fu) (v.pr [] [0] [] r)  aF
 refine sc (ec cal28 r) hc ?_
 rintro _ aY ⟨rfl,hK⟩
 replace v:=v.cl [] [0] r hK r
 try dsimp only [pick,nth,ca,na] at v
 refine s (xAsB r) (n (wRt ?_))
 obtain rfl:=sm J
 refine resV1 r (rdT r) ?_
 exact ⟨r,((v.arr [] r).dp [])⟩
end
end Go.Proofs.Ytfglbdkfnphjgaa
