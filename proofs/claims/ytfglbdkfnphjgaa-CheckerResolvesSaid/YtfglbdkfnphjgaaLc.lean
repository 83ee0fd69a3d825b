/- Contracts, printed by gen3.py. -/
import Derived.Test.YtfglbdkfnphjgaaZt
import Derived.Test.YtfglbdkfnphjgaaLa
set_option linter.unusedVariables false
set_option maxHeartbeats 12800000
set_option linter.unusedSimpArgs false
set_option maxRecDepth 4000
namespace Go.Proofs.Ytfglbdkfnphjgaa
open Go.RowKit Go.Fw
noncomputable section
def Ct_kit_fresh (m:Gm→GTape→Option (BA × Gm)):Prop:=∀ {G:World} {I:Nat→Prop} {B:Gm} {c:GTape} {F:Nat} {d:Nat} {a:Option Addr} {b:Nat} {t:Option Addr} {u:Nat} {e:Option Addr} {h:Nat} {x:List (List Value)} {C:Nat} {i:Option Addr} {j:Nat} {z:List (List Value)} {D:Nat} {k:Option Addr} {o:Nat} {A:List (List Value)} {E:Nat} {R:BA × Gm},Pre G I [.box F 135 #[Pt d,V B.f,V B.funcs,Z t B.params u,Z e B.scalars h,Z i B.points j,Z k B.arrays o,V B.count,V B.left],.box d 132 #[Z a c.l b,V c.at_],O C e h 9 BA x,O D i j 9 BA z,O E k o 9 BA A] [.l a b c.l,.l t u B.params,.els x B.scalars,.els z B.points,.els A B.arrays]→C≤G.heap.size→D≤G.heap.size→E≤G.heap.size→m B c=some R→
 Calls Try.prog 86 #[Pt F] G (Ret fun v w=>pel R fun H p=>v=T H∧Bx G w I (Gof [.box F 135 #[Pt d,V B.f,V B.funcs,Z t B.params u,Z e B.scalars h,Z i B.points j,Z k B.arrays o,V B.count,V B.left],.box d 132 #[Z a c.l b,V c.at_],O C e h 9 BA x,O D i j 9 BA z,O E k o 9 BA A]) [.box F 135 #[Pt d,V p.f,V p.funcs,Z t p.params u,Z e p.scalars h,Z i p.points j,Z k p.arrays o,V p.count,V p.left],.box d 132 #[Z a c.l b,V c.at_],O C e h 9 BA x,O D i j 9 BA z,O E k o 9 BA A] [.l a b c.l,.l t u p.params,.els x p.scalars,.els z p.points,.els A p.arrays])
def m_kit_fresh (fu:Nat)(a:Gm) (c:GTape):Option (BA × Gm):=
 (m_r03_Digits fu (wr (a.count+1))).bind fun b=>
 (cat (⟨#[118]⟩:BA) b).bind fun d=>
 some (d,(⟨a.f,a.funcs,a.params,a.scalars,a.points,a.arrays,(wr (a.count+1)),a.left⟩:Gm))
theorem sp_kit_fresh (fu:Nat):Ct_kit_fresh (m_kit_fresh fu):=by
 intro S a0 a w F b o p t u c d x z e h A B j m C D R L H I J E
 unfold m_kit_fresh at E
 have v:=L.bx
 clear L
 generalize U:Gof _=G at v ⊢
 refine cf Try.func86 r ?_
 refine wCut [(0,Pt F)] ⟨r,y⟩ fun a1=>?_
 refine q (g (s (xAsT r) (n (q (g (s (mp r) (s (xn r) (s (f135_7 r) (s (l3 r (v.bk 0 r) r) (s (xAddW r r) (s (xn r) (s (f135_7 r) (sTs (tb v 0 [V (wr (a.count+1))] r ti3 r r r r r (show _=#[Pt b,V a.f,V a.funcs,Z t a.params u,Z c a.scalars d,Z e a.points h,Z j a.arrays m,V (wr (a.count+1)),V a.left] from r)) ?_)))))))))))))
 intro W v
 try dsimp only [List.set] at v
 refine n (q (g (s (mp r) (s (xn r) (s (f135_7 r) (s (l3 r (v.bk 0 r) r) ?_))))))
 obtain ⟨M,N,E⟩:=bs E
 have hc:=(sp_r03_Digits fu) (v.pr [] [0,1,2,3,4] [] r)  N
 refine sc (ec cal79 r) hc ?_
 rintro _ X ⟨rfl,Q⟩
 replace v:=v.cl [] [0,1,2,3,4] r Q r
 try dsimp only [pick,nth,ca,na] at v
 obtain ⟨Y,K,E⟩:=bs E
 refine s (xCat r r K) (s (xAsT r) (n (wRt ?_)))
 obtain rfl:=sm E
 refine resV1 r (rdT r) ?_
 exact pok (⟨r,v⟩)
abbrev T_kit_expr:=GMaker→GTape→Int→Option (GExpr × GMaker × GTape)
abbrev T_kit_element:=GMaker→GTape→Int→Option (GExpr × GMaker × GTape)
def Ct_kit_expr (m:Gm→GTape→Int→Option (Ge × Gm × GTape)):Prop:=∀ {K:World} {M:Nat→Prop} {A:Gm} {B:GTape} {L:Int} {I:Nat} {c:Nat} {a:Option Addr} {b:Nat} {p:Option Addr} {t:Nat} {d:Option Addr} {e:Nat} {u:List (List Value)} {C:Nat} {h:Option Addr} {i:Nat} {x:List (List Value)} {D:Nat} {j:Option Addr} {k:Nat} {z:List (List Value)} {E:Nat} {R:Ge × Gm × GTape},Pre K M [.box I 135 #[Pt c,V A.f,V A.funcs,Z p A.params t,Z d A.scalars e,Z h A.points i,Z j A.arrays k,V A.count,V A.left],.box c 132 #[Z a B.l b,V B.at_],O C d e 9 BA u,O D h i 9 BA x,O E j k 9 BA z] [.l a b B.l,.l p t A.params,.els u A.scalars,.els x A.points,.els z A.arrays]→C≤K.heap.size→D≤K.heap.size→E≤K.heap.size→m A B L=some R→
 Calls Try.prog 83 #[Pt I,V L] K (Ret fun v w=>pel R fun J R=>pel R fun o F=>∃ (G:OA)(H:Nat),v=.agg #[V J.Op,V J.Number,V J.Var,T J.Name,T J.Field,Z G J.Args H]∧Bx K w M (Gof [.box I 135 #[Pt c,V A.f,V A.funcs,Z p A.params t,Z d A.scalars e,Z h A.points i,Z j A.arrays k,V A.count,V A.left],.box c 132 #[Z a B.l b,V B.at_],O C d e 9 BA u,O D h i 9 BA x,O E j k 9 BA z]) [.box I 135 #[Pt c,V o.f,V o.funcs,Z p o.params t,Z d o.scalars e,Z h o.points i,Z j o.arrays k,V o.count,V o.left],.box c 132 #[Z a F.l b,V F.at_],O C d e 9 BA u,O D h i 9 BA x,O E j k 9 BA z] [.l G H J.Args,.l a b F.l,.l p t o.params,.els u o.scalars,.els x o.points,.els z o.arrays])
def Ct_kit_element (m:Gm→GTape→Int→Option (Ge × Gm × GTape)):Prop:=∀ {K:World} {M:Nat→Prop} {A:Gm} {B:GTape} {L:Int} {I:Nat} {c:Nat} {a:Option Addr} {b:Nat} {p:Option Addr} {t:Nat} {d:Option Addr} {e:Nat} {u:List (List Value)} {C:Nat} {h:Option Addr} {i:Nat} {x:List (List Value)} {D:Nat} {j:Option Addr} {k:Nat} {z:List (List Value)} {E:Nat} {R:Ge × Gm × GTape},Pre K M [.box I 135 #[Pt c,V A.f,V A.funcs,Z p A.params t,Z d A.scalars e,Z h A.points i,Z j A.arrays k,V A.count,V A.left],.box c 132 #[Z a B.l b,V B.at_],O C d e 9 BA u,O D h i 9 BA x,O E j k 9 BA z] [.l a b B.l,.l p t A.params,.els u A.scalars,.els x A.points,.els z A.arrays]→C≤K.heap.size→D≤K.heap.size→E≤K.heap.size→m A B L=some R→
 Calls Try.prog 110 #[Pt I,V L] K (Ret fun v w=>pel R fun J R=>pel R fun o F=>∃ (G:OA)(H:Nat),v=.agg #[V J.Op,V J.Number,V J.Var,T J.Name,T J.Field,Z G J.Args H]∧Bx K w M (Gof [.box I 135 #[Pt c,V A.f,V A.funcs,Z p A.params t,Z d A.scalars e,Z h A.points i,Z j A.arrays k,V A.count,V A.left],.box c 132 #[Z a B.l b,V B.at_],O C d e 9 BA u,O D h i 9 BA x,O E j k 9 BA z]) [.box I 135 #[Pt c,V o.f,V o.funcs,Z p o.params t,Z d o.scalars e,Z h o.points i,Z j o.arrays k,V o.count,V o.left],.box c 132 #[Z a F.l b,V F.at_],O C d e 9 BA u,O D h i 9 BA x,O E j k 9 BA z] [.l G H J.Args,.l a b F.l,.l p t o.params,.els u o.scalars,.els x o.points,.els z o.arrays])
def F_kit_expr_J0 (fu:Nat)(r_kit_expr:T_kit_expr) (r_kit_element:T_kit_element) (b:Int)(a:Int):Option (Ld (Bool) (Ge × Gm × GTape)):=
 if 3≤b then
  some (.go true)
 else
  some (.go (decide (a < 3)))
def F_kit_expr_J1 (fu:Nat)(r_kit_expr:T_kit_expr) (r_kit_element:T_kit_element) (b:Gm) (a:Int):Option (Ld (Bool) (Ge × Gm × GTape)):=
 if a < 8 then
  some (.go (decide (0 < (b.scalars.length:Int))))
 else
  some (.go false)
def F_kit_expr_J2 (fu:Nat)(r_kit_expr:T_kit_expr) (r_kit_element:T_kit_element) (b:Gm) (a:Int):Option (Ld (Bool) (Ge × Gm × GTape)):=
 if a=8 then
  some (.go (decide (0 < (b.points.length:Int))))
 else
  some (.go false)
def F_kit_expr_J3 (fu:Nat)(r_kit_expr:T_kit_expr) (r_kit_element:T_kit_element) (b:Gm) (a:Int):Option (Ld (Bool) (Ge × Gm × GTape)):=
 if a=9 then
  some (.go (decide (0 < (b.arrays.length:Int))))
 else
  some (.go false)
def F_kit_expr (fu:Nat)(r_kit_expr:T_kit_expr) (r_kit_element:T_kit_element) (c:Gm) (J:GTape) (K:Int):Option (Ge × Gm × GTape):=
 (m_kit_next fu J 16).bind fun W=>
 pel W fun b a=>
 (F_kit_expr_J0 fu r_kit_expr r_kit_element K b).bind fun W=>W.el (fun L=>
 if L=true then
  (m_kit_number fu a).bind fun W=>
  pel W fun M N=>
  (m_kit_literal fu M).bind fun P=>
  some (P,c,N)
 else
  (F_kit_expr_J1 fu r_kit_expr r_kit_element c b).bind fun W=>W.el (fun Q=>
  if Q=true then
   (m_kit_next fu a (c.scalars.length:Int)).bind fun W=>
   pel W fun d e=>
   (ix c.scalars d).bind fun R=>
   (m_kit_variable fu R).bind fun f=>
   some (f,c,e)
  else
   (F_kit_expr_J2 fu r_kit_expr r_kit_element c b).bind fun W=>W.el (fun h=>
   if h=true then
    (m_kit_next fu a (c.points.length:Int)).bind fun W=>
    pel W fun i j=>
    (ix c.points i).bind fun S=>
    (m_kit_next fu j 2).bind fun W=>
    pel W fun k l=>
    (ix ([(⟨#[120]⟩:BA),(⟨#[121]⟩:BA)]:List BA) k).bind fun U=>
    some ((⟨2,0,0,S,U,([]:List Ge)⟩:Ge),c,l)
   else
    (F_kit_expr_J3 fu r_kit_expr r_kit_element c b).bind fun W=>W.el (fun m=>
    if m=true then
     (r_kit_element c a (wr (K+1))).bind fun W=>
     pel W fun p W=>pel W fun t u=>
     some (p,t,u)
    else
     if b=10 then
      (m_kit_next fu a 2).bind fun W=>
      pel W fun v w=>
      (r_kit_expr c w (wr (K+1))).bind fun W=>
      pel W fun x W=>pel W fun z A=>
      some ((⟨(wr (4+v)),0,0,be,be,([x]:List Ge)⟩:Ge),z,A)
     else
      (m_kit_next fu a 12).bind fun W=>
      pel W fun B C=>
      (r_kit_expr c C (wr (K+1))).bind fun W=>
      pel W fun D W=>pel W fun E F=>
      (r_kit_expr E F (wr (K+1))).bind fun W=>
      pel W fun G W=>pel W fun H I=>
      some ((⟨(wr (6+B)),0,0,be,be,([D,G]:List Ge)⟩:Ge),H,I)
    ) (fun o=>some o)
   ) (fun o=>some o)
  ) (fun o=>some o)
 ) (fun o=>some o)
def F_kit_element (fu:Nat)(r_kit_expr:T_kit_expr) (r_kit_element:T_kit_element) (m:Gm) (e:GTape) (p:Int):Option (Ge × Gm × GTape):=
 (m_kit_next fu e (m.arrays.length:Int)).bind fun t=>
 pel t fun f h=>
 (ix m.arrays f).bind fun o=>
 (m_kit_next fu h 3).bind fun t=>
 pel t fun i a=>
 if 0 < i then
  (m_kit_next fu a 3).bind fun t=>
  pel t fun j k=>
  (m_kit_literal fu j).bind fun l=>
  some ((⟨3,0,0,o,be,([l]:List Ge)⟩:Ge),m,k)
 else
  (r_kit_expr m a p).bind fun t=>
  pel t fun b t=>pel t fun c d=>
  some ((⟨3,0,0,o,be,([b]:List Ge)⟩:Ge),c,d)
def tab_kit_expr:Nat→(Gm→GTape→Int→Option (Ge × Gm × GTape)) × (Gm→GTape→Int→Option (Ge × Gm × GTape))
 | 0=>((fun _ _ _=>none),(fun _ _ _=>none))
 | fu+1=>(F_kit_expr fu ((tab_kit_expr fu).1) ((tab_kit_expr fu).2),F_kit_element fu ((tab_kit_expr fu).1) ((tab_kit_expr fu).2))
def m_kit_expr (fu:Nat):=(tab_kit_expr fu).1
def m_kit_element (fu:Nat):=(tab_kit_expr fu).2
theorem wk_kit_expr (fu:Nat)(r_kit_expr:T_kit_expr) (r_kit_element:T_kit_element) (H_kit_expr:Ct_kit_expr r_kit_expr) (H_kit_element:Ct_kit_element r_kit_element):Ct_kit_expr (F_kit_expr fu r_kit_expr r_kit_element):=by
 intro w0 co j aC x1 a7 p m o D E t u F U v x H W z A I X R hP a4 a5 a6 c
 unfold F_kit_expr at c
 have a:=hP.bx
 clear hP
 generalize hG:Gof _=G at a ⊢
 refine cf Try.func83 r ?_
 refine wCut [(0,Pt a7),(1,V x1)] ⟨r,r,y⟩ fun cp=>?_
 refine q (g (sTo (aNewB a (mAlloc ti138)) ?_))
 rintro _ w1 ⟨b1,rfl,a⟩
 refine n (q (g (s (mp r) (s (xn r) (s (f135_0 r) (s (l130 r (a.bk 1 r) r) ?_))))))
 obtain ⟨⟨ak,N⟩,h2,c⟩:=bs c
 replace c:=pi c
 have hc:=(sp_kit_next fu) (a.pr [2] [0,1,3,4,5] [0] r)  h2
 refine sc (ec cal57 r) hc ?_
 rintro _ w2 ⟨rfl,S⟩
 replace a:=a.cl [2] [0,1,3,4,5] r S r
 try dsimp only [pick,nth,ca,na] at a
 refine s (xi r) (n (q (wBk (q ?_))))
 obtain ⟨Y3,ap,c⟩:=bs c
 refine wJd (fun f w=>∃ (ar:Bool),Has f [(0,Pt a7),(1,V x1),(4,Pt b1),(5,V ak),(13,.bool ar)]∧Bx w0 w co G [.box p 132 #[Z m N.l o,V N.at_],.box b1 138 #[V 0,V 0,V 0,T be,T be,sn],.box a7 135 #[Pt p,V j.f,V j.funcs,Z D j.params E,Z t j.scalars u,Z v j.points x,Z z j.arrays A,V j.count,V j.left],O U t u 9 BA F,O W v x 9 BA H,O X z A 9 BA I] [.l m o N.l,.l D E j.params,.els F j.scalars,.els H j.points,.els I j.arrays]∧Ld.go ar=Y3) (fun J3 aP=>?_) ?_
 ·unfold F_kit_expr_J0 at ap
  refine g (s (mi r) (s (xGeq r r) (s (xMvB r) ?_)))
  rcases iv ap with ⟨h4,ap⟩|⟨h4,ap⟩
  ·rw [decide_eq_true h4]
   refine sNo r (sNo r (s (xPkTB r r) (s (xAsB r) (n ?_))))
   exact aP _ _ ⟨true,⟨r,r,r,r,r,y⟩,(a.dp [0,2,3,4,5]),sm ap⟩
  rw [decide_eq_false h4]
  refine sGo r (s (mi r) (sGo r (s (xLss r r) (s (xPkFB r r) (s (xAsB r) (n ?_))))))
  exact aP _ _ ⟨(decide (ak < 3)),⟨r,r,r,r,r,y⟩,(a.dp [0,2,3,4,5]),sm ap⟩
 clear a
 rintro f w ⟨ar,hf,a,aY⟩
 obtain ⟨cp,rfl⟩:=has_updL _ _ hf
 clear hf
 subst aY
 replace c:=gi c
 rcases iv c with ⟨h5,c⟩|⟨h5,c⟩
 ·refine wIfT (cb h5) (q (g (s (mp r) (s (xn r) (s (f135_0 r) (s (l130 r (a.bk 2 r) r) ?_))))))
  obtain ⟨⟨bA,bB⟩,h6,c⟩:=bs c
  replace c:=pi c
  have hc:=(sp_kit_number fu) (a.pr [0] [1,2,3,4,5] [0] r)  h6
  refine sc (ec cal109 r) hc ?_
  rintro _ w6 ⟨rfl,S⟩
  replace a:=a.cl [0] [1,2,3,4,5] r S r
  try dsimp only [pick,nth,ca,na] at a
  obtain ⟨Q,h7,c⟩:=bs c
  have hc:=(sp_kit_literal fu) (a.pr [] [0,1,2,3,4,5] [] r)  h7
  refine sc (ec cal108 r) hc ?_
  rintro _ w7 ⟨a8,a9,rfl,S⟩
  replace a:=a.cl [] [0,1,2,3,4,5] r S r
  try dsimp only [pick,nth,ca,na] at a
  refine sTs (tb a 1 [V Q.Op,V Q.Number,V Q.Var,T Q.Name,T Q.Field,Z a8 Q.Args a9] r ti138 r r r r r (show _=#[V Q.Op,V Q.Number,V Q.Var,T Q.Name,T Q.Field,Z a8 Q.Args a9] from r)) ?_
  intro w8 a
  try dsimp only [List.set] at a
  refine n (wRt ?_)
  obtain rfl:=sm c
  refine resV1 r (rdA r u138_ r ti138 r (a.bk 1 r)) ?_
  exact pok (pok (⟨a8,a9,r,(a.ad [2,0,3,4,5] [0,1,3,4,5,6])⟩))
 replace h5:=nt h5
 refine wIfF (cb h5) (q ?_)
 obtain ⟨Y9,aq,c⟩:=bs c
 refine wJd (fun f w=>∃ (au:Bool),Has f [(0,Pt a7),(1,V x1),(4,Pt b1),(5,V ak),(26,.bool au)]∧Bx w0 w co G [.box p 132 #[Z m N.l o,V N.at_],.box b1 138 #[V 0,V 0,V 0,T be,T be,sn],.box a7 135 #[Pt p,V j.f,V j.funcs,Z D j.params E,Z t j.scalars u,Z v j.points x,Z z j.arrays A,V j.count,V j.left],O U t u 9 BA F,O W v x 9 BA H,O X z A 9 BA I] [.l m o N.l,.l D E j.params,.els F j.scalars,.els H j.points,.els I j.arrays]∧Ld.go au=Y9) (fun J9 aR=>?_) ?_
 ·unfold F_kit_expr_J1 at aq
  refine g (s (mi r) (s (xLss r r) (s (xMvB r) ?_)))
  rcases iv aq with ⟨aG,aq⟩|⟨aG,aq⟩
  ·rw [decide_eq_true aG]
   refine sGo r (s (mp r) (sGo r (s (xn r) (sGo r (s (f135_4 r) (sGo r (s (l70 r (a.bk 2 r) r) (sGo r (s (xLnR u70_ r) (sGo r (s (xGtr r r) (s (xPkTB r r) (s (xAsB r) ?_)))))))))))))
   refine n ?_
   exact aR _ _ ⟨(decide (0 < (j.scalars.length:Int))),⟨r,r,r,r,r,y⟩,a,sm aq⟩
  rw [decide_eq_false aG]
  refine sNo r (sNo r (sNo r (sNo r (sNo r (sNo r (s (xPkFB r r) (s (xAsB r) (n ?_))))))))
  exact aR _ _ ⟨false,⟨r,r,r,r,r,y⟩,a,sm aq⟩
 clear a
 rintro f w ⟨au,hf,a,aZ⟩
 obtain ⟨cp,rfl⟩:=has_updL _ _ hf
 clear hf
 subst aZ
 replace c:=gi c
 rcases iv c with ⟨av,c⟩|⟨av,c⟩
 ·refine wIfT (cb av) (q (wDr1 a [2,3] [2] [] (by kernel_rfl) ?_))
  replace a:=a.drew
  have e:=(a.ad [2,3] [2])
  refine pF 0 r (mp r) e (pF 1 r (xn r) e (pF 2 r (f135_4 r) e (uF 3 r (fun hS=>l70 r (hS.bk 0 r) r) e (pF 4 r (mp r) e (pF 5 r (xn r) e (pF 6 r (f135_0 r) e (uF 7 r (fun hS=>l130 r (hS.bk 0 r) r) e (pF 8 r (mp r) e (pF 9 r (xn r) e (pF 10 r (f135_4 r) e (uF 11 r (fun hS=>l70 r (hS.bk 0 r) r) e (pF 12 r (xLnR u70_ r) e ?_))))))))))))
  obtain ⟨⟨b0,b2⟩,b3,c⟩:=bs c
  replace c:=pi c
  have hc:=(sp_kit_next fu) (a.pr [0] [1,2,3,4,5] [0] r)  b3
  refine hO 13 (oc r r (ec cal57 r) hc ?_)
  rintro _ bH ⟨rfl,S⟩
  replace a:=a.cl [0] [1,2,3,4,5] r S r
  try dsimp only [pick,nth,ca,na] at a
  have e:=(a.ad [2,3] [3])
  refine ⟨(sF e),?_⟩
  obtain ⟨b4,ao,c⟩:=bs c
  obtain ⟨bI,aS,ao⟩:=ix_inv ao
  refine pF 14 r (xIdR u70_ ti9 r r aS (a.vw 3 3 r r) ao) e (tU 15 r (fun _ hS=>xLoad u9_ r r ((elF (ds:=[T b4]) (hS.vw 1 0 r r) ao (fun _ h=>h)) 0 _ r)) (sF e) ?_)
  obtain ⟨B,b5,c⟩:=bs c
  have hc:=(sp_kit_variable fu) (a.pr [] [0,1,2,3,4,5] [] r)  b5
  refine hO 16 (oc r r (ec cal59 r) hc ?_)
  rintro _ bJ ⟨Y,a0,rfl,S⟩
  replace a:=a.cl [] [0,1,2,3,4,5] r S r
  try dsimp only [pick,nth,ca,na] at a
  have e:=(a.ad [2,3] [4])
  refine ⟨(sF e),?_⟩
  refine hO 17 (os r r (tb a 1 [V B.Op,V B.Number,V B.Var,T B.Name,T B.Field,Z Y B.Args a0] r ti138 r r r r r (show _=#[V B.Op,V B.Number,V B.Var,T B.Name,T B.Field,Z Y B.Args a0] from r)) ?_)
  intro bK a
  try dsimp only [List.set] at a
  have e:=(a.ad [2,3] [4])
  refine ⟨(sF e),?_⟩
  refine hD (wRt ?_)
  obtain rfl:=sm c
  refine resV1 r (rdA r u138_ r ti138 r (a.bk 1 r)) ?_
  exact pok (pok (⟨Y,a0,r,(a.ad [2,0,3,4,5] [0,1,3,4,5,6])⟩))
 replace av:=nt av
 refine wIfF (cb av) (q ?_)
 obtain ⟨b6,ab,c⟩:=bs c
 refine wJd (fun f w=>∃ (al:Bool),Has f [(0,Pt a7),(1,V x1),(4,Pt b1),(5,V ak),(54,.bool al)]∧Bx w0 w co G [.box p 132 #[Z m N.l o,V N.at_],.box b1 138 #[V 0,V 0,V 0,T be,T be,sn],.box a7 135 #[Pt p,V j.f,V j.funcs,Z D j.params E,Z t j.scalars u,Z v j.points x,Z z j.arrays A,V j.count,V j.left],O U t u 9 BA F,O W v x 9 BA H,O X z A 9 BA I] [.l m o N.l,.l D E j.params,.els F j.scalars,.els H j.points,.els I j.arrays]∧Ld.go al=b6) (fun bL aD=>?_) ?_
 ·unfold F_kit_expr_J2 at ab
  refine g (s (mi r) (s (xEqlD r r) (s (xMvB r) ?_)))
  rcases iv ab with ⟨aH,ab⟩|⟨aH,ab⟩
  ·rw [decide_eq_true aH]
   refine sGo r (s (mp r) (sGo r (s (xn r) (sGo r (s (f135_5 r) (sGo r (s (l70 r (a.bk 2 r) r) (sGo r (s (xLnR u70_ r) (sGo r (s (xGtr r r) (s (xPkTB r r) (s (xAsB r) ?_)))))))))))))
   refine n ?_
   exact aD _ _ ⟨(decide (0 < (j.points.length:Int))),⟨r,r,r,r,r,y⟩,a,sm ab⟩
  rw [decide_eq_false aH]
  refine sNo r (sNo r (sNo r (sNo r (sNo r (sNo r (s (xPkFB r r) (s (xAsB r) (n ?_))))))))
  exact aD _ _ ⟨false,⟨r,r,r,r,r,y⟩,a,sm ab⟩
 clear a
 rintro f w ⟨al,hf,a,aT⟩
 obtain ⟨cp,rfl⟩:=has_updL _ _ hf
 clear hf
 subst aT
 replace c:=gi c
 rcases iv c with ⟨aw,c⟩|⟨aw,c⟩
 ·refine wIfT (cb aw) (q ?_)
  obtain ⟨⟨b7,b8⟩,aU,c⟩:=bs c
  replace c:=pi c
  obtain ⟨aj,ac,c⟩:=bs c
  obtain ⟨bM,aE,ac⟩:=ix_inv ac
  obtain ⟨⟨b9,am⟩,aI,c⟩:=bs c
  replace c:=pi c
  obtain ⟨aa,a3,c⟩:=bs c
  obtain ⟨bN,ax,a3⟩:=ix_inv a3
  refine wJd (fun f w=>Has f [(4,Pt b1)]∧Bx w0 w co G [.box p 132 #[Z m am.l o,V am.at_],.box b1 138 #[V 2,V 0,V 0,T aj,T aa,sn],.box a7 135 #[Pt p,V j.f,V j.funcs,Z D j.params E,Z t j.scalars u,Z v j.points x,Z z j.arrays A,V j.count,V j.left],O U t u 9 BA F,O W v x 9 BA H,O X z A 9 BA I] [.l D E j.params,.els F j.scalars,.els H j.points,.els I j.arrays,.l m o am.l]) (fun Jd hJd=>?_) ?_
  ·refine wDr1 a [2,4] [3] [] (by kernel_rfl) ?_
   replace a:=a.drew
   have e:=(a.ad [2,4] [3])
   refine pF 0 r (mp r) e (pF 1 r (xn r) e (pF 2 r (f135_5 r) e (uF 3 r (fun hS=>l70 r (hS.bk 0 r) r) e (pF 4 r (mp r) e (pF 5 r (xn r) e (pF 6 r (f135_0 r) e (uF 7 r (fun hS=>l130 r (hS.bk 0 r) r) e (pF 8 r (mp r) e (pF 9 r (xn r) e (pF 10 r (f135_5 r) e (uF 11 r (fun hS=>l70 r (hS.bk 0 r) r) e (pF 12 r (xLnR u70_ r) e (pF 17 r (mp r) e ?_)))))))))))))
   refine pF 18 r (xn r) e (pF 19 r (f135_0 r) e (uF 20 r (fun hS=>l130 r (hS.bk 0 r) r) e ?_))
   refine hList' 13 [16] (by kernel_rfl) (om_cons' ?_ (om_cons' ?_ om_nil'))
   ·have hc:=(sp_kit_next fu) (a.pr [0] [1,2,3,4,5] [0] r)  aU
    refine oc r r (ec cal57 r) hc ?_
    rintro _ ba ⟨rfl,S⟩
    replace a:=a.cl [0] [1,2,3,4,5] r S r
    try dsimp only [pick,nth,ca,na] at a
    have e:=(a.ad [2,4] [4])
    refine ⟨(sF e),?_⟩
    refine pF 14 r (xIdR u70_ ti9 r r aE (a.vw 4 4 r r) ac) e (tU 15 r (fun _ hS=>xLoad u9_ r r ((elF (ds:=[T aj]) (hS.vw 1 0 r r) ac (fun _ h=>h)) 0 _ r)) (sF e) ?_)
    refine hList' 16 [21] (by kernel_rfl) (om_cons' ?_ (om_cons' ?_ om_nil'))
    ·refine oo r r (aRowB a [[T (⟨#[120]⟩:BA)],[T (⟨#[121]⟩:BA)]] ([(⟨#[120]⟩:BA),(⟨#[121]⟩:BA)]:List BA) (bs70_2_a r r) r r (by decide) ⟨r,⟨r,y⟩⟩) ?_
     rintro _ bO ⟨bP,rfl,a⟩
     have e:=(a.ad [3,5] [5])
     refine ⟨(sF e),?_⟩
     have hc:=(sp_kit_next fu) (a.pr [1] [0,2,3,4,5,6] [1] r)  aI
     refine hO 21 (oc r r (ec cal57 r) hc ?_)
     rintro _ aV ⟨rfl,S⟩
     replace a:=a.cl [1] [0,2,3,4,5,6] r S r
     try dsimp only [pick,nth,ca,na] at a
     have e:=(a.ad [3,5] [6])
     refine ⟨(sF e),?_⟩
     refine pF 22 r (xIdR u70_ ti9 r r ax (a.vw 1 1 r r) a3) e ?_
     refine hO 23 (oRun' r r (xLoad u9_ r r ((elF (ds:=[T aa]) (a.vw 1 1 r r) a3 (fun _ h=>h)) 0 _ r)) (sF e) ?_)
     refine pF 24 r (bd138_0_3_4 r r r) e ?_
     refine hO 25 (os r r (tb a 2 [V 2,V 0,V 0,T aj,T aa,sn] r ti138 r r r r r (show _=#[V 2,V 0,V 0,T aj,T aa,sn] from r)) ?_)
     intro bQ a
     try dsimp only [List.set] at a
     have e:=(a.ad [3,5] [6])
     refine ⟨(sF e),?_⟩
     refine hD ?_
     exact hJd _ _ ⟨⟨r,y⟩,(a.ad [0,2,3,4,5,6] [4,5,6,7,0])⟩
    have hc:=(sp_kit_next fu) (a.pr [0] [1,2,3,4,5] [0] r)  aI
    refine oc r r (ec cal57 r) hc ?_
    rintro _ aV ⟨rfl,S⟩
    replace a:=a.cl [0] [1,2,3,4,5] r S r
    try dsimp only [pick,nth,ca,na] at a
    have e:=(a.ad [2,4] [5])
    refine ⟨(sF e),?_⟩
    refine hO 16 (oo r r (aRowB a [[T (⟨#[120]⟩:BA)],[T (⟨#[121]⟩:BA)]] ([(⟨#[120]⟩:BA),(⟨#[121]⟩:BA)]:List BA) (bs70_2_a r r) r r (by decide) ⟨r,⟨r,y⟩⟩) ?_)
    rintro _ bR ⟨bS,rfl,a⟩
    have e:=(a.ad [3,5] [6])
    refine ⟨(sF e),?_⟩
    refine pF 22 r (xIdR u70_ ti9 r r ax (a.vw 0 0 r r) a3) e ?_
    refine hO 23 (oRun' r r (xLoad u9_ r r ((elF (ds:=[T aa]) (a.vw 0 0 r r) a3 (fun _ h=>h)) 0 _ r)) (sF e) ?_)
    refine pF 24 r (bd138_0_3_4 r r r) e ?_
    refine hO 25 (os r r (tb a 2 [V 2,V 0,V 0,T aj,T aa,sn] r ti138 r r r r r (show _=#[V 2,V 0,V 0,T aj,T aa,sn] from r)) ?_)
    intro bT a
    try dsimp only [List.set] at a
    have e:=(a.ad [3,5] [6])
    refine ⟨(sF e),?_⟩
    refine hD ?_
    exact hJd _ _ ⟨⟨r,y⟩,(a.ad [1,2,3,4,5,6] [4,5,6,7,1])⟩
   refine oo r r (aRowB a [[T (⟨#[120]⟩:BA)],[T (⟨#[121]⟩:BA)]] ([(⟨#[120]⟩:BA),(⟨#[121]⟩:BA)]:List BA) (bs70_2_a r r) r r (by decide) ⟨r,⟨r,y⟩⟩) ?_
   rintro _ bU ⟨bV,rfl,a⟩
   have e:=(a.ad [3,5] [4])
   refine ⟨(sF e),?_⟩
   have hc:=(sp_kit_next fu) (a.pr [1] [0,2,3,4,5,6] [1] r)  aU
   refine hO 13 (oc r r (ec cal57 r) hc ?_)
   rintro _ ba ⟨rfl,S⟩
   replace a:=a.cl [1] [0,2,3,4,5,6] r S r
   try dsimp only [pick,nth,ca,na] at a
   have e:=(a.ad [3,5] [5])
   refine ⟨(sF e),?_⟩
   refine pF 14 r (xIdR u70_ ti9 r r aE (a.vw 5 5 r r) ac) e (tU 15 r (fun _ hS=>xLoad u9_ r r ((elF (ds:=[T aj]) (hS.vw 1 0 r r) ac (fun _ h=>h)) 0 _ r)) (sF e) ?_)
   have hc:=(sp_kit_next fu) (a.pr [0] [1,2,3,4,5,6] [0] r)  aI
   refine hO 21 (oc r r (ec cal57 r) hc ?_)
   rintro _ aV ⟨rfl,S⟩
   replace a:=a.cl [0] [1,2,3,4,5,6] r S r
   try dsimp only [pick,nth,ca,na] at a
   have e:=(a.ad [3,5] [6])
   refine ⟨(sF e),?_⟩
   refine pF 22 r (xIdR u70_ ti9 r r ax (a.vw 1 2 r r) a3) e ?_
   refine hO 23 (oRun' r r (xLoad u9_ r r ((elF (ds:=[T aa]) (a.vw 1 2 r r) a3 (fun _ h=>h)) 0 _ r)) (sF e) ?_)
   refine pF 24 r (bd138_0_3_4 r r r) e ?_
   refine hO 25 (os r r (tb a 2 [V 2,V 0,V 0,T aj,T aa,sn] r ti138 r r r r r (show _=#[V 2,V 0,V 0,T aj,T aa,sn] from r)) ?_)
   intro bW a
   try dsimp only [List.set] at a
   have e:=(a.ad [3,5] [6])
   refine ⟨(sF e),?_⟩
   refine hD ?_
   exact hJd _ _ ⟨⟨r,y⟩,(a.ad [0,2,3,4,5,6] [4,5,6,7,0])⟩
  clear a
  rintro f w ⟨hf,a⟩
  obtain ⟨cp,rfl⟩:=has_updL _ _ hf
  clear hf
  refine wRt ?_
  replace a:=a.dadd (d:=.l none 0 ([]:List Ge)) ln_
  obtain rfl:=sm c
  refine resV1 r (rdA r u138_ r ti138 r (a.bk 1 r)) ?_
  exact pok (pok (⟨none,0,r,(a.ad [2,0,3,4,5] [0,5,1,2,3,4])⟩))
 replace aw:=nt aw
 refine wIfF (cb aw) (q ?_)
 obtain ⟨bb,ae,c⟩:=bs c
 refine wJd (fun f w=>∃ (an:Bool),Has f [(0,Pt a7),(1,V x1),(4,Pt b1),(5,V ak),(90,.bool an)]∧Bx w0 w co G [.box p 132 #[Z m N.l o,V N.at_],.box b1 138 #[V 0,V 0,V 0,T be,T be,sn],.box a7 135 #[Pt p,V j.f,V j.funcs,Z D j.params E,Z t j.scalars u,Z v j.points x,Z z j.arrays A,V j.count,V j.left],O U t u 9 BA F,O W v x 9 BA H,O X z A 9 BA I] [.l m o N.l,.l D E j.params,.els F j.scalars,.els H j.points,.els I j.arrays]∧Ld.go an=bb) (fun bX aF=>?_) ?_
 ·unfold F_kit_expr_J3 at ae
  refine g (s (mi r) (s (xEqlD r r) (s (xMvB r) ?_)))
  rcases iv ae with ⟨aJ,ae⟩|⟨aJ,ae⟩
  ·rw [decide_eq_true aJ]
   refine sGo r (s (mp r) (sGo r (s (xn r) (sGo r (s (f135_6 r) (sGo r (s (l70 r (a.bk 2 r) r) (sGo r (s (xLnR u70_ r) (sGo r (s (xGtr r r) (s (xPkTB r r) (s (xAsB r) ?_)))))))))))))
   refine n ?_
   exact aF _ _ ⟨(decide (0 < (j.arrays.length:Int))),⟨r,r,r,r,r,y⟩,a,sm ae⟩
  rw [decide_eq_false aJ]
  refine sNo r (sNo r (sNo r (sNo r (sNo r (sNo r (s (xPkFB r r) (s (xAsB r) (n ?_))))))))
  exact aF _ _ ⟨false,⟨r,r,r,r,r,y⟩,a,sm ae⟩
 clear a
 rintro f w ⟨an,hf,a,aW⟩
 obtain ⟨cp,rfl⟩:=has_updL _ _ hf
 clear hf
 subst aW
 replace c:=gi c
 rcases iv c with ⟨ay,c⟩|⟨ay,c⟩
 ·refine wIfT (cb ay) (q (g (s (mp r) (s (mi r) (s (xAddW r r) ?_)))))
  obtain ⟨⟨C,bc,bd⟩,bg,c⟩:=bs c
  replace c:=pi c
  replace c:=pi c
  have hc:=H_kit_element (a.pr [2,0,3,4,5] [1] [0,1,2,3,4] r) (a.le a4) (a.le a5) (a.le a6) bg
  refine sc (ec cal110 r) hc ?_
  rintro _ bY ⟨a1,a2,rfl,S⟩
  replace a:=a.cl [2,0,3,4,5] [1] r S r
  try dsimp only [pick,nth,ca,na] at a
  refine sTs (tb a 5 [V C.Op,V C.Number,V C.Var,T C.Name,T C.Field,Z a1 C.Args a2] r ti138 r r r r r (show _=#[V C.Op,V C.Number,V C.Var,T C.Name,T C.Field,Z a1 C.Args a2] from r)) ?_
  intro bZ a
  try dsimp only [List.set] at a
  refine n (wRt ?_)
  obtain rfl:=sm c
  refine resV1 r (rdA r u138_ r ti138 r (a.bk 5 r)) ?_
  exact pok (pok (⟨a1,a2,r,(a.ad [0,1,2,3,4] [0,1,2,3,4,5])⟩))
 replace ay:=nt ay
 refine wIfF (cb ay) (q (g (s (mi r) (s (xEqlD r r) (s (xAsB r) (n ?_))))))
 rcases iv c with ⟨aK,c⟩|⟨aK,c⟩
 ·refine wIfT (bt aK) (q (g (s (mp r) (s (xn r) (s (f135_0 r) (s (l130 r (a.bk 2 r) r) ?_))))))
  obtain ⟨⟨az,bh⟩,bi,c⟩:=bs c
  replace c:=pi c
  have hc:=(sp_kit_next fu) (a.pr [0] [1,2,3,4,5] [0] r)  bi
  refine sc (ec cal57 r) hc ?_
  rintro _ c0 ⟨rfl,S⟩
  replace a:=a.cl [0] [1,2,3,4,5] r S r
  try dsimp only [pick,nth,ca,na] at a
  refine s (xAddW r r) (s (mp r) (s (mi r) (s (xAddW r r) ?_)))
  obtain ⟨⟨L,bj,bl⟩,bm,c⟩:=bs c
  replace c:=pi c
  replace c:=pi c
  have hc:=H_kit_expr (a.pr [2,0,3,4,5] [1] [0,2,3,4,5] r) (a.le a4) (a.le a5) (a.le a6) bm
  refine sc (ec cal83 r) hc ?_
  rintro _ c1 ⟨af,ag,rfl,S⟩
  replace a:=a.cl [2,0,3,4,5] [1] r S r
  try dsimp only [pick,nth,ca,na] at a
  refine sTo (aRowB a [[V L.Op,V L.Number,V L.Var,T L.Name,T L.Field,Z af L.Args ag]] ([L]:List Ge) (bs109_1_a r) r r (by decide) ⟨(GExpr.inn ⟨af,ag,r,(a.dl 0 r)⟩),y⟩) ?_
  rintro _ c2 ⟨aL,rfl,a⟩
  refine s (bd138_0_5 r r) (sTs (tb a 6 [V (wr (4+az)),V 0,V 0,T be,T be,.slice (ad aL) ([L]:List Ge).length 1] r ti138 r r r r r (show _=#[V (wr (4+az)),V 0,V 0,T be,T be,.slice (ad aL) ([L]:List Ge).length 1] from r)) ?_)
  intro c3 a
  try dsimp only [List.set] at a
  refine n (wRt ?_)
  replace a:=a.frz 0 0 r r
  try dsimp only [List.eraseIdx] at a
  obtain rfl:=sm c
  refine resV1 r (rdA r u138_ r ti138 r (a.bk 5 r)) ?_
  exact pok (pok (⟨(ad aL),1,r,(a.ad [0,1,2,3,4] [0,2,3,4,5,6])⟩))
 refine wIfF (bf aK) (wk (q (g (s (mp r) (s (xn r) (s (f135_0 r) (s (l130 r (a.bk 2 r) r) ?_)))))))
 obtain ⟨⟨aA,bn⟩,bo,c⟩:=bs c
 replace c:=pi c
 have hc:=(sp_kit_next fu) (a.pr [0] [1,2,3,4,5] [0] r)  bo
 refine sc (ec cal57 r) hc ?_
 rintro _ c4 ⟨rfl,S⟩
 replace a:=a.cl [0] [1,2,3,4,5] r S r
 try dsimp only [pick,nth,ca,na] at a
 refine s (xAddW r r) (s (xi r) (n (q (g (s (mp r) (s (mi r) (s (xAddW r r) ?_)))))))
 obtain ⟨⟨b,bp,bq⟩,br,c⟩:=bs c
 replace c:=pi c
 replace c:=pi c
 have hc:=H_kit_expr (a.pr [2,0,3,4,5] [1] [0,2,3,4,5] r) (a.le a4) (a.le a5) (a.le a6) br
 refine sc (ec cal83 r) hc ?_
 rintro _ c5 ⟨J,K,rfl,S⟩
 replace a:=a.cl [2,0,3,4,5] [1] r S r
 try dsimp only [pick,nth,ca,na] at a
 refine sTo (aNewB a (mAlloc ti138)) ?_
 rintro _ c6 ⟨c7,rfl,a⟩
 refine sTs (tb a 0 [V b.Op,V b.Number,V b.Var,T b.Name,T b.Field,Z J b.Args K] r ti138 r r r r r (show _=#[V b.Op,V b.Number,V b.Var,T b.Name,T b.Field,Z J b.Args K] from r)) ?_
 intro c8 a
 try dsimp only [List.set] at a
 refine n (q (wDr1 a [0] [] [] (by kernel_rfl) ?_))
 replace a:=a.drew
 have e:=(a.ad [0] [])
 refine pF 0 r (mi r) e (uF 1 r (fun hS=>xLoadS [V b.Op,V b.Number,V b.Var,T b.Name,T b.Field,Z J b.Args K] u138_ r ti138 r r (Cells.part (hS.bk 0 r).cells (o2:=0) r)) e (pF 2 r (mp r) e (pF 3 r (mi r) e (pF 4 r (xAddW r r) e ?_))))
 obtain ⟨⟨M,bu,bv⟩,bw,c⟩:=bs c
 replace c:=pi c
 replace c:=pi c
 have hc:=H_kit_expr (a.pr [1,2,3,4,5] [0,6] [1,2,3,4,5] r) (a.le a4) (a.le a5) (a.le a6) bw
 refine hO 5 (oc r r (ec cal83 r) hc ?_)
 rintro _ c9 ⟨ah,ai,rfl,S⟩
 replace a:=a.cl [1,2,3,4,5] [0,6] r S r
 try dsimp only [pick,nth,ca,na] at a
 have e:=(a.ad [5] [])
 refine ⟨(sF e),?_⟩
 refine hO 6 (oo r r (aRowB a [[V b.Op,V b.Number,V b.Var,T b.Name,T b.Field,Z J b.Args K],[V M.Op,V M.Number,V M.Var,T M.Name,T M.Field,Z ah M.Args ai]] ([b,M]:List Ge) (bs109_2_a r r) r r (by decide) ⟨(GExpr.inn ⟨J,K,r,(a.dl 6 r)⟩),⟨(GExpr.inn ⟨ah,ai,r,(a.dl 0 r)⟩),y⟩⟩) ?_)
 rintro _ cc ⟨aM,rfl,a⟩
 have e:=(a.ad [6] [])
 refine ⟨(sF e),?_⟩
 refine pF 7 r (bd138_0_5 r r) e ?_
 refine hO 8 (os r r (tb a 7 [V (wr (6+aA)),V 0,V 0,T be,T be,.slice (ad aM) ([b,M]:List Ge).length 2] r ti138 r r r r r (show _=#[V (wr (6+aA)),V 0,V 0,T be,T be,.slice (ad aM) ([b,M]:List Ge).length 2] from r)) ?_)
 intro cd a
 try dsimp only [List.set] at a
 have e:=(a.ad [6] [])
 refine ⟨(sF e),?_⟩
 refine hD (wRt ?_)
 replace a:=a.frz 0 0 r r
 try dsimp only [List.eraseIdx] at a
 obtain rfl:=sm c
 refine resV1 r (rdA r u138_ r ti138 r (a.bk 6 r)) ?_
 exact pok (pok (⟨(ad aM),2,r,(a.ad [0,1,2,3,4] [0,2,3,4,5,6])⟩))
theorem wk_kit_element (fu:Nat)(r_kit_expr:T_kit_expr) (r_kit_element:T_kit_element) (H_kit_expr:Ct_kit_expr r_kit_expr) (H_kit_element:Ct_kit_element r_kit_element):Ct_kit_element (F_kit_element fu r_kit_expr r_kit_element):=by
 intro w0 aA J K x1 a0 t u v L M w x N Q z A S U B C W X R hP D E F d
 unfold F_kit_element at d
 have a:=hP.bx
 clear hP
 generalize hG:Gof _=G at a ⊢
 refine cf Try.func110 r ?_
 refine wCut [(0,Pt a0),(1,V x1)] ⟨r,r,y⟩ fun aB=>?_
 refine q (g (sTo (aNewB a (mAlloc ti138)) ?_))
 rintro _ w1 ⟨b1,rfl,a⟩
 refine n (q (wDr1 a [1,5] [4] [] (by kernel_rfl) ?_))
 replace a:=a.drew
 have m:=(a.ad [1,5] [4])
 refine pF 0 r (mp r) m (pF 1 r (xn r) m (pF 2 r (f135_6 r) m (uF 3 r (fun hS=>l70 r (hS.bk 0 r) r) m (pF 4 r (mp r) m (pF 5 r (xn r) m (pF 6 r (f135_0 r) m (uF 7 r (fun hS=>l130 r (hS.bk 0 r) r) m (pF 8 r (mp r) m (pF 9 r (xn r) m (pF 10 r (f135_6 r) m (uF 11 r (fun hS=>l70 r (hS.bk 0 r) r) m (pF 12 r (xLnR u70_ r) m ?_))))))))))))
 obtain ⟨⟨a9,aa⟩,h2,d⟩:=bs d
 replace d:=pi d
 have hc:=(sp_kit_next fu) (a.pr [2] [0,1,3,4,5] [0] r)  h2
 refine hO 13 (oc r r (ec cal57 r) hc ?_)
 rintro _ w2 ⟨rfl,H⟩
 replace a:=a.cl [2] [0,1,3,4,5] r H r
 try dsimp only [pick,nth,ca,na] at a
 have m:=(a.ad [2,5] [5])
 refine ⟨(sF m),?_⟩
 obtain ⟨e3,I,d⟩:=bs d
 obtain ⟨k3,a2,I⟩:=ix_inv I
 refine pF 14 r (xIdR u70_ ti9 r r a2 (a.vw 5 5 r r) I) m (tU 15 r (fun _ hS=>xLoad u9_ r r ((elF (ds:=[T e3]) (hS.vw 1 0 r r) I (fun _ h=>h)) 0 _ r)) (sF m) (pF 16 r (xAsT r) m (hD (q (q (g (s (mp r) (s (xn r) (s (f135_0 r) (s (l130 r (a.bk 2 r) r) ?_))))))))))
 obtain ⟨⟨ab,ac⟩,h4,d⟩:=bs d
 replace d:=pi d
 have hc:=(sp_kit_next fu) (a.pr [0] [1,2,3,4,5] [0] r)  h4
 refine sc (ec cal57 r) hc ?_
 rintro _ w4 ⟨rfl,H⟩
 replace a:=a.cl [0] [1,2,3,4,5] r H r
 try dsimp only [pick,nth,ca,na] at a
 refine s (xGtr r r) (n ?_)
 rcases iv d with ⟨h5,d⟩|⟨h5,d⟩
 ·refine wIfT (bt h5) (q (g (s (xMvT r) (s (mp r) (s (xn r) (s (f135_0 r) (s (l130 r (a.bk 2 r) r) ?_)))))))
  obtain ⟨⟨ae,af⟩,h6,d⟩:=bs d
  replace d:=pi d
  have hc:=(sp_kit_next fu) (a.pr [0] [1,2,3,4,5] [0] r)  h6
  refine sc (ec cal57 r) hc ?_
  rintro _ w6 ⟨rfl,H⟩
  replace a:=a.cl [0] [1,2,3,4,5] r H r
  try dsimp only [pick,nth,ca,na] at a
  obtain ⟨c,h7,d⟩:=bs d
  have hc:=(sp_kit_literal fu) (a.pr [] [0,1,2,3,4,5] [] r)  h7
  refine sc (ec cal108 r) hc ?_
  rintro _ w7 ⟨o,p,rfl,H⟩
  replace a:=a.cl [] [0,1,2,3,4,5] r H r
  try dsimp only [pick,nth,ca,na] at a
  refine sTo (aRowB a [[V c.Op,V c.Number,V c.Var,T c.Name,T c.Field,Z o c.Args p]] ([c]:List Ge) (bs109_1_a r) r r (by decide) ⟨(GExpr.inn ⟨o,p,r,(a.dl 0 r)⟩),y⟩) ?_
  rintro _ w8 ⟨b8,rfl,a⟩
  refine s (bd138_0_3_5 r r r) (sTs (tb a 2 [V 3,V 0,V 0,T e3,T be,.slice (ad b8) ([c]:List Ge).length 1] r ti138 r r r r r (show _=#[V 3,V 0,V 0,T e3,T be,.slice (ad b8) ([c]:List Ge).length 1] from r)) ?_)
  intro w9 a
  try dsimp only [List.set] at a
  refine n (wRt ?_)
  replace a:=a.frz 0 0 r r
  try dsimp only [List.eraseIdx] at a
  obtain rfl:=sm d
  refine resV1 r (rdA r u138_ r ti138 r (a.bk 1 r)) ?_
  exact pok (pok (⟨(ad b8),1,r,(a.ad [2,0,3,4,5] [0,2,6,7,8,9])⟩))
 refine wIfF (bf h5) (wk (q (g (s (xMvT r) (s (mp r) (s (mi r) ?_))))))
 obtain ⟨⟨b,a5,a6⟩,a7,d⟩:=bs d
 replace d:=pi d
 replace d:=pi d
 have hc:=H_kit_expr (a.pr [2,0,3,4,5] [1] [0,3,4,5,6] r) (a.le D) (a.le E) (a.le F) a7
 refine sc (ec cal83 r) hc ?_
 rintro _ al ⟨e,j,rfl,H⟩
 replace a:=a.cl [2,0,3,4,5] [1] r H r
 try dsimp only [pick,nth,ca,na] at a
 refine sTo (aRowB a [[V b.Op,V b.Number,V b.Var,T b.Name,T b.Field,Z e b.Args j]] ([b]:List Ge) (bs109_1_a r) r r (by decide) ⟨(GExpr.inn ⟨e,j,r,(a.dl 0 r)⟩),y⟩) ?_
 rintro _ am ⟨Y,rfl,a⟩
 refine s (bd138_0_3_5 r r r) (sTs (tb a 6 [V 3,V 0,V 0,T e3,T be,.slice (ad Y) ([b]:List Ge).length 1] r ti138 r r r r r (show _=#[V 3,V 0,V 0,T e3,T be,.slice (ad Y) ([b]:List Ge).length 1] from r)) ?_)
 intro an a
 try dsimp only [List.set] at a
 refine n (wRt ?_)
 replace a:=a.frz 0 0 r r
 try dsimp only [List.eraseIdx] at a
 obtain rfl:=sm d
 refine resV1 r (rdA r u138_ r ti138 r (a.bk 5 r)) ?_
 exact pok (pok (⟨(ad Y),1,r,(a.ad [0,1,2,3,4] [0,2,3,4,5,6])⟩))
theorem sps_kit_expr (fu:Nat):Ct_kit_expr (m_kit_expr fu)∧Ct_kit_element (m_kit_element fu):=by
 induction fu with
 | zero=>exact ⟨by intro a b;intros;exact nn (by assumption),by intro a b;intros;exact nn (by assumption)⟩
 | succ fu ih=>exact ⟨wk_kit_expr fu (m_kit_expr fu) (m_kit_element fu) ih.1 ih.2,wk_kit_element fu (m_kit_expr fu) (m_kit_element fu) ih.1 ih.2⟩
theorem sp_kit_expr (fu:Nat):Ct_kit_expr (m_kit_expr fu):=(sps_kit_expr fu).1
theorem sp_kit_element (fu:Nat):Ct_kit_element (m_kit_element fu):=(sps_kit_expr fu).2
def Ct_kit_call (m:Gm→GTape→Gs→Option (Bool × Gm × GTape × Gs)):Prop:=∀ {w0:World} {a4:Nat→Prop} {I:Gm} {J:GTape} {d:Gs} {a0:Nat} {e:Nat} {a:Option Addr} {b:Nat} {u:Option Addr} {x:Nat} {h:Option Addr} {i:Nat} {z:List (List Value)} {K:Nat} {j:Option Addr} {k:Nat} {A:List (List Value)} {L:Nat} {o:Option Addr} {p:Nat} {B:List (List Value)} {M:Nat} {a1:Nat} {C:Option Addr} {D:Nat} {N:Option Addr} {P:Nat} {S:List (List Value)} {Q:Nat} {E:Option Addr} {F:Nat} {G:Option Addr} {H:Nat} {R:Bool × Gm × GTape × Gs},Pre w0 a4 [.box a0 135 #[Pt e,V I.f,V I.funcs,Z u I.params x,Z h I.scalars i,Z j I.points k,Z o I.arrays p,V I.count,V I.left],.box e 132 #[Z a J.l b,V J.at_],O K h i 9 BA z,O L j k 9 BA A,O M o p 9 BA B,.box a1 111 #[V d.Kind,V d.Line,V d.Id,T d.Name,T d.Type_,V d.Len,V d.Var,Z C d.Target D,T d.Func,V d.Callee,Z N d.Args P,Z E d.Body F,Z G d.Else H],O Q N P 138 Ge S] [.l a b J.l,.l u x I.params,.els z I.scalars,.els A I.points,.els B I.arrays,.l C D d.Target,.els S d.Args,.l E F d.Body,.l G H d.Else]→K≤w0.heap.size→L≤w0.heap.size→M≤w0.heap.size→Q≤w0.heap.size→m I J d=some R→
 Calls Try.prog 87 #[Pt a0,Pt a1] w0 (Ret fun v w=>pel R fun r0 R=>pel R fun t R=>pel R fun U c=>∃ (W:OA)(X:Nat)(Y:LV),v=.bool r0∧Bx w0 w a4 (Gof [.box a0 135 #[Pt e,V I.f,V I.funcs,Z u I.params x,Z h I.scalars i,Z j I.points k,Z o I.arrays p,V I.count,V I.left],.box e 132 #[Z a J.l b,V J.at_],O K h i 9 BA z,O L j k 9 BA A,O M o p 9 BA B,.box a1 111 #[V d.Kind,V d.Line,V d.Id,T d.Name,T d.Type_,V d.Len,V d.Var,Z C d.Target D,T d.Func,V d.Callee,Z N d.Args P,Z E d.Body F,Z G d.Else H],O Q N P 138 Ge S]) [.box a0 135 #[Pt e,V t.f,V t.funcs,Z u t.params x,Z h t.scalars i,Z j t.points k,Z o t.arrays p,V t.count,V t.left],.box e 132 #[Z a U.l b,V U.at_],O K h i 9 BA z,O L j k 9 BA A,O M o p 9 BA B,.box a1 111 #[V c.Kind,V c.Line,V c.Id,T c.Name,T c.Type_,V c.Len,V c.Var,Z C c.Target D,T c.Func,V c.Callee,Z W c.Args X,Z E c.Body F,Z G c.Else H],O Q W X 138 Ge Y] [.l a b U.l,.l u x t.params,.els z t.scalars,.els A t.points,.els B t.arrays,.l C D c.Target,.els Y c.Args,.l E F c.Body,.l G H c.Else])
def m_kit_call_J0 (fu:Nat)(e:Gm) (a:GTape) (k:Gs):Option (Ld (Int × List Int × Int) (Bool × Gm × GTape × Gs)):=
 if (wr (e.f+1)) < e.funcs then
  (m_kit_next fu a (wr (e.funcs - (wr (e.f+1))))).bind fun m=>
  pel m fun h b=>
  some (.go ((wr ((wr (e.f+1))+h)),b.l,b.at_))
 else
  (m_kit_next fu a 4).bind fun m=>
  pel m fun i c=>
  if i≠3 then
   some (.out (false,e,c,k))
  else
   (m_kit_next fu c e.funcs).bind fun m=>
   pel m fun j d=>
   some (.go (j,d.l,d.at_))
def m_kit_call_L1 (fu:Nat)(v:Int):Nat→Int→Int→Int→(List Int)→Int→Int→(List Int)→Int→(List BA)→(List BA)→(List BA)→(List Ge)→Option (Ld (Int × Int × Int × List Int × Int × Int × List Int × Int × List BA × List BA × List BA × List Ge) (Bool × Gm × GTape × Gs))
 | 0,_,_,_,_,_,_,_,_,_,_,_,_=>none
 | z+1,c,i,j,d,k,m,o,p,t,e,h,b=>
 (ix d v).bind fun A=>
 if c < A then
  (m_kit_expr fu (⟨i,j,d,t,e,h,k,m⟩:Gm) (⟨o,p⟩:GTape) 2).bind fun D=>
  pel D fun w D=>pel D fun a u=>
  (app b ([(⟨0,0,0,(⟨#[]⟩:BA),(⟨#[]⟩:BA),([]:List Ge)⟩:Ge)]:List Ge)).bind fun x=>
  (ix x (b.length:Int)).bind fun C=>
  (st x (b.length:Int) w).bind fun B=>
  m_kit_call_L1 fu v z (wr (c+1)) a.f a.funcs a.params a.count a.left u.l u.at_ a.scalars a.points a.arrays B
 else
  some (.go (c,i,j,d,k,m,o,p,t,e,h,b))
def m_kit_call (fu:Nat)(b:Gm) (v:GTape) (a:Gs):Option (Bool × Gm × GTape × Gs):=
 (m_kit_call_J0 fu b v a).bind fun B=>B.el (fun B=>
 pel B fun h B=>pel B fun w x=>
 (ix ([(⟨#[102]⟩:BA),(⟨#[103]⟩:BA),(⟨#[104]⟩:BA),(⟨#[107]⟩:BA)]:List BA) h).bind fun A=>
 (m_kit_call_L1 fu h fu 0 b.f b.funcs b.params b.count b.left w x b.scalars b.points b.arrays a.Args).bind fun B=>B.el (fun B=>
 pel B fun z B=>pel B fun i B=>pel B fun j B=>pel B fun k B=>pel B fun l B=>pel B fun m B=>pel B fun p B=>pel B fun t B=>pel B fun u B=>pel B fun c B=>pel B fun d e=>
 some (true,(⟨i,j,k,u,c,d,l,m⟩:Gm),(⟨p,t⟩:GTape),(⟨a.Kind,a.Line,a.Id,a.Name,a.Type_,a.Len,a.Var,a.Target,A,a.Callee,e,a.Body,a.Else⟩:Gs))
 ) (fun o=>some o)
 ) (fun o=>some o)
theorem sp_kit_call (fu:Nat):Ct_kit_call (m_kit_call fu):=by
 intro w0 c0 x0 aM c ay L t u a2 a3 M N a4 an Q S a5 ao U W a6 ap az v x ai aj aq ar z A B C R hP aC aD aE aF hM
 unfold m_kit_call at hM
 have b:=hP.bx
 clear hP
 generalize hG:Gof _=G at b ⊢
 refine cf Try.func87 r ?_
 refine wCut [(0,Pt ay),(1,Pt az)] ⟨r,r,y⟩ fun c1=>?_
 refine q (g (s (xAsB r) (n (q (g (s (mp r) (s (xn r) (s (f135_1 r) (s (l3 r (b.bk 0 r) r) (s (xAddW r r) (s (xi r) (n (q ?_)))))))))))))
 obtain ⟨Y1,K,hM⟩:=bs hM
 refine wJd (fun f w=>∃ (aw:Int)(aA:List Int) (aG:Int),Has f [(0,Pt ay),(1,Pt az),(5,V aw)]∧Bx w0 w c0 G [.box ay 135 #[Pt L,V x0.f,V x0.funcs,Z a2 x0.params a3,Z M x0.scalars N,Z Q x0.points S,Z U x0.arrays W,V x0.count,V x0.left],.box L 132 #[Z t aA u,V aG],O an M N 9 BA a4,O ao Q S 9 BA a5,O ap U W 9 BA a6,.box az 111 #[V c.Kind,V c.Line,V c.Id,T c.Name,T c.Type_,V c.Len,V c.Var,Z v c.Target x,T c.Func,V c.Callee,Z ai c.Args aj,Z z c.Body A,Z B c.Else C],O ar ai aj 138 Ge aq] [.l t u aA,.l a2 a3 x0.params,.els a4 x0.scalars,.els a5 x0.points,.els a6 x0.arrays,.l v x c.Target,.els aq c.Args,.l z A c.Body,.l B C c.Else]∧Ld.go (aw,aA,aG)=Y1) (fun J1 b2=>?_) ?_
 ·unfold m_kit_call_J0 at K
  refine q (g (s (mi r) (s (mp r) (s (xn r) (s (f135_2 r) (s (l3 r (b.bk 0 r) r) (s (xLss r r) (n ?_))))))))
  rcases iv K with ⟨h2,K⟩|⟨h2,K⟩
  ·refine wIfT (bt h2) (wDr1 b [0] [] [] (by kernel_rfl) ?_)
   replace b:=b.drew
   have p:=(b.ad [0] [])
   refine pF 0 r (mi r) p (pF 1 r (mp r) p (pF 2 r (xn r) p (pF 3 r (f135_0 r) p (uF 4 r (fun hS=>l130 r (hS.bk 0 r) r) p (pF 5 r (mp r) p (pF 6 r (xn r) p (pF 7 r (f135_2 r) p (uF 8 r (fun hS=>l3 r (hS.bk 0 r) r) p (pF 9 r (mi r) p (pF 10 r (xSubW r r) p ?_))))))))))
   obtain ⟨⟨b3,aN⟩,h3,K⟩:=bs K
   replace K:=pi K
   have hc:=(sp_kit_next fu) (b.pr [1] [0,2,3,4,5,6] [0] r)  h3
   refine hO 11 (oc r r (ec cal57 r) hc ?_)
   rintro _ w3 ⟨rfl,hK⟩
   replace b:=b.cl [1] [0,2,3,4,5,6] r hK r
   try dsimp only [pick,nth,ca,na] at b
   have p:=(b.ad [1] [])
   refine ⟨(sF p),?_⟩
   refine pF 12 r (xAddW r r) p (pF 13 r (xi r) p (hD ?_))
   exact b2 _ _ ⟨(wr ((wr (x0.f+1))+b3)),aN.l,aN.at_,⟨r,r,r,y⟩,(b.ad [1,0,2,3,4,5,6] [0,2,3,4,5,6,7,8,9]),sm K⟩
  refine wIfF (bf h2) (q (q (g (s (mp r) (s (xn r) (s (f135_0 r) (s (l130 r (b.bk 0 r) r) ?_)))))))
  obtain ⟨⟨bv,bw⟩,h4,K⟩:=bs K
  replace K:=pi K
  have hc:=(sp_kit_next fu) (b.pr [1] [0,2,3,4,5,6] [0] r)  h4
  refine sc (ec cal57 r) hc ?_
  rintro _ w4 ⟨rfl,hK⟩
  replace b:=b.cl [1] [0,2,3,4,5,6] r hK r
  try dsimp only [pick,nth,ca,na] at b
  refine s (xNeqD r r) (n ?_)
  rcases iv K with ⟨h5,K⟩|⟨h5,K⟩
  ·refine wIfT (bt h5) (q (g (s (xAsB r) (n (wRt ?_)))))
   obtain rfl:=sm K
   replace hM:=oi hM
   obtain rfl:=sm hM
   refine resV1 r (rdT r) ?_
   exact pok (pok (pok (⟨ai,aj,aq,r,(b.ad [1,0,2,3,4,5,6] [0,2,3,4,5,6,7,8,9])⟩)))
  refine wIfF (bf h5) (wk (wDr1 b [1] [] [] (by kernel_rfl) ?_))
  replace b:=b.drew
  have p:=(b.ad [1] [])
  refine pF 0 r (mp r) p (pF 1 r (xn r) p (pF 2 r (f135_0 r) p (uF 3 r (fun hS=>l130 r (hS.bk 0 r) r) p (pF 4 r (mp r) p (pF 5 r (xn r) p (pF 6 r (f135_2 r) p (uF 7 r (fun hS=>l3 r (hS.bk 0 r) r) p ?_)))))))
  obtain ⟨⟨b4,aO⟩,h6,K⟩:=bs K
  replace K:=pi K
  have hc:=(sp_kit_next fu) (b.pr [0] [1,2,3,4,5,6] [0] r)  h6
  refine hO 8 (oc r r (ec cal57 r) hc ?_)
  rintro _ w6 ⟨rfl,hK⟩
  replace b:=b.cl [0] [1,2,3,4,5,6] r hK r
  try dsimp only [pick,nth,ca,na] at b
  have p:=(b.ad [1] [])
  refine ⟨(sF p),?_⟩
  refine pF 9 r (xi r) p (hD ?_)
  exact b2 _ _ ⟨b4,aO.l,aO.at_,⟨r,r,r,y⟩,(b.ad [1,0,2,3,4,5,6] [0,3,4,5,6,7,8,9,10]),sm K⟩
 clear b
 rintro f w ⟨aw,aA,aG,hf,b,bl⟩
 obtain ⟨c1,rfl⟩:=has_updL _ _ hf
 clear hf
 subst bl
 replace hM:=gi hM
 replace hM:=pi hM
 replace hM:=pi hM
 refine q (g (s (mp r) (sTo (aRowB b [[T (⟨#[102]⟩:BA)],[T (⟨#[103]⟩:BA)],[T (⟨#[104]⟩:BA)],[T (⟨#[107]⟩:BA)]] ([(⟨#[102]⟩:BA),(⟨#[103]⟩:BA),(⟨#[104]⟩:BA),(⟨#[107]⟩:BA)]:List BA) (bs70_4_a r r r r) r r (by decide) ⟨r,⟨r,⟨r,⟨r,y⟩⟩⟩⟩) ?_)))
 rintro _ w7 ⟨b7,rfl,b⟩
 refine s (mi r) ?_
 obtain ⟨e8,aL,hM⟩:=bs hM
 obtain ⟨k8,bm,aL⟩:=ix_inv aL
 refine s (xIdR u70_ ti9 r r bm (b.vw 0 0 r r) aL) (s (xLoad u9_ r r ((elF (ds:=[T e8]) (b.vw 0 0 r r) aL (fun _ h=>h)) 0 _ r)) (s (xn r) (s (f111_8 r) (sTs (tb b 6 [T e8] r ti9 r r r r r (show _=#[V c.Kind,V c.Line,V c.Id,T c.Name,T c.Type_,V c.Len,V c.Var,Z v c.Target x,T e8,V c.Callee,Z ai c.Args aj,Z z c.Body A,Z B c.Else C] from r)) ?_))))
 intro w9 b
 try dsimp only [List.set] at b
 refine n (q (q (g (s (xi r) (n ?_)))))
 obtain ⟨b5,o,hM⟩:=bs hM
 refine wJd (fun f w=>∃ (a7:Int)(aa:Int)(ab:Int)(X:List Int) (ac:Int)(ae:Int)(Y:List Int) (af:Int)(a0:List BA) (H:List BA) (I:List BA) (J:List Ge) (D:OA)(E:Nat)(F:LV),Has f []∧Bx w0 w c0 G [.box ay 135 #[Pt L,V aa,V ab,Z a2 X a3,Z M a0 N,Z Q H S,Z U I W,V ac,V ae],.box L 132 #[Z t Y u,V af],O an M N 9 BA a4,O ao Q S 9 BA a5,O ap U W 9 BA a6,.box az 111 #[V c.Kind,V c.Line,V c.Id,T c.Name,T c.Type_,V c.Len,V c.Var,Z v c.Target x,T e8,V c.Callee,Z D J E,Z z c.Body A,Z B c.Else C],O ar D E 138 Ge F] [.l a2 a3 X,.l t u Y,.els a4 a0,.els a5 H,.els a6 I,.l v x c.Target,.els F J,.l z A c.Body,.l B C c.Else]∧Ld.go (a7,aa,ab,X,ac,ae,Y,af,a0,H,I,J)=b5) (fun bG b6=>?_) ?_
 ·refine wBk (wLoopGd (fun c2 f w=>∃ (a7:Int)(aa:Int)(ab:Int)(X:List Int) (ac:Int)(ae:Int)(Y:List Int) (af:Int)(a0:List BA) (H:List BA) (I:List BA) (J:List Ge) (D:OA)(E:Nat)(F:LV),Has f [(0,Pt ay),(1,Pt az),(5,V aw),(6,V a7)]∧Bx w0 w c0 G [.box ay 135 #[Pt L,V aa,V ab,Z a2 X a3,Z M a0 N,Z Q H S,Z U I W,V ac,V ae],.box L 132 #[Z t Y u,V af],O an M N 9 BA a4,O ao Q S 9 BA a5,O ap U W 9 BA a6,.box az 111 #[V c.Kind,V c.Line,V c.Id,T c.Name,T c.Type_,V c.Len,V c.Var,Z v c.Target x,T e8,V c.Callee,Z D J E,Z z c.Body A,Z B c.Else C],O ar D E 138 Ge F] [.l a2 a3 X,.l t u Y,.els a4 a0,.els a5 H,.els a6 I,.l v x c.Target,.els F J,.l z A c.Body,.l B C c.Else]∧m_kit_call_L1 fu aw c2 a7 aa ab X ac ae Y af a0 H I J=some b5) fu ⟨0,x0.f,x0.funcs,x0.params,x0.count,x0.left,aA,aG,x0.scalars,x0.points,x0.arrays,c.Args,ai,aj,aq,⟨r,r,r,r,y⟩,(b.ad [1,2,3,4,5,6,7] [2,1,3,4,5,6,7,8,9]),o⟩ ?_)
  clear b o
  rintro aT f w ⟨a7,aa,ab,X,ac,ae,Y,af,a0,H,I,J,D,E,F,hf,b,o⟩ bH b8
  obtain ⟨c1,rfl⟩:=has_updL _ _ hf
  clear hf
  cases aT with
  | zero=>exact nn o
  | succ aT=>
   rw [m_kit_call_L1] at o
   refine q (q (g (s (mi r) (s (mp r) (s (xn r) (s (f135_3 r) (s (l22 r (b.bk 0 r) r) (s (mi r) ?_))))))))
   obtain ⟨bn,aH,o⟩:=bs o
   obtain ⟨bI,b9,aH⟩:=ix_inv aH
   refine s (xIdR u22_ ti3 r r b9 (b.dl 0 r) aH) (s (xLoad u3_ r r ((elF (ds:=[V bn]) (b.dl 0 r) aH (fun _ h=>h)) 0 _ r)) (s (xLss r r) (n ?_)))
   rcases iv o with ⟨aU,o⟩|⟨aU,o⟩
   ·refine wIfT (bt aU) (wk (q (wBk ?_)))
    obtain ⟨⟨a,m,au⟩,ba,o⟩:=bs o
    replace o:=pi o
    replace o:=pi o
    obtain ⟨aB,aP,o⟩:=bs o
    obtain ⟨bb,ax,o⟩:=bs o
    obtain ⟨aI,aQ,ax⟩:=ix_inv ax
    obtain ⟨av,ah,o⟩:=bs o
    obtain ⟨bo,bz,_,ah⟩:=st_inv ah
    obtain rfl:aI=bo:=by omega
    refine wJd (fun f w=>∃ (a8:OA)(a9:Nat)(am:LV),Has f [(0,Pt ay),(1,Pt az),(5,V aw),(6,V a7)]∧Bx w0 w c0 G [.box ay 135 #[Pt L,V m.f,V m.funcs,Z a2 m.params a3,Z M m.scalars N,Z Q m.points S,Z U m.arrays W,V m.count,V m.left],.box L 132 #[Z t au.l u,V au.at_],O an M N 9 BA a4,O ao Q S 9 BA a5,O ap U W 9 BA a6,.box az 111 #[V c.Kind,V c.Line,V c.Id,T c.Name,T c.Type_,V c.Len,V c.Var,Z v c.Target x,T e8,V c.Callee,Z a8 av a9,Z z c.Body A,Z B c.Else C],O ar a8 a9 138 Ge am] [.els a4 m.scalars,.els a5 m.points,.els a6 m.arrays,.l v x c.Target,.els am av,.l z A c.Body,.l B C c.Else,.l a2 a3 m.params,.l t u au.l]) (fun Jd hJd=>?_) ?_
    ·refine wDr b [] [] [5] [] [13] (by kernel_rfl) ?_
     replace b:=b.drew
     have p:=(b.ad [] [])
     have hu:=(b.ad [5] [])
     refine pL 0 r (mp r) p hu (pL 1 r (xn r) p hu (pL 2 r (f111_10 r) p hu (tS 1 3 r (fun _ hS=>l109 r (hS.bk 0 r) r) (sl_ p hu) (pL 4 r (mp r) p hu (pL 6 r (xLnR u109_ r) p hu ?_)))))
     refine hList' 5 [7] (by kernel_rfl) (om_cons' ?_ (om_cons' ?_ om_nil'))
     ·have hc:=(sp_kit_expr fu) (b.pr [0,1,2,3,4] [5,6] [1,0,2,3,4] r) (b.le aC) (b.le aD) (b.le aE) ba
      refine oc r r (ec cal83 r) hc ?_
      rintro _ bp ⟨e,j,rfl,hK⟩
      replace b:=b.cl [0,1,2,3,4] [5,6] r hK r
      try dsimp only [pick,nth,ca,na] at b
      have p:=(b.ad [] [])
      have hu:=(b.ad [5] [])
      refine ⟨(sl_ p hu),?_⟩
      refine hO 7 (oo r r (aRowB b [[V 0,V 0,V 0,T (⟨#[]⟩:BA),T (⟨#[]⟩:BA),sn]] ([(⟨0,0,0,(⟨#[]⟩:BA),(⟨#[]⟩:BA),([]:List Ge)⟩:Ge)]:List Ge) (bs109_1_a r) r r (by decide) ⟨(GExpr.inn ⟨none,0,r,ln_⟩),y⟩) ?_)
      rintro _ bJ ⟨bK,rfl,b⟩
      have p:=(b.ad [] [])
      have hu:=(b.ad [6] [])
      refine ⟨(sl_ p hu),?_⟩
      refine hO 8 (oo r r (aAppB b 7 13 r r u109_ ti138 r (by decide) (by decide) aF r r (b.ysO 0 0 r r) aP) ?_)
      rintro _ bq ⟨a8,a9,br,rfl,b⟩
      have p:=(b.ad [] [])
      have hu:=(b.ad [6] [])
      refine ⟨(sl_ p hu),?_⟩
      obtain ⟨bA,aR,bc⟩:=(b.de 13 rfl).get ax
      obtain ⟨aV,aW,rfl,aX⟩:=GExpr.out bc
      replace b:=b.dadd (d:=.l aV aW bb.Args) aX
      refine pL 9 r (xIdR u109_ ti138 r r aQ (b.vw 7 14 r r) ax) p hu (pL 11 r (xn r) p hu (pL 12 r (f111_10 r) p hu ?_))
      refine hList' 10 [13] (by kernel_rfl) (om_cons' ?_ (om_cons' ?_ om_nil'))
      ·refine os r r (tStO b 7 14 aI 0 [V a.Op,V a.Number,V a.Var,T a.Name,T a.Field,Z e a.Args j] r r aR ti138 r r r r r (show _=[V a.Op,V a.Number,V a.Var,T a.Name,T a.Field,Z e a.Args j] from r) (GExpr.inn ⟨e,j,r,(b.dl 2 r)⟩) ah) ?_
       rintro aY ⟨am,b⟩
       try dsimp only [List.set] at b
       have ag:aB.length=av.length:=by rw [← ah,List.length_set]
       try dsimp only [Z] at b
       try rw [ag] at b
       try dsimp only [Z]
       try rw [ag]
       have p:=(b.ad [] [])
       have hu:=(b.ad [6] [])
       refine ⟨(sl_ p hu),?_⟩
       refine hO 13 (os r r (tb b 6 [Z a8 av a9] r ti109 r r r r r (show _=#[V c.Kind,V c.Line,V c.Id,T c.Name,T c.Type_,V c.Len,V c.Var,Z v c.Target x,T e8,V c.Callee,Z a8 av a9,Z z c.Body A,Z B c.Else C] from r)) ?_)
       intro bL b
       try dsimp only [List.set] at b
       have p:=(b.ad [] [])
       refine ⟨(sy 13 p),?_⟩
       refine hD ?_
       exact hJd _ _ ⟨a8,a9,am,⟨r,r,r,r,y⟩,(b.ad [1,2,3,4,5,6,7] [5,6,7,13,14,15,16,4,3])⟩
      refine os r r (tb b 6 [Z a8 aB a9] r ti109 r r r r r (show _=#[V c.Kind,V c.Line,V c.Id,T c.Name,T c.Type_,V c.Len,V c.Var,Z v c.Target x,T e8,V c.Callee,Z a8 aB a9,Z z c.Body A,Z B c.Else C] from r)) ?_
      intro bM b
      try dsimp only [List.set] at b
      have p:=(b.ad [] [])
      refine ⟨(sy 13 p),?_⟩
      refine hO 10 (os r r (tStO b 7 14 aI 0 [V a.Op,V a.Number,V a.Var,T a.Name,T a.Field,Z e a.Args j] r r aR ti138 r r r r r (show _=[V a.Op,V a.Number,V a.Var,T a.Name,T a.Field,Z e a.Args j] from r) (GExpr.inn ⟨e,j,r,(b.dl 2 r)⟩) ah) ?_)
      rintro aY ⟨am,b⟩
      try dsimp only [List.set] at b
      have ag:aB.length=av.length:=by rw [← ah,List.length_set]
      try dsimp only [Z] at b
      try rw [ag] at b
      try dsimp only [Z]
      try rw [ag]
      have p:=(b.ad [] [])
      refine ⟨(sy 13 p),?_⟩
      refine hD ?_
      exact hJd _ _ ⟨a8,a9,am,⟨r,r,r,r,y⟩,(b.ad [1,2,3,4,5,6,7] [5,6,7,13,14,15,16,4,3])⟩
     refine oo r r (aRowB b [[V 0,V 0,V 0,T (⟨#[]⟩:BA),T (⟨#[]⟩:BA),sn]] ([(⟨0,0,0,(⟨#[]⟩:BA),(⟨#[]⟩:BA),([]:List Ge)⟩:Ge)]:List Ge) (bs109_1_a r) r r (by decide) ⟨(GExpr.inn ⟨none,0,r,ln_⟩),y⟩) ?_
     rintro _ bN ⟨bO,rfl,b⟩
     have p:=(b.ad [] [])
     have hu:=(b.ad [6] [])
     refine ⟨(sl_ p hu),?_⟩
     have hc:=(sp_kit_expr fu) (b.pr [1,2,3,4,5] [0,6,7] [2,1,3,4,5] r) (b.le aC) (b.le aD) (b.le aE) ba
     refine hO 5 (oc r r (ec cal83 r) hc ?_)
     rintro _ bp ⟨e,j,rfl,hK⟩
     replace b:=b.cl [1,2,3,4,5] [0,6,7] r hK r
     try dsimp only [pick,nth,ca,na] at b
     have p:=(b.ad [] [])
     have hu:=(b.ad [6] [])
     refine ⟨(sl_ p hu),?_⟩
     refine hO 8 (oo r r (aAppB b 7 13 r r u109_ ti138 r (by decide) (by decide) aF r r (b.ysO 5 6 r r) aP) ?_)
     rintro _ bq ⟨a8,a9,br,rfl,b⟩
     have p:=(b.ad [] [])
     have hu:=(b.ad [6] [])
     refine ⟨(sl_ p hu),?_⟩
     obtain ⟨bB,aS,bd⟩:=(b.de 13 rfl).get ax
     obtain ⟨aZ,b0,rfl,b1⟩:=GExpr.out bd
     replace b:=b.dadd (d:=.l aZ b0 bb.Args) b1
     refine pL 9 r (xIdR u109_ ti138 r r aQ (b.vw 7 14 r r) ax) p hu (pL 11 r (xn r) p hu (pL 12 r (f111_10 r) p hu ?_))
     refine hList' 10 [13] (by kernel_rfl) (om_cons' ?_ (om_cons' ?_ om_nil'))
     ·refine os r r (tStO b 7 14 aI 0 [V a.Op,V a.Number,V a.Var,T a.Name,T a.Field,Z e a.Args j] r r aS ti138 r r r r r (show _=[V a.Op,V a.Number,V a.Var,T a.Name,T a.Field,Z e a.Args j] from r) (GExpr.inn ⟨e,j,r,(b.dl 1 r)⟩) ah) ?_
      rintro aY ⟨am,b⟩
      try dsimp only [List.set] at b
      have ag:aB.length=av.length:=by rw [← ah,List.length_set]
      try dsimp only [Z] at b
      try rw [ag] at b
      try dsimp only [Z]
      try rw [ag]
      have p:=(b.ad [] [])
      have hu:=(b.ad [6] [])
      refine ⟨(sl_ p hu),?_⟩
      refine hO 13 (os r r (tb b 6 [Z a8 av a9] r ti109 r r r r r (show _=#[V c.Kind,V c.Line,V c.Id,T c.Name,T c.Type_,V c.Len,V c.Var,Z v c.Target x,T e8,V c.Callee,Z a8 av a9,Z z c.Body A,Z B c.Else C] from r)) ?_)
      intro bP b
      try dsimp only [List.set] at b
      have p:=(b.ad [] [])
      refine ⟨(sy 13 p),?_⟩
      refine hD ?_
      exact hJd _ _ ⟨a8,a9,am,⟨r,r,r,r,y⟩,(b.ad [0,1,2,3,4,6,7] [4,5,6,13,14,15,16,3,2])⟩
     refine os r r (tb b 6 [Z a8 aB a9] r ti109 r r r r r (show _=#[V c.Kind,V c.Line,V c.Id,T c.Name,T c.Type_,V c.Len,V c.Var,Z v c.Target x,T e8,V c.Callee,Z a8 aB a9,Z z c.Body A,Z B c.Else C] from r)) ?_
     intro bQ b
     try dsimp only [List.set] at b
     have p:=(b.ad [] [])
     refine ⟨(sy 13 p),?_⟩
     refine hO 10 (os r r (tStO b 7 14 aI 0 [V a.Op,V a.Number,V a.Var,T a.Name,T a.Field,Z e a.Args j] r r aS ti138 r r r r r (show _=[V a.Op,V a.Number,V a.Var,T a.Name,T a.Field,Z e a.Args j] from r) (GExpr.inn ⟨e,j,r,(b.dl 1 r)⟩) ah) ?_)
     rintro aY ⟨am,b⟩
     try dsimp only [List.set] at b
     have ag:aB.length=av.length:=by rw [← ah,List.length_set]
     try dsimp only [Z] at b
     try rw [ag] at b
     try dsimp only [Z]
     try rw [ag]
     have p:=(b.ad [] [])
     refine ⟨(sy 13 p),?_⟩
     refine hD ?_
     exact hJd _ _ ⟨a8,a9,am,⟨r,r,r,r,y⟩,(b.ad [0,1,2,3,4,6,7] [4,5,6,13,14,15,16,3,2])⟩
    clear b
    rintro f w ⟨a8,a9,am,hf,b⟩
    obtain ⟨c1,rfl⟩:=has_updL _ _ hf
    clear hf
    refine g (s (mi r) (s (xAddW r r) (s (xi r) (n ?_))))
    exact b8 aT _ _ (Nat.lt_succ_self _) ⟨(wr (a7+1)),m.f,m.funcs,m.params,m.count,m.left,au.l,au.at_,m.scalars,m.points,m.arrays,av,a8,a9,am,⟨r,r,r,r,y⟩,(b.dp [7,8,0,1,2,3,4,5,6]),o⟩
   refine wIfF (bf aU) (wEx ?_)
   exact b6 _ _ ⟨a7,aa,ab,X,ac,ae,Y,af,a0,H,I,J,D,E,F,y,b,sm o⟩
 clear b
 rintro f w ⟨a7,aa,ab,X,ac,ae,Y,af,a0,H,I,J,D,E,F,hf,b,bg⟩
 obtain ⟨c1,rfl⟩:=has_updL _ _ hf
 clear hf
 subst bg
 replace hM:=gi hM
 replace hM:=pi hM
 replace hM:=pi hM
 replace hM:=pi hM
 replace hM:=pi hM
 replace hM:=pi hM
 replace hM:=pi hM
 replace hM:=pi hM
 replace hM:=pi hM
 replace hM:=pi hM
 replace hM:=pi hM
 replace hM:=pi hM
 refine q (g (s (xAsB r) (n (wRt ?_))))
 obtain rfl:=sm hM
 refine resV1 r (rdT r) ?_
 exact pok (pok (pok (⟨D,E,F,r,(b.dp [1,0,2,3,4,5,6,7,8])⟩)))
def Ct_kit_declare (m:Gm→GTape→Option (Gs × Gm × GTape)):Prop:=∀ {w0:World} {a5:Nat→Prop} {i:Gm} {j:GTape} {a3:Nat} {c:Nat} {a:Option Addr} {b:Nat} {e:Option Addr} {h:Nat} {k:Option Addr} {o:Nat} {D:List (List Value)} {p:Nat} {t:Option Addr} {u:Nat} {E:List (List Value)} {x:Nat} {z:Option Addr} {A:Nat} {F:List (List Value)} {B:Nat} {R:Gs × Gm × GTape},Pre w0 a5 [.box a3 135 #[Pt c,V i.f,V i.funcs,Z e i.params h,Z k i.scalars o,Z t i.points u,Z z i.arrays A,V i.count,V i.left],.box c 132 #[Z a j.l b,V j.at_],O p k o 9 BA D,O x t u 9 BA E,O B z A 9 BA F] [.l a b j.l,.l e h i.params,.els D i.scalars,.els E i.points,.els F i.arrays]→p≤w0.heap.size→x≤w0.heap.size→B≤w0.heap.size→m i j=some R→
 Calls Try.prog 82 #[Pt a3] w0 (Ret fun v w=>pel R fun C R=>pel R fun d G=>∃ (S:OA)(U:Nat)(W:OA)(X:Nat)(Y:OA)(a0:Nat)(a1:OA)(a2:Nat)(H:OA)(I:Nat)(J:LV)(K:OA)(L:Nat)(M:LV)(N:OA)(P:Nat)(Q:LV),v=.agg #[V C.Kind,V C.Line,V C.Id,T C.Name,T C.Type_,V C.Len,V C.Var,Z S C.Target U,T C.Func,V C.Callee,Z W C.Args X,Z Y C.Body a0,Z a1 C.Else a2]∧Bx w0 w a5 (Gof [.box a3 135 #[Pt c,V i.f,V i.funcs,Z e i.params h,Z k i.scalars o,Z t i.points u,Z z i.arrays A,V i.count,V i.left],.box c 132 #[Z a j.l b,V j.at_],O p k o 9 BA D,O x t u 9 BA E,O B z A 9 BA F]) [.box a3 135 #[Pt c,V d.f,V d.funcs,Z e d.params h,Z H d.scalars I,Z K d.points L,Z N d.arrays P,V d.count,V d.left],.box c 132 #[Z a G.l b,V G.at_],O p H I 9 BA J,O x K L 9 BA M,O B N P 9 BA Q] [.l S U C.Target,.l W X C.Args,.l Y a0 C.Body,.l a1 a2 C.Else,.l a b G.l,.l e h d.params,.els J d.scalars,.els M d.points,.els Q d.arrays])
def m_kit_declare (fu:Nat)(j:Gm) (d:GTape):Option (Gs × Gm × GTape):=
 (m_kit_fresh fu j d).bind fun l=>
 pel l fun b a=>
 (m_kit_next fu d 5).bind fun l=>
 pel l fun e c=>
 if e=3 then
  (app a.points ([b]:List BA)).bind fun k=>
  some ((⟨1,0,0,b,(⟨#[80]⟩:BA),0,0,([]:List Ge),be,0,([]:List Ge),([]:List Gs),([]:List Gs)⟩:Gs),(⟨a.f,a.funcs,a.params,a.scalars,k,a.arrays,a.count,a.left⟩:Gm),c)
 else
  if e=4 then
   (app a.arrays ([b]:List BA)).bind fun h=>
   some ((⟨1,0,0,b,be,3,0,([]:List Ge),be,0,([]:List Ge),([]:List Gs),([]:List Gs)⟩:Gs),(⟨a.f,a.funcs,a.params,a.scalars,a.points,h,a.count,a.left⟩:Gm),c)
  else
   (app a.scalars ([b]:List BA)).bind fun i=>
   some ((⟨1,0,0,b,be,0,0,([]:List Ge),be,0,([]:List Ge),([]:List Gs),([]:List Gs)⟩:Gs),(⟨a.f,a.funcs,a.params,i,a.points,a.arrays,a.count,a.left⟩:Gm),c)
theorem sp_kit_declare (fu:Nat):Ct_kit_declare (m_kit_declare fu):=by
 intro w0 aL J K Y w H I x z j m A L o p B M t u C N R hP D E F v
 unfold m_kit_declare at v
 have a:=hP.bx
 clear hP
 generalize hG:Gof _=G at a ⊢
 refine cf Try.func82 r ?_
 refine wCut [(0,Pt Y)] ⟨r,y⟩ fun aM=>?_
 refine q (g (sTo (aNewB a (mAlloc ti111)) ?_))
 rintro _ w1 ⟨b1,rfl,a⟩
 refine n (q (g (s (mp r) ?_)))
 obtain ⟨⟨c,b⟩,h2,v⟩:=bs v
 replace v:=pi v
 have hc:=(sp_kit_fresh fu) (a.pr [1,2,3,4,5] [0] [0,1,2,3,4] r) (a.le D) (a.le E) (a.le F) h2
 refine sc (ec cal86 r) hc ?_
 rintro _ w2 ⟨rfl,hK⟩
 replace a:=a.cl [1,2,3,4,5] [0] r hK r
 try dsimp only [pick,nth,ca,na] at a
 refine s (bd111_0_3 r r) (sTo (aNewB a (mAlloc ti111)) ?_)
 rintro _ w3 ⟨b3,rfl,a⟩
 refine sTs (tb a 0 [V 1,V 0,V 0,T c,T be,V 0,V 0,sn,T be,V 0,sn,sn,sn] r ti111 r r r r r (show _=#[V 1,V 0,V 0,T c,T be,V 0,V 0,sn,T be,V 0,sn,sn,sn] from r)) ?_
 intro w4 a
 try dsimp only [List.set] at a
 refine n (q (q (g (s (mp r) (s (xn r) (s (f135_0 r) (s (l130 r (a.bk 1 r) r) ?_)))))))
 obtain ⟨⟨ac,ae⟩,h5,v⟩:=bs v
 replace v:=pi v
 have hc:=(sp_kit_next fu) (a.pr [2] [0,1,3,4,5,6] [5] r)  h5
 refine sc (ec cal57 r) hc ?_
 rintro _ w5 ⟨rfl,hK⟩
 replace a:=a.cl [2] [0,1,3,4,5,6] r hK r
 try dsimp only [pick,nth,ca,na] at a
 refine n (wBk (q (g (s (xEqlD r r) (s (xAsB r) (n ?_))))))
 rcases iv v with ⟨h6,v⟩|⟨h6,v⟩
 ·refine wIfT (bt h6) (q (g (s (f111_4 r) (sTs (tb a 1 [T (⟨#[80]⟩:BA)] r ti9 r r r r r (show _=#[V 1,V 0,V 0,T c,T (⟨#[80]⟩:BA),V 0,V 0,sn,T be,V 0,sn,sn,sn] from r)) ?_))))
  intro w7 a
  try dsimp only [List.set] at a
  refine n (wDr a [1] [] [1,2] [] [11] (by kernel_rfl) ?_)
  replace a:=a.drew
  have e:=(a.ad [1] [])
  have h:=(a.ad [1,2] [])
  refine pL 0 r (mp r) e h (pL 1 r (mp r) e h (pL 2 r (xn r) e h (pL 3 r (f135_5 r) e h (tS 1 4 r (fun _ hS=>l70 r (hS.bk 1 r) r) (sl_ e h) (pL 5 r (f111_3 r) e h (tU 6 r (fun _ hS=>l9 r (hS.bk 0 r) r) (sl_ e h) ?_))))))
  refine hO 7 (oo r r (aRowB a [[T c]] ([c]:List BA) (bs70_1_a r) r r (by decide) ⟨r,y⟩) ?_)
  rintro _ w8 ⟨b8,rfl,a⟩
  have e:=(a.ad [2] [])
  have h:=(a.ad [2,3] [])
  refine ⟨(sl_ e h),?_⟩
  obtain ⟨r9,a6,v⟩:=bs v
  refine hO 8 (oo r r (aAppB a 5 5 r r u70_ ti9 r (by decide) (by decide) E r r (a.ysO 0 0 r r) a6) ?_)
  rintro _ w9 ⟨A9,C9,Q9,rfl,a⟩
  have e:=(a.ad [2] [])
  have h:=(a.ad [2,3] [])
  refine ⟨(sl_ e h),?_⟩
  refine pL 9 r (xn r) e h (pL 10 r (f135_5 r) e h ?_)
  refine hO 11 (os r r (tb a 3 [Z A9 r9 C9] r ti70 r r r r r (show _=#[Pt w,V b.f,V b.funcs,Z x b.params z,Z j b.scalars m,Z A9 r9 C9,Z t b.arrays u,V b.count,V b.left] from r)) ?_)
  intro ak a
  try dsimp only [List.set] at a
  have e:=(a.ad [2] [])
  refine ⟨(sy 11 e),?_⟩
  refine hD (q (g (s (xLoadS [V 1,V 0,V 0,T c,T (⟨#[80]⟩:BA),V 0,V 0,sn,T be,V 0,sn,sn,sn] u111_ r ti111 r r (Cells.part (a.bk 2 r).cells (o2:=0) r)) (sTs (tb a 7 [V 1,V 0,V 0,T c,T (⟨#[80]⟩:BA),V 0,V 0,sn,T be,V 0,sn,sn,sn] r ti111 r r r r r (show _=#[V 1,V 0,V 0,T c,T (⟨#[80]⟩:BA),V 0,V 0,sn,T be,V 0,sn,sn,sn] from r)) ?_))))
  intro al a
  try dsimp only [List.set] at a
  refine n (wRt ?_)
  replace a:=a.dadd (d:=.l none 0 ([]:List Ge)) ln_
  replace a:=a.dadd (d:=.l none 0 ([]:List Ge)) ln_
  replace a:=a.dadd (d:=.l none 0 ([]:List Gs)) ln_
  replace a:=a.dadd (d:=.l none 0 ([]:List Gs)) ln_
  obtain rfl:=sm v
  refine resV1 r (rdA r u111_ r ti111 r (a.bk 7 r)) ?_
  exact pok (pok (⟨none,0,none,0,none,0,none,0,j,m,A,A9,C9,Q9,t,u,C,r,(a.ad [3,1,4,5,6] [3,2,1,0,5,7,8,9,10])⟩))
 refine wIfF (bf h6) (q (g (s (xEqlD r r) (s (xAsB r) (n ?_)))))
 rcases iv v with ⟨Q,v⟩|⟨Q,v⟩
 ·refine wIfT (bt Q) (q (g (s (f111_5 r) (sTs (tb a 1 [V 3] r ti3 r r r r r (show _=#[V 1,V 0,V 0,T c,T be,V 3,V 0,sn,T be,V 0,sn,sn,sn] from r)) ?_))))
  intro am a
  try dsimp only [List.set] at a
  refine n (wDr a [1] [] [1,2] [] [11] (by kernel_rfl) ?_)
  replace a:=a.drew
  have e:=(a.ad [1] [])
  have h:=(a.ad [1,2] [])
  refine pL 0 r (mp r) e h (pL 1 r (mp r) e h (pL 2 r (xn r) e h (pL 3 r (f135_6 r) e h (tS 1 4 r (fun _ hS=>l70 r (hS.bk 1 r) r) (sl_ e h) (pL 5 r (f111_3 r) e h (tU 6 r (fun _ hS=>l9 r (hS.bk 0 r) r) (sl_ e h) ?_))))))
  refine hO 7 (oo r r (aRowB a [[T c]] ([c]:List BA) (bs70_1_a r) r r (by decide) ⟨r,y⟩) ?_)
  rintro _ an ⟨ao,rfl,a⟩
  have e:=(a.ad [2] [])
  have h:=(a.ad [2,3] [])
  refine ⟨(sl_ e h),?_⟩
  obtain ⟨a0,a1,v⟩:=bs v
  refine hO 8 (oo r r (aAppB a 6 6 r r u70_ ti9 r (by decide) (by decide) F r r (a.ysO 0 0 r r) a1) ?_)
  rintro _ ap ⟨S,U,a9,rfl,a⟩
  have e:=(a.ad [2] [])
  have h:=(a.ad [2,3] [])
  refine ⟨(sl_ e h),?_⟩
  refine pL 9 r (xn r) e h (pL 10 r (f135_6 r) e h ?_)
  refine hO 11 (os r r (tb a 3 [Z S a0 U] r ti70 r r r r r (show _=#[Pt w,V b.f,V b.funcs,Z x b.params z,Z j b.scalars m,Z o b.points p,Z S a0 U,V b.count,V b.left] from r)) ?_)
  intro aq a
  try dsimp only [List.set] at a
  have e:=(a.ad [2] [])
  refine ⟨(sy 11 e),?_⟩
  refine hD (q (g (s (xLoadS [V 1,V 0,V 0,T c,T be,V 3,V 0,sn,T be,V 0,sn,sn,sn] u111_ r ti111 r r (Cells.part (a.bk 2 r).cells (o2:=0) r)) (sTs (tb a 7 [V 1,V 0,V 0,T c,T be,V 3,V 0,sn,T be,V 0,sn,sn,sn] r ti111 r r r r r (show _=#[V 1,V 0,V 0,T c,T be,V 3,V 0,sn,T be,V 0,sn,sn,sn] from r)) ?_))))
  intro ar a
  try dsimp only [List.set] at a
  refine n (wRt ?_)
  replace a:=a.dadd (d:=.l none 0 ([]:List Ge)) ln_
  replace a:=a.dadd (d:=.l none 0 ([]:List Ge)) ln_
  replace a:=a.dadd (d:=.l none 0 ([]:List Gs)) ln_
  replace a:=a.dadd (d:=.l none 0 ([]:List Gs)) ln_
  obtain rfl:=sm v
  refine resV1 r (rdA r u111_ r ti111 r (a.bk 7 r)) ?_
  exact pok (pok (⟨none,0,none,0,none,0,none,0,j,m,A,o,p,B,S,U,a9,r,(a.ad [3,1,4,5,6] [3,2,1,0,5,7,8,9,10])⟩))
 refine wIfF (bf Q) (wDr a [1] [] [1,2] [] [11] (by kernel_rfl) ?_)
 replace a:=a.drew
 have e:=(a.ad [1] [])
 have h:=(a.ad [1,2] [])
 refine pL 0 r (mp r) e h (pL 1 r (mp r) e h (pL 2 r (xn r) e h (pL 3 r (f135_4 r) e h (tS 1 4 r (fun _ hS=>l70 r (hS.bk 1 r) r) (sl_ e h) (pL 5 r (f111_3 r) e h (tU 6 r (fun _ hS=>l9 r (hS.bk 0 r) r) (sl_ e h) ?_))))))
 refine hO 7 (oo r r (aRowB a [[T c]] ([c]:List BA) (bs70_1_a r) r r (by decide) ⟨r,y⟩) ?_)
 rintro _ au ⟨av,rfl,a⟩
 have e:=(a.ad [2] [])
 have h:=(a.ad [2,3] [])
 refine ⟨(sl_ e h),?_⟩
 obtain ⟨a2,a3,v⟩:=bs v
 refine hO 8 (oo r r (aAppB a 4 4 r r u70_ ti9 r (by decide) (by decide) D r r (a.ysO 0 0 r r) a3) ?_)
 rintro _ aw ⟨W,X,aa,rfl,a⟩
 have e:=(a.ad [2] [])
 have h:=(a.ad [2,3] [])
 refine ⟨(sl_ e h),?_⟩
 refine pL 9 r (xn r) e h (pL 10 r (f135_4 r) e h ?_)
 refine hO 11 (os r r (tb a 3 [Z W a2 X] r ti70 r r r r r (show _=#[Pt w,V b.f,V b.funcs,Z x b.params z,Z W a2 X,Z o b.points p,Z t b.arrays u,V b.count,V b.left] from r)) ?_)
 intro ax a
 try dsimp only [List.set] at a
 have e:=(a.ad [2] [])
 refine ⟨(sy 11 e),?_⟩
 refine hD (q (g (s (xLoadS [V 1,V 0,V 0,T c,T be,V 0,V 0,sn,T be,V 0,sn,sn,sn] u111_ r ti111 r r (Cells.part (a.bk 2 r).cells (o2:=0) r)) (sTs (tb a 7 [V 1,V 0,V 0,T c,T be,V 0,V 0,sn,T be,V 0,sn,sn,sn] r ti111 r r r r r (show _=#[V 1,V 0,V 0,T c,T be,V 0,V 0,sn,T be,V 0,sn,sn,sn] from r)) ?_))))
 intro ay a
 try dsimp only [List.set] at a
 refine n (wRt ?_)
 replace a:=a.dadd (d:=.l none 0 ([]:List Ge)) ln_
 replace a:=a.dadd (d:=.l none 0 ([]:List Ge)) ln_
 replace a:=a.dadd (d:=.l none 0 ([]:List Gs)) ln_
 replace a:=a.dadd (d:=.l none 0 ([]:List Gs)) ln_
 obtain rfl:=sm v
 refine resV1 r (rdA r u111_ r ti111 r (a.bk 7 r)) ?_
 exact pok (pok (⟨none,0,none,0,none,0,none,0,W,X,aa,o,p,B,t,u,C,r,(a.ad [3,1,4,5,6] [3,2,1,0,5,7,8,9,10])⟩))
def Ct_kit_assign (m:Gm→GTape→Option (Gs × Gm × GTape)):Prop:=∀ {S:World} {U:Nat→Prop} {A:Gm} {B:GTape} {Q:Nat} {c:Nat} {a:Option Addr} {b:Nat} {p:Option Addr} {t:Nat} {d:Option Addr} {e:Nat} {u:List (List Value)} {C:Nat} {h:Option Addr} {i:Nat} {x:List (List Value)} {D:Nat} {j:Option Addr} {k:Nat} {z:List (List Value)} {E:Nat} {R:Gs × Gm × GTape},Pre S U [.box Q 135 #[Pt c,V A.f,V A.funcs,Z p A.params t,Z d A.scalars e,Z h A.points i,Z j A.arrays k,V A.count,V A.left],.box c 132 #[Z a B.l b,V B.at_],O C d e 9 BA u,O D h i 9 BA x,O E j k 9 BA z] [.l a b B.l,.l p t A.params,.els u A.scalars,.els x A.points,.els z A.arrays]→C≤S.heap.size→D≤S.heap.size→E≤S.heap.size→m A B=some R→
 Calls Try.prog 88 #[Pt Q] S (Ret fun v w=>pel R fun F R=>pel R fun o G=>∃ (H:OA)(I:Nat)(J:OA)(K:Nat)(L:OA)(M:Nat)(N:OA)(P:Nat),v=.agg #[V F.Kind,V F.Line,V F.Id,T F.Name,T F.Type_,V F.Len,V F.Var,Z H F.Target I,T F.Func,V F.Callee,Z J F.Args K,Z L F.Body M,Z N F.Else P]∧Bx S w U (Gof [.box Q 135 #[Pt c,V A.f,V A.funcs,Z p A.params t,Z d A.scalars e,Z h A.points i,Z j A.arrays k,V A.count,V A.left],.box c 132 #[Z a B.l b,V B.at_],O C d e 9 BA u,O D h i 9 BA x,O E j k 9 BA z]) [.box Q 135 #[Pt c,V o.f,V o.funcs,Z p o.params t,Z d o.scalars e,Z h o.points i,Z j o.arrays k,V o.count,V o.left],.box c 132 #[Z a G.l b,V G.at_],O C d e 9 BA u,O D h i 9 BA x,O E j k 9 BA z] [.l H I F.Target,.l J K F.Args,.l L M F.Body,.l N P F.Else,.l a b G.l,.l p t o.params,.els u o.scalars,.els x o.points,.els z o.arrays])
def m_kit_assign_J0 (fu:Nat)(h:Gm) (p:Int)(d:GTape):Option (Ld (List Ge × List Int × Int × Int × Int × Int × BA × BA × Int × Int × List Ge × BA × Int × List Gs × List Gs × Int × Int × List Int × Int × Int × List BA × List BA × List BA) (Gs × Gm × GTape)):=
 if p < 2 then
  (m_kit_call fu h d (⟨3,0,0,be,be,0,0,([]:List Ge),be,0,([]:List Ge),([]:List Gs),([]:List Gs)⟩:Gs)).bind fun u=>
  pel u fun i u=>pel u fun b u=>pel u fun c a=>
  if i=true then
   if 0 < (b.scalars.length:Int) then
    (m_kit_next fu c 4).bind fun u=>
    pel u fun j e=>
    if 0 < j then
     (m_kit_next fu e (b.scalars.length:Int)).bind fun u=>
     pel u fun k m=>
     (ix b.scalars k).bind fun t=>
     (m_kit_variable fu t).bind fun o=>
     some (.out ((⟨a.Kind,a.Line,a.Id,a.Name,a.Type_,a.Len,a.Var,([o]:List Ge),a.Func,a.Callee,a.Args,a.Body,a.Else⟩:Gs),b,m))
    else
     some (.out (a,b,e))
   else
    some (.out (a,b,c))
  else
   some (.go (a.Args,c.l,c.at_,a.Kind,a.Line,a.Id,a.Name,a.Type_,a.Len,a.Var,a.Target,a.Func,a.Callee,a.Body,a.Else,b.f,b.funcs,b.params,b.count,b.left,b.scalars,b.points,b.arrays))
 else
  some (.go (([]:List Ge),d.l,d.at_,3,0,0,be,be,0,0,([]:List Ge),be,0,([]:List Gs),([]:List Gs),h.f,h.funcs,h.params,h.count,h.left,h.scalars,h.points,h.arrays))
def m_kit_assign_J2 (fu:Nat)(b:Int)(a:List BA):Option (Ld (Bool) (Gs × Gm × GTape)):=
 if b=6 then
  some (.go (decide (0 < (a.length:Int))))
 else
  some (.go false)
def m_kit_assign_J3 (fu:Nat)(b:Int)(a:List BA):Option (Ld (Bool) (Gs × Gm × GTape)):=
 if b=7 then
  some (.go (decide (0 < (a.length:Int))))
 else
  some (.go false)
def m_kit_assign_J1 (fu:Nat)(w:Int)(m:List Int) (p:Int)(e:Int)(h:Int)(i:List Int) (j:Int)(k:Int)(b:List BA) (c:List BA) (d:List BA):Option (Ld (List Ge × List Int × Int × Int × Int × List Int × Int × Int × List BA × List BA × List BA) (Gs × Gm × GTape)):=
 (m_kit_assign_J2 fu w c).bind fun M=>M.el (fun x=>
 if x=true then
  (m_kit_next fu (⟨m,p⟩:GTape) (c.length:Int)).bind fun M=>
  pel M fun z A=>
  (ix c z).bind fun J=>
  (m_kit_next fu A 2).bind fun M=>
  pel M fun B t=>
  (ix ([(⟨#[120]⟩:BA),(⟨#[121]⟩:BA)]:List BA) B).bind fun K=>
  some (.go (([(⟨2,0,0,J,K,([]:List Ge)⟩:Ge)]:List Ge),t.l,t.at_,e,h,i,j,k,b,c,d))
 else
  (m_kit_assign_J3 fu w d).bind fun M=>M.el (fun C=>
  if C=true then
   (m_kit_element fu (⟨e,h,i,b,c,d,j,k⟩:Gm) (⟨m,p⟩:GTape) 1).bind fun M=>
   pel M fun D M=>pel M fun a u=>
   some (.go (([D]:List Ge),u.l,u.at_,a.f,a.funcs,a.params,a.count,a.left,a.scalars,a.points,a.arrays))
  else
   if 0 < (b.length:Int) then
    (m_kit_next fu (⟨m,p⟩:GTape) (b.length:Int)).bind fun M=>
    pel M fun E v=>
    (ix b E).bind fun L=>
    (m_kit_variable fu L).bind fun F=>
    some (.go (([F]:List Ge),v.l,v.at_,e,h,i,j,k,b,c,d))
   else
    (m_kit_expr fu (⟨e,h,i,b,c,d,j,k⟩:Gm) (⟨m,p⟩:GTape) 0).bind fun M=>
    pel M fun G M=>pel M fun H I=>
    some (.out ((⟨9,0,0,be,be,0,0,([]:List Ge),be,0,([G]:List Ge),([]:List Gs),([]:List Gs)⟩:Gs),H,I))
  ) (fun o=>some (.out o))
 ) (fun o=>some (.out o))
def m_kit_assign (fu:Nat)(Y:Gm) (E:GTape):Option (Gs × Gm × GTape):=
 (m_kit_next fu E 8).bind fun a0=>
 pel a0 fun c F=>
 (m_kit_assign_J0 fu Y c F).bind fun a0=>a0.el (fun a0=>
 pel a0 fun P a0=>pel a0 fun G a0=>pel a0 fun H a0=>pel a0 fun Q a0=>pel a0 fun R a0=>pel a0 fun S a0=>pel a0 fun U a0=>pel a0 fun W a0=>pel a0 fun X a0=>pel a0 fun I a0=>pel a0 fun J a0=>pel a0 fun K a0=>pel a0 fun L a0=>pel a0 fun M a0=>pel a0 fun N a0=>pel a0 fun d a0=>pel a0 fun e a0=>pel a0 fun f a0=>pel a0 fun h a0=>pel a0 fun i a0=>pel a0 fun j a0=>pel a0 fun k l=>
 (m_kit_assign_J1 fu c G H d e f h i j k l).bind fun a0=>a0.el (fun a0=>
 pel a0 fun m a0=>pel a0 fun p a0=>pel a0 fun t a0=>pel a0 fun u a0=>pel a0 fun v a0=>pel a0 fun w a0=>pel a0 fun x a0=>pel a0 fun z a0=>pel a0 fun A a0=>pel a0 fun a b=>
 (m_kit_expr fu (⟨u,v,w,A,a,b,x,z⟩:Gm) (⟨p,t⟩:GTape) 0).bind fun a0=>
 pel a0 fun B a0=>pel a0 fun C D=>
 some ((⟨2,0,0,be,be,0,0,m,be,0,([B]:List Ge),([]:List Gs),([]:List Gs)⟩:Gs),C,D)
 ) (fun o=>some o)
 ) (fun o=>some o)
theorem sp_kit_assign (fu:Nat):Ct_kit_assign (m_kit_assign fu):=by
 intro w0 du x0 bC al B t u N Q C D S ab E F U ac H I W ae R hP am an ao o
 unfold m_kit_assign at o
 have b:=hP.bx
 clear hP
 generalize hG:Gof _=G at b ⊢
 refine cf Try.func88 r ?_
 refine wCut [(0,Pt al)] ⟨r,y⟩ fun dv=>?_
 refine q (g (sTo (aNewB b (mAlloc ti111)) ?_))
 rintro _ w1 ⟨b1,rfl,b⟩
 refine n (q (g (s (bd111_0 r) (sTo (aNewB b (mAlloc ti111)) ?_))))
 rintro _ w2 ⟨b2,rfl,b⟩
 refine sTs (tb b 0 [V 3,V 0,V 0,T be,T be,V 0,V 0,sn,T be,V 0,sn,sn,sn] r ti111 r r r r r (show _=#[V 3,V 0,V 0,T be,T be,V 0,V 0,sn,T be,V 0,sn,sn,sn] from r)) ?_
 intro w3 b
 try dsimp only [List.set] at b
 refine n (q (g (s (mp r) (s (xn r) (s (f135_0 r) (s (l130 r (b.bk 2 r) r) ?_))))))
 obtain ⟨⟨bD,bE⟩,h4,o⟩:=bs o
 replace o:=pi o
 have hc:=(sp_kit_next fu) (b.pr [3] [0,1,2,4,5,6] [0] r)  h4
 refine sc (ec cal57 r) hc ?_
 rintro _ w4 ⟨rfl,hK⟩
 replace b:=b.cl [3] [0,1,2,4,5,6] r hK r
 try dsimp only [pick,nth,ca,na] at b
 refine s (xi r) (n (q ?_))
 replace b:=b.owL Ge 138
 obtain ⟨Y6,p,o⟩:=bs o
 refine wJd (fun f w=>∃ (b9:List Ge) (aT:OA)(aU:Nat)(aV:LV)(aj:List Int) (aQ:Int)(bg:Int)(bh:Int)(bi:Int)(bj:BA) (bl:BA) (bm:Int)(aW:Int)(aD:List Ge) (aE:OA)(aF:Nat)(aX:BA) (aY:Int)(aG:List Gs) (aH:OA)(aI:Nat)(aJ:List Gs) (aK:OA)(aL:Nat)(a3:Int)(a4:Int)(J:List Int) (a5:Int)(a6:Int)(K:List BA) (z:List BA) (A:List BA),Has f [(0,Pt al),(2,Pt b1),(3,Pt b2),(4,V bD)]∧Bx w0 w du G [O w0.heap.size aT aU 138 Ge aV,.box B 132 #[Z t aj u,V aQ],.box b2 111 #[V bg,V bh,V bi,T bj,T bl,V bm,V aW,Z aE aD aF,T aX,V aY,Z aT b9 aU,Z aH aG aI,Z aK aJ aL],.box b1 111 #[V 0,V 0,V 0,T be,T be,V 0,V 0,sn,T be,V 0,sn,sn,sn],.box al 135 #[Pt B,V a3,V a4,Z N J Q,Z C K D,Z E z F,Z H A I,V a5,V a6],O ab C D 9 BA S,O ac E F 9 BA U,O ae H I 9 BA W] [.l t u aj,.l aE aF aD,.l aH aI aG,.l aK aL aJ,.l N Q J,.els aV b9,.els S K,.els U z,.els W A]∧Ld.go (b9,aj,aQ,bg,bh,bi,bj,bl,bm,aW,aD,aX,aY,aG,aJ,a3,a4,J,a5,a6,K,z,A)=Y6) (fun J6 bT=>?_) ?_
 ·unfold m_kit_assign_J0 at p
  refine q (g (s (mi r) (s (xLss r r) (s (xMvB r) ?_))))
  rcases iv p with ⟨h7,p⟩|⟨h7,p⟩
  ·rw [decide_eq_true h7]
   refine sGo r (s (mp r) ?_)
   replace b:=b.dadd (d:=.l none 0 ([]:List Ge)) ln_
   replace b:=b.dadd (d:=.l none 0 ([]:List Gs)) ln_
   replace b:=b.dadd (d:=.l none 0 ([]:List Gs)) ln_
   obtain ⟨⟨c2,a7,bn,a⟩,c3,p⟩:=bs p
   replace p:=pi p
   replace p:=pi p
   replace p:=pi p
   refine sGo r ?_
   have hc:=(sp_kit_call fu) (b.pr [4,1,5,6,7,2,0] [3] [4,6,7,8,9,2,3,1,0] r) (b.le am) (b.le an) (b.le ao) b.chg.size c3
   refine sc (ec cal87 r) hc ?_
   rintro _ cE ⟨e,j,aZ,rfl,hK⟩
   replace b:=b.cl [4,1,5,6,7,2,0] [3] r hK r
   try dsimp only [pick,nth,ca,na] at b
   refine s (xPkTB r r) (n ?_)
   rcases iv p with ⟨bo,p⟩|⟨bo,p⟩
   ·refine wIfT (cb bo) (q (q (g (s (mp r) (s (xn r) (s (f135_4 r) (s (l70 r (b.bk 0 r) r) (s (xLnR u70_ r) (s (xGtr r r) (s (xMvB r) ?_))))))))))
    rcases iv p with ⟨bI,p⟩|⟨bI,p⟩
    ·rw [decide_eq_true bI]
     refine sGo r (s (mp r) (sGo r (s (xn r) (sGo r (s (f135_0 r) (sGo r (s (l130 r (b.bk 0 r) r) ?_)))))))
     obtain ⟨⟨c4,c5⟩,c6,p⟩:=bs p
     replace p:=pi p
     refine sGo r ?_
     have hc:=(sp_kit_next fu) (b.pr [1] [0,2,3,4,5,6,7] [0] r)  c6
     refine sc (ec cal57 r) hc ?_
     rintro _ cF ⟨rfl,hK⟩
     replace b:=b.cl [1] [0,2,3,4,5,6,7] r hK r
     try dsimp only [pick,nth,ca,na] at b
     refine sGo r (s (xGtr r r) (s (xPkTB r r) (n ?_)))
     rcases iv p with ⟨bJ,p⟩|⟨bJ,p⟩
     ·refine wIfT (bt bJ) (wDr1 b [1,2] [3] [] (by kernel_rfl) ?_)
      replace b:=b.drew
      have m:=(b.ad [1,2] [3])
      refine pF 0 r (mp r) m (pF 1 r (xn r) m (pF 2 r (f135_4 r) m (uF 3 r (fun hS=>l70 r (hS.bk 0 r) r) m (pF 4 r (mp r) m (pF 5 r (xn r) m (pF 6 r (f135_0 r) m (uF 7 r (fun hS=>l130 r (hS.bk 0 r) r) m (pF 8 r (mp r) m (pF 9 r (xn r) m (pF 10 r (f135_4 r) m (uF 11 r (fun hS=>l70 r (hS.bk 0 r) r) m (pF 12 r (xLnR u70_ r) m ?_))))))))))))
      obtain ⟨⟨c7,c8⟩,c9,p⟩:=bs p
      replace p:=pi p
      have hc:=(sp_kit_next fu) (b.pr [0] [1,2,3,4,5,6,7] [0] r)  c9
      refine hO 13 (oc r r (ec cal57 r) hc ?_)
      rintro _ cG ⟨rfl,hK⟩
      replace b:=b.cl [0] [1,2,3,4,5,6,7] r hK r
      try dsimp only [pick,nth,ca,na] at b
      have m:=(b.ad [1,2] [4])
      refine ⟨(sF m),?_⟩
      obtain ⟨cc,ba,p⟩:=bs p
      obtain ⟨cH,bU,ba⟩:=ix_inv ba
      refine pF 14 r (xIdR u70_ ti9 r r bU (b.vw 2 4 r r) ba) m (tU 15 r (fun _ hS=>xLoad u9_ r r ((elF (ds:=[T cc]) (hS.vw 1 0 r r) ba (fun _ h=>h)) 0 _ r)) (sF m) ?_)
      obtain ⟨L,cd,p⟩:=bs p
      have hc:=(sp_kit_variable fu) (b.pr [] [0,1,2,3,4,5,6,7] [] r)  cd
      refine hO 16 (oc r r (ec cal59 r) hc ?_)
      rintro _ cI ⟨au,av,rfl,hK⟩
      replace b:=b.cl [] [0,1,2,3,4,5,6,7] r hK r
      try dsimp only [pick,nth,ca,na] at b
      have m:=(b.ad [1,2] [5])
      refine ⟨(sF m),?_⟩
      refine hO 17 (oo r r (aRowB b [[V L.Op,V L.Number,V L.Var,T L.Name,T L.Field,Z au L.Args av]] ([L]:List Ge) (bs109_1_a r) r r (by decide) ⟨(GExpr.inn ⟨au,av,r,(b.dl 0 r)⟩),y⟩) ?_)
      rintro _ cJ ⟨bc,rfl,b⟩
      have m:=(b.ad [2,3] [6])
      refine ⟨(sF m),?_⟩
      refine pF 18 r (f111_7 r) m ?_
      refine hO 19 (os r r (tb b 6 [.slice (ad bc) ([L]:List Ge).length 1] r ti109 r r r r r (show _=#[V a.Kind,V a.Line,V a.Id,T a.Name,T a.Type_,V a.Len,V a.Var,.slice (ad bc) ([L]:List Ge).length 1,T a.Func,V a.Callee,Z e a.Args j,Z none a.Body 0,Z none a.Else 0] from r)) ?_)
      intro cK b
      try dsimp only [List.set] at b
      have m:=(b.ad [2,3] [6])
      refine ⟨(sF m),?_⟩
      refine hD (q (g (s (xLoadS [V a.Kind,V a.Line,V a.Id,T a.Name,T a.Type_,V a.Len,V a.Var,.slice (ad bc) ([L]:List Ge).length 1,T a.Func,V a.Callee,Z e a.Args j,Z none a.Body 0,Z none a.Else 0] u111_ r ti111 r r (Cells.part (b.bk 6 r).cells (o2:=0) r)) (sTs (tb b 8 [V a.Kind,V a.Line,V a.Id,T a.Name,T a.Type_,V a.Len,V a.Var,.slice (ad bc) ([L]:List Ge).length 1,T a.Func,V a.Callee,Z e a.Args j,Z none a.Body 0,Z none a.Else 0] r ti111 r r r r r (show _=#[V a.Kind,V a.Line,V a.Id,T a.Name,T a.Type_,V a.Len,V a.Var,.slice (ad bc) ([L]:List Ge).length 1,T a.Func,V a.Callee,Z e a.Args j,Z none a.Body 0,Z none a.Else 0] from r)) ?_))))
      intro cL b
      try dsimp only [List.set] at b
      refine n (wRt ?_)
      replace b:=b.frz 0 0 r r
      try dsimp only [List.eraseIdx] at b
      replace b:=b.frz 6 10 r r
      try dsimp only [List.eraseIdx] at b
      obtain rfl:=sm p
      replace o:=oi o
      obtain rfl:=sm o
      refine resV1 r (rdA r u111_ r ti111 r (b.bk 6 r)) ?_
      exact pok (pok (⟨(ad bc),1,e,j,none,0,none,0,r,(b.ad [1,0,2,3,4] [1,0,11,12,3,6,7,8,9])⟩))
     refine wIfF (bf bJ) (wk (q (g (s (xLoadS [V a.Kind,V a.Line,V a.Id,T a.Name,T a.Type_,V a.Len,V a.Var,Z none a.Target 0,T a.Func,V a.Callee,Z e a.Args j,Z none a.Body 0,Z none a.Else 0] u111_ r ti111 r r (Cells.part (b.bk 5 r).cells (o2:=0) r)) (sTs (tb b 7 [V a.Kind,V a.Line,V a.Id,T a.Name,T a.Type_,V a.Len,V a.Var,Z none a.Target 0,T a.Func,V a.Callee,Z e a.Args j,Z none a.Body 0,Z none a.Else 0] r ti111 r r r r r (show _=#[V a.Kind,V a.Line,V a.Id,T a.Name,T a.Type_,V a.Len,V a.Var,Z none a.Target 0,T a.Func,V a.Callee,Z e a.Args j,Z none a.Body 0,Z none a.Else 0] from r)) ?_)))))
     intro cM b
     try dsimp only [List.set] at b
     refine n (wRt ?_)
     replace b:=b.frz 6 7 r r
     try dsimp only [List.eraseIdx] at b
     obtain rfl:=sm p
     replace o:=oi o
     obtain rfl:=sm o
     refine resV1 r (rdA r u111_ r ti111 r (b.bk 6 r)) ?_
     exact pok (pok (⟨none,0,e,j,none,0,none,0,r,(b.ad [1,0,2,3,4] [7,0,8,9,1,3,4,5,6])⟩))
    rw [decide_eq_false bI]
    refine sNo r (sNo r (sNo r (sNo r (sNo r (sNo r (s (xPkFB r r) (n (wIfF r (wk (q (g (s (xLoadS [V a.Kind,V a.Line,V a.Id,T a.Name,T a.Type_,V a.Len,V a.Var,Z none a.Target 0,T a.Func,V a.Callee,Z e a.Args j,Z none a.Body 0,Z none a.Else 0] u111_ r ti111 r r (Cells.part (b.bk 5 r).cells (o2:=0) r)) (sTs (tb b 7 [V a.Kind,V a.Line,V a.Id,T a.Name,T a.Type_,V a.Len,V a.Var,Z none a.Target 0,T a.Func,V a.Callee,Z e a.Args j,Z none a.Body 0,Z none a.Else 0] r ti111 r r r r r (show _=#[V a.Kind,V a.Line,V a.Id,T a.Name,T a.Type_,V a.Len,V a.Var,Z none a.Target 0,T a.Func,V a.Callee,Z e a.Args j,Z none a.Body 0,Z none a.Else 0] from r)) ?_)))))))))))))
    intro cN b
    try dsimp only [List.set] at b
    refine n (wRt ?_)
    replace b:=b.frz 6 6 r r
    try dsimp only [List.eraseIdx] at b
    obtain rfl:=sm p
    replace o:=oi o
    obtain rfl:=sm o
    refine resV1 r (rdA r u111_ r ti111 r (b.bk 6 r)) ?_
    exact pok (pok (⟨none,0,e,j,none,0,none,0,r,(b.ad [0,1,2,3,4] [6,0,7,8,1,2,3,4,5])⟩))
   replace bo:=nt bo
   refine wIfF (cb bo) (wk ?_)
   exact bT _ _ ⟨a.Args,e,j,aZ,bn.l,bn.at_,a.Kind,a.Line,a.Id,a.Name,a.Type_,a.Len,a.Var,a.Target,none,0,a.Func,a.Callee,a.Body,none,0,a.Else,none,0,a7.f,a7.funcs,a7.params,a7.count,a7.left,a7.scalars,a7.points,a7.arrays,⟨r,r,r,r,y⟩,(b.ad [6,1,5,7,0,2,3,4] [0,5,7,8,1,6,2,3,4]),sm p⟩
  rw [decide_eq_false h7]
  refine sNo r (sNo r (s (xPkFB r r) (n (wIfF r (wk ?_)))))
  replace b:=b.dadd (d:=.l none 0 ([]:List Ge)) ln_
  replace b:=b.dadd (d:=.l none 0 ([]:List Gs)) ln_
  replace b:=b.dadd (d:=.l none 0 ([]:List Gs)) ln_
  exact bT _ _ ⟨([]:List Ge),none,0,[],bE.l,bE.at_,3,0,0,be,be,0,0,([]:List Ge),none,0,be,0,([]:List Gs),none,0,([]:List Gs),none,0,x0.f,x0.funcs,x0.params,x0.count,x0.left,x0.scalars,x0.points,x0.arrays,⟨r,r,r,r,y⟩,(b.dp [4,2,1,0,6,3,7,8,9]),sm p⟩
 clear b
 rintro f w ⟨b9,aT,aU,aV,aj,aQ,bg,bh,bi,bj,bl,bm,aW,aD,aE,aF,aX,aY,aG,aH,aI,aJ,aK,aL,a3,a4,J,a5,a6,K,z,A,hf,b,cg⟩
 obtain ⟨dv,rfl⟩:=has_updL _ _ hf
 clear hf
 subst cg
 replace o:=gi o
 replace o:=pi o
 replace o:=pi o
 replace o:=pi o
 replace o:=pi o
 replace o:=pi o
 replace o:=pi o
 replace o:=pi o
 replace o:=pi o
 replace o:=pi o
 replace o:=pi o
 replace o:=pi o
 replace o:=pi o
 replace o:=pi o
 replace o:=pi o
 replace o:=pi o
 replace o:=pi o
 replace o:=pi o
 replace o:=pi o
 replace o:=pi o
 replace o:=pi o
 replace o:=pi o
 replace o:=pi o
 refine q (g (s (bd111_0 r) (sTs (tb b 2 [V 2,V 0,V 0,T be,T be,V 0,V 0,sn,T be,V 0,sn,sn,sn] r ti111 r r r r r (show _=#[V 2,V 0,V 0,T be,T be,V 0,V 0,sn,T be,V 0,sn,sn,sn] from r)) ?_)))
 intro cO b
 try dsimp only [List.set] at b
 refine n (q ?_)
 replace b:=b.owL Ge 138
 obtain ⟨ch,c,o⟩:=bs o
 refine wJd (fun f w=>∃ (a8:List Ge) (X:OA)(Y:Nat)(aM:LV)(aN:List Int) (b0:Int)(b3:Int)(b4:Int)(aO:List Int) (b5:Int)(b6:Int)(aP:List BA) (ap:List BA) (aq:List BA),Has f [(0,Pt al),(2,Pt b1),(3,Pt b2)]∧Bx w0 w du G [O w0.heap.size X Y 138 Ge aM,.box B 132 #[Z t aN u,V b0],.box b2 111 #[V 2,V 0,V 0,T be,T be,V 0,V 0,Z X a8 Y,T be,V 0,sn,sn,sn],.box b1 111 #[V 0,V 0,V 0,T be,T be,V 0,V 0,sn,T be,V 0,sn,sn,sn],.box al 135 #[Pt B,V b3,V b4,Z N aO Q,Z C aP D,Z E ap F,Z H aq I,V b5,V b6],O ab C D 9 BA S,O ac E F 9 BA U,O ae H I 9 BA W] [.l t u aN,.l N Q aO,.els aM a8,.els S aP,.els U ap,.els W aq]∧Ld.go (a8,aN,b0,b3,b4,aO,b5,b6,aP,ap,aq)=ch) (fun cP bp=>?_) ?_
 ·unfold m_kit_assign_J1 at c
  refine wBk (q ?_)
  obtain ⟨ci,aw,c⟩:=bs c
  refine wJd (fun f w=>∃ (b7:Bool),Has f [(0,Pt al),(2,Pt b1),(3,Pt b2),(4,V bD),(56,.bool b7)]∧Bx w0 w du G [O w0.heap.size none 0 138 Ge [],.box B 132 #[Z t aj u,V aQ],.box b2 111 #[V 2,V 0,V 0,T be,T be,V 0,V 0,.slice none ([]:List Ge).length 0,T be,V 0,sn,sn,sn],.box b1 111 #[V 0,V 0,V 0,T be,T be,V 0,V 0,sn,T be,V 0,sn,sn,sn],.box al 135 #[Pt B,V a3,V a4,Z N J Q,Z C K D,Z E z F,Z H A I,V a5,V a6],O ab C D 9 BA S,O ac E F 9 BA U,O ae H I 9 BA W] [.els [] ([]:List Ge),.l t u aj,.l N Q J,.els S K,.els U z,.els W A]∧Ld.go b7=ci) (fun cQ bF=>?_) ?_
  ·unfold m_kit_assign_J2 at aw
   refine g (s (mi r) (s (xEqlD r r) (s (xMvB r) ?_)))
   rcases iv aw with ⟨bK,aw⟩|⟨bK,aw⟩
   ·rw [decide_eq_true bK]
    refine sGo r (s (mp r) (sGo r (s (xn r) (sGo r (s (f135_5 r) (sGo r (s (l70 r (b.bk 5 r) r) (sGo r (s (xLnR u70_ r) (sGo r (s (xGtr r r) (s (xPkTB r r) (s (xAsB r) ?_)))))))))))))
    refine n ?_
    exact bF _ _ ⟨(decide (0 < (z.length:Int))),⟨r,r,r,r,r,y⟩,(b.ad [0,2,3,4,5,6,7,8] [0,1,5,7,8,9]),sm aw⟩
   rw [decide_eq_false bK]
   refine sNo r (sNo r (sNo r (sNo r (sNo r (sNo r (s (xPkFB r r) (s (xAsB r) (n ?_))))))))
   exact bF _ _ ⟨false,⟨r,r,r,r,r,y⟩,(b.ad [0,2,3,4,5,6,7,8] [0,1,5,7,8,9]),sm aw⟩
  clear b
  rintro f w ⟨b7,hf,b,bV⟩
  obtain ⟨dv,rfl⟩:=has_updL _ _ hf
  clear hf
  subst bV
  replace c:=gi c
  rcases iv c with ⟨bq,c⟩|⟨bq,c⟩
  ·refine wIfT (cb bq) ?_
   obtain ⟨⟨cj,ck⟩,bW,c⟩:=bs c
   replace c:=pi c
   obtain ⟨a1,ax,c⟩:=bs c
   obtain ⟨cR,bG,ax⟩:=ix_inv ax
   obtain ⟨⟨cm,ar⟩,bL,c⟩:=bs c
   replace c:=pi c
   obtain ⟨a0,ak,c⟩:=bs c
   obtain ⟨cS,br,ak⟩:=ix_inv ak
   refine wJd (fun f w=>∃ (aR:Nat),Has f [(0,Pt al),(2,Pt b1),(3,Pt b2)]∧Bx w0 w du G [.box B 132 #[Z t ar.l u,V ar.at_],.box b2 111 #[V 2,V 0,V 0,T be,T be,V 0,V 0,.slice (ad aR) ([(⟨2,0,0,a1,a0,([]:List Ge)⟩:Ge)]:List Ge).length 1,T be,V 0,sn,sn,sn],.box b1 111 #[V 0,V 0,V 0,T be,T be,V 0,V 0,sn,T be,V 0,sn,sn,sn],.box al 135 #[Pt B,V a3,V a4,Z N J Q,Z C K D,Z E z F,Z H A I,V a5,V a6],O ab C D 9 BA S,O ac E F 9 BA U,O ae H I 9 BA W,O w0.heap.size (ad aR) 1 138 Ge [[V 2,V 0,V 0,T a1,T a0,sn]]] [.l N Q J,.els S K,.els U z,.els W A,.els [[V 2,V 0,V 0,T a1,T a0,sn]] ([(⟨2,0,0,a1,a0,([]:List Ge)⟩:Ge)]:List Ge),.l t u ar.l]) (fun Jd hJd=>?_) ?_
   ·refine wDr1 b [4,6] [4] [] (by kernel_rfl) ?_
    replace b:=b.drew
    have m:=(b.ad [4,6] [4])
    refine pF 0 r (mp r) m (pF 1 r (xn r) m (pF 2 r (f135_5 r) m (uF 3 r (fun hS=>l70 r (hS.bk 0 r) r) m (pF 4 r (mp r) m (pF 5 r (xn r) m (pF 6 r (f135_0 r) m (uF 7 r (fun hS=>l130 r (hS.bk 0 r) r) m (pF 8 r (mp r) m (pF 9 r (xn r) m (pF 10 r (f135_5 r) m (uF 11 r (fun hS=>l70 r (hS.bk 0 r) r) m (pF 12 r (xLnR u70_ r) m (pF 17 r (mp r) m ?_)))))))))))))
    refine pF 18 r (xn r) m (pF 19 r (f135_0 r) m (uF 20 r (fun hS=>l130 r (hS.bk 0 r) r) m ?_))
    refine hList' 13 [16] (by kernel_rfl) (om_cons' ?_ (om_cons' ?_ om_nil'))
    ·have hc:=(sp_kit_next fu) (b.pr [1] [0,2,3,4,5,6,7] [1] r)  bW
     refine oc r r (ec cal57 r) hc ?_
     rintro _ cn ⟨rfl,hK⟩
     replace b:=b.cl [1] [0,2,3,4,5,6,7] r hK r
     try dsimp only [pick,nth,ca,na] at b
     have m:=(b.ad [4,6] [5])
     refine ⟨(sF m),?_⟩
     refine pF 14 r (xIdR u70_ ti9 r r bG (b.vw 6 5 r r) ax) m (tU 15 r (fun _ hS=>xLoad u9_ r r ((elF (ds:=[T a1]) (hS.vw 1 0 r r) ax (fun _ h=>h)) 0 _ r)) (sF m) ?_)
     refine hList' 16 [21] (by kernel_rfl) (om_cons' ?_ (om_cons' ?_ om_nil'))
     ·refine oo r r (aRowB b [[T (⟨#[120]⟩:BA)],[T (⟨#[121]⟩:BA)]] ([(⟨#[120]⟩:BA),(⟨#[121]⟩:BA)]:List BA) (bs70_2_a r r) r r (by decide) ⟨r,⟨r,y⟩⟩) ?_
      rintro _ cT ⟨cU,rfl,b⟩
      have m:=(b.ad [5,7] [6])
      refine ⟨(sF m),?_⟩
      have hc:=(sp_kit_next fu) (b.pr [1] [0,2,3,4,5,6,7,8] [1] r)  bL
      refine hO 21 (oc r r (ec cal57 r) hc ?_)
      rintro _ bX ⟨rfl,hK⟩
      replace b:=b.cl [1] [0,2,3,4,5,6,7,8] r hK r
      try dsimp only [pick,nth,ca,na] at b
      have m:=(b.ad [5,7] [7])
      refine ⟨(sF m),?_⟩
      refine pF 22 r (xIdR u70_ ti9 r r br (b.vw 1 1 r r) ak) m ?_
      refine hO 23 (oRun' r r (xLoad u9_ r r ((elF (ds:=[T a0]) (b.vw 1 1 r r) ak (fun _ h=>h)) 0 _ r)) (sF m) ?_)
      refine pF 24 r (bd138_0_3_4 r r r) m ?_
      refine hO 25 (oo r r (aRowB b [[V 2,V 0,V 0,T a1,T a0,sn]] ([(⟨2,0,0,a1,a0,([]:List Ge)⟩:Ge)]:List Ge) (bs109_1_a r) r r (by decide) ⟨(GExpr.inn ⟨none,0,r,ln_⟩),y⟩) ?_)
      rintro _ cV ⟨aR,rfl,b⟩
      have m:=(b.ad [6,8] [8])
      refine ⟨(sF m),?_⟩
      refine pF 26 r (f111_7 r) m ?_
      refine hO 27 (os r r (tb b 4 [.slice (ad aR) ([(⟨2,0,0,a1,a0,([]:List Ge)⟩:Ge)]:List Ge).length 1] r ti109 r r r r r (show _=#[V 2,V 0,V 0,T be,T be,V 0,V 0,.slice (ad aR) ([(⟨2,0,0,a1,a0,([]:List Ge)⟩:Ge)]:List Ge).length 1,T be,V 0,sn,sn,sn] from r)) ?_)
      intro cW b
      try dsimp only [List.set] at b
      have m:=(b.ad [6,8] [8])
      refine ⟨(sF m),?_⟩
      refine hD ?_
      exact hJd _ _ ⟨aR,⟨r,r,r,y⟩,(b.ad [1,4,5,6,7,8,9,0] [6,7,8,9,0,1])⟩
     have hc:=(sp_kit_next fu) (b.pr [0] [1,2,3,4,5,6,7] [0] r)  bL
     refine oc r r (ec cal57 r) hc ?_
     rintro _ bX ⟨rfl,hK⟩
     replace b:=b.cl [0] [1,2,3,4,5,6,7] r hK r
     try dsimp only [pick,nth,ca,na] at b
     have m:=(b.ad [4,6] [6])
     refine ⟨(sF m),?_⟩
     refine hO 16 (oo r r (aRowB b [[T (⟨#[120]⟩:BA)],[T (⟨#[121]⟩:BA)]] ([(⟨#[120]⟩:BA),(⟨#[121]⟩:BA)]:List BA) (bs70_2_a r r) r r (by decide) ⟨r,⟨r,y⟩⟩) ?_)
     rintro _ cX ⟨cY,rfl,b⟩
     have m:=(b.ad [5,7] [7])
     refine ⟨(sF m),?_⟩
     refine pF 22 r (xIdR u70_ ti9 r r br (b.vw 0 0 r r) ak) m ?_
     refine hO 23 (oRun' r r (xLoad u9_ r r ((elF (ds:=[T a0]) (b.vw 0 0 r r) ak (fun _ h=>h)) 0 _ r)) (sF m) ?_)
     refine pF 24 r (bd138_0_3_4 r r r) m ?_
     refine hO 25 (oo r r (aRowB b [[V 2,V 0,V 0,T a1,T a0,sn]] ([(⟨2,0,0,a1,a0,([]:List Ge)⟩:Ge)]:List Ge) (bs109_1_a r) r r (by decide) ⟨(GExpr.inn ⟨none,0,r,ln_⟩),y⟩) ?_)
     rintro _ cZ ⟨bM,rfl,b⟩
     have m:=(b.ad [6,8] [8])
     refine ⟨(sF m),?_⟩
     refine pF 26 r (f111_7 r) m ?_
     refine hO 27 (os r r (tb b 4 [.slice (ad bM) ([(⟨2,0,0,a1,a0,([]:List Ge)⟩:Ge)]:List Ge).length 1] r ti109 r r r r r (show _=#[V 2,V 0,V 0,T be,T be,V 0,V 0,.slice (ad bM) ([(⟨2,0,0,a1,a0,([]:List Ge)⟩:Ge)]:List Ge).length 1,T be,V 0,sn,sn,sn] from r)) ?_)
     intro d0 b
     try dsimp only [List.set] at b
     have m:=(b.ad [6,8] [8])
     refine ⟨(sF m),?_⟩
     refine hD ?_
     exact hJd _ _ ⟨bM,⟨r,r,r,y⟩,(b.ad [2,4,5,6,7,8,9,0] [6,7,8,9,0,2])⟩
    refine oo r r (aRowB b [[T (⟨#[120]⟩:BA)],[T (⟨#[121]⟩:BA)]] ([(⟨#[120]⟩:BA),(⟨#[121]⟩:BA)]:List BA) (bs70_2_a r r) r r (by decide) ⟨r,⟨r,y⟩⟩) ?_
    rintro _ d1 ⟨d2,rfl,b⟩
    have m:=(b.ad [5,7] [5])
    refine ⟨(sF m),?_⟩
    have hc:=(sp_kit_next fu) (b.pr [2] [0,1,3,4,5,6,7,8] [2] r)  bW
    refine hO 13 (oc r r (ec cal57 r) hc ?_)
    rintro _ cn ⟨rfl,hK⟩
    replace b:=b.cl [2] [0,1,3,4,5,6,7,8] r hK r
    try dsimp only [pick,nth,ca,na] at b
    have m:=(b.ad [5,7] [6])
    refine ⟨(sF m),?_⟩
    refine pF 14 r (xIdR u70_ ti9 r r bG (b.vw 7 6 r r) ax) m (tU 15 r (fun _ hS=>xLoad u9_ r r ((elF (ds:=[T a1]) (hS.vw 1 0 r r) ax (fun _ h=>h)) 0 _ r)) (sF m) ?_)
    have hc:=(sp_kit_next fu) (b.pr [0] [1,2,3,4,5,6,7,8] [0] r)  bL
    refine hO 21 (oc r r (ec cal57 r) hc ?_)
    rintro _ bX ⟨rfl,hK⟩
    replace b:=b.cl [0] [1,2,3,4,5,6,7,8] r hK r
    try dsimp only [pick,nth,ca,na] at b
    have m:=(b.ad [5,7] [7])
    refine ⟨(sF m),?_⟩
    refine pF 22 r (xIdR u70_ ti9 r r br (b.vw 1 2 r r) ak) m ?_
    refine hO 23 (oRun' r r (xLoad u9_ r r ((elF (ds:=[T a0]) (b.vw 1 2 r r) ak (fun _ h=>h)) 0 _ r)) (sF m) ?_)
    refine pF 24 r (bd138_0_3_4 r r r) m ?_
    refine hO 25 (oo r r (aRowB b [[V 2,V 0,V 0,T a1,T a0,sn]] ([(⟨2,0,0,a1,a0,([]:List Ge)⟩:Ge)]:List Ge) (bs109_1_a r) r r (by decide) ⟨(GExpr.inn ⟨none,0,r,ln_⟩),y⟩) ?_)
    rintro _ d3 ⟨bN,rfl,b⟩
    have m:=(b.ad [6,8] [8])
    refine ⟨(sF m),?_⟩
    refine pF 26 r (f111_7 r) m ?_
    refine hO 27 (os r r (tb b 4 [.slice (ad bN) ([(⟨2,0,0,a1,a0,([]:List Ge)⟩:Ge)]:List Ge).length 1] r ti109 r r r r r (show _=#[V 2,V 0,V 0,T be,T be,V 0,V 0,.slice (ad bN) ([(⟨2,0,0,a1,a0,([]:List Ge)⟩:Ge)]:List Ge).length 1,T be,V 0,sn,sn,sn] from r)) ?_)
    intro d4 b
    try dsimp only [List.set] at b
    have m:=(b.ad [6,8] [8])
    refine ⟨(sF m),?_⟩
    refine hD ?_
    exact hJd _ _ ⟨bN,⟨r,r,r,y⟩,(b.ad [1,4,5,6,7,8,9,0] [6,7,8,9,0,1])⟩
   clear b
   rintro f w ⟨aR,hf,b⟩
   obtain ⟨dv,rfl⟩:=has_updL _ _ hf
   clear hf
   exact bp _ _ ⟨([(⟨2,0,0,a1,a0,([]:List Ge)⟩:Ge)]:List Ge),(ad aR),1,[[V 2,V 0,V 0,T a1,T a0,sn]],ar.l,ar.at_,a3,a4,J,a5,a6,K,z,A,⟨r,r,r,y⟩,(b.ad [7,0,1,2,3,4,5,6] [5,0,4,1,2,3]),sm c⟩
  replace bq:=nt bq
  refine wIfF (cb bq) (q ?_)
  obtain ⟨co,ay,c⟩:=bs c
  refine wJd (fun f w=>∃ (b8:Bool),Has f [(0,Pt al),(2,Pt b1),(3,Pt b2),(94,.bool b8)]∧Bx w0 w du G [O w0.heap.size none 0 138 Ge [],.box B 132 #[Z t aj u,V aQ],.box b2 111 #[V 2,V 0,V 0,T be,T be,V 0,V 0,.slice none ([]:List Ge).length 0,T be,V 0,sn,sn,sn],.box b1 111 #[V 0,V 0,V 0,T be,T be,V 0,V 0,sn,T be,V 0,sn,sn,sn],.box al 135 #[Pt B,V a3,V a4,Z N J Q,Z C K D,Z E z F,Z H A I,V a5,V a6],O ab C D 9 BA S,O ac E F 9 BA U,O ae H I 9 BA W] [.els [] ([]:List Ge),.l t u aj,.l N Q J,.els S K,.els U z,.els W A]∧Ld.go b8=co) (fun d5 bH=>?_) ?_
  ·unfold m_kit_assign_J3 at ay
   refine g (s (mi r) (s (xEqlD r r) (s (xMvB r) ?_)))
   rcases iv ay with ⟨bO,ay⟩|⟨bO,ay⟩
   ·rw [decide_eq_true bO]
    refine sGo r (s (mp r) (sGo r (s (xn r) (sGo r (s (f135_6 r) (sGo r (s (l70 r (b.bk 4 r) r) (sGo r (s (xLnR u70_ r) (sGo r (s (xGtr r r) (s (xPkTB r r) (s (xAsB r) ?_)))))))))))))
    refine n ?_
    exact bH _ _ ⟨(decide (0 < (A.length:Int))),⟨r,r,r,r,y⟩,b,sm ay⟩
   rw [decide_eq_false bO]
   refine sNo r (sNo r (sNo r (sNo r (sNo r (sNo r (s (xPkFB r r) (s (xAsB r) (n ?_))))))))
   exact bH _ _ ⟨false,⟨r,r,r,r,y⟩,b,sm ay⟩
  clear b
  rintro f w ⟨b8,hf,b,bY⟩
  obtain ⟨dv,rfl⟩:=has_updL _ _ hf
  clear hf
  subst bY
  replace c:=gi c
  rcases iv c with ⟨bu,c⟩|⟨bu,c⟩
  ·refine wIfT (cb bu) (g (s (mp r) ?_))
   obtain ⟨⟨v,a9,bv⟩,cp,c⟩:=bs c
   replace c:=pi c
   replace c:=pi c
   have hc:=(sp_kit_element fu) (b.pr [4,1,5,6,7] [0,2,3] [1,2,3,4,5] r) (b.le am) (b.le an) (b.le ao) cp
   refine sc (ec cal110 r) hc ?_
   rintro _ d6 ⟨af,ag,rfl,hK⟩
   replace b:=b.cl [4,1,5,6,7] [0,2,3] r hK r
   try dsimp only [pick,nth,ca,na] at b
   refine sTo (aRowB b [[V v.Op,V v.Number,V v.Var,T v.Name,T v.Field,Z af v.Args ag]] ([v]:List Ge) (bs109_1_a r) r r (by decide) ⟨(GExpr.inn ⟨af,ag,r,(b.dl 0 r)⟩),y⟩) ?_
   rintro _ d7 ⟨bP,rfl,b⟩
   refine s (f111_7 r) (sTs (tb b 7 [.slice (ad bP) ([v]:List Ge).length 1] r ti109 r r r r r (show _=#[V 2,V 0,V 0,T be,T be,V 0,V 0,.slice (ad bP) ([v]:List Ge).length 1,T be,V 0,sn,sn,sn] from r)) ?_)
   intro d8 b
   try dsimp only [List.set] at b
   refine n ?_
   exact bp _ _ ⟨([v]:List Ge),(ad bP),1,[[V v.Op,V v.Number,V v.Var,T v.Name,T v.Field,Z af v.Args ag]],bv.l,bv.at_,a9.f,a9.funcs,a9.params,a9.count,a9.left,a9.scalars,a9.points,a9.arrays,⟨r,r,r,y⟩,(b.ad [0,2,7,8,1,3,4,5] [2,3,0,4,5,6]),sm c⟩
  replace bu:=nt bu
  refine wIfF (cb bu) (q (g (s (mp r) (s (xn r) (s (f135_4 r) (s (l70 r (b.bk 4 r) r) (s (xLnR u70_ r) (s (xGtr r r) (s (xAsB r) (n ?_))))))))))
  rcases iv c with ⟨bQ,c⟩|⟨bQ,c⟩
  ·refine wIfT (bt bQ) (wDr1 b [4,5] [3] [] (by kernel_rfl) ?_)
   replace b:=b.drew
   have m:=(b.ad [4,5] [3])
   refine pF 0 r (mp r) m (pF 1 r (xn r) m (pF 2 r (f135_4 r) m (uF 3 r (fun hS=>l70 r (hS.bk 0 r) r) m (pF 4 r (mp r) m (pF 5 r (xn r) m (pF 6 r (f135_0 r) m (uF 7 r (fun hS=>l130 r (hS.bk 0 r) r) m (pF 8 r (mp r) m (pF 9 r (xn r) m (pF 10 r (f135_4 r) m (uF 11 r (fun hS=>l70 r (hS.bk 0 r) r) m (pF 12 r (xLnR u70_ r) m ?_))))))))))))
   obtain ⟨⟨cq,bw⟩,cr,c⟩:=bs c
   replace c:=pi c
   have hc:=(sp_kit_next fu) (b.pr [1] [0,2,3,4,5,6,7] [1] r)  cr
   refine hO 13 (oc r r (ec cal57 r) hc ?_)
   rintro _ d9 ⟨rfl,hK⟩
   replace b:=b.cl [1] [0,2,3,4,5,6,7] r hK r
   try dsimp only [pick,nth,ca,na] at b
   have m:=(b.ad [4,5] [4])
   refine ⟨(sF m),?_⟩
   obtain ⟨ct,bb,c⟩:=bs c
   obtain ⟨da,bZ,bb⟩:=ix_inv bb
   refine pF 14 r (xIdR u70_ ti9 r r bZ (b.vw 5 4 r r) bb) m (tU 15 r (fun _ hS=>xLoad u9_ r r ((elF (ds:=[T ct]) (hS.vw 1 0 r r) bb (fun _ h=>h)) 0 _ r)) (sF m) ?_)
   obtain ⟨x,cu,c⟩:=bs c
   have hc:=(sp_kit_variable fu) (b.pr [] [0,1,2,3,4,5,6,7] [] r)  cu
   refine hO 16 (oc r r (ec cal59 r) hc ?_)
   rintro _ db ⟨ah,ai,rfl,hK⟩
   replace b:=b.cl [] [0,1,2,3,4,5,6,7] r hK r
   try dsimp only [pick,nth,ca,na] at b
   have m:=(b.ad [4,5] [5])
   refine ⟨(sF m),?_⟩
   refine hO 17 (oo r r (aRowB b [[V x.Op,V x.Number,V x.Var,T x.Name,T x.Field,Z ah x.Args ai]] ([x]:List Ge) (bs109_1_a r) r r (by decide) ⟨(GExpr.inn ⟨ah,ai,r,(b.dl 0 r)⟩),y⟩) ?_)
   rintro _ w64 ⟨bR,rfl,b⟩
   have m:=(b.ad [5,6] [6])
   refine ⟨(sF m),?_⟩
   refine pF 18 r (f111_7 r) m ?_
   refine hO 19 (os r r (tb b 3 [.slice (ad bR) ([x]:List Ge).length 1] r ti109 r r r r r (show _=#[V 2,V 0,V 0,T be,T be,V 0,V 0,.slice (ad bR) ([x]:List Ge).length 1,T be,V 0,sn,sn,sn] from r)) ?_)
   intro dc b
   try dsimp only [List.set] at b
   have m:=(b.ad [5,6] [6])
   refine ⟨(sF m),?_⟩
   refine hD ?_
   exact bp _ _ ⟨([x]:List Ge),(ad bR),1,[[V x.Op,V x.Number,V x.Var,T x.Name,T x.Field,Z ah x.Args ai]],bw.l,bw.at_,a3,a4,J,a5,a6,K,z,A,⟨r,r,r,y⟩,(b.ad [0,1,3,4,5,6,7,8] [2,5,0,6,7,8]),sm c⟩
  refine wIfF (bf bQ) (q (g (s (mp r) ?_)))
  obtain ⟨⟨a2,cv,cw⟩,cx,c⟩:=bs c
  replace c:=pi c
  replace c:=pi c
  have hc:=(sp_kit_expr fu) (b.pr [4,1,5,6,7] [0,2,3] [1,2,3,4,5] r) (b.le am) (b.le an) (b.le ao) cx
  refine sc (ec cal83 r) hc ?_
  rintro _ dd ⟨az,aA,rfl,hK⟩
  replace b:=b.cl [4,1,5,6,7] [0,2,3] r hK r
  try dsimp only [pick,nth,ca,na] at b
  refine sTo (aRowB b [[V a2.Op,V a2.Number,V a2.Var,T a2.Name,T a2.Field,Z az a2.Args aA]] ([a2]:List Ge) (bs109_1_a r) r r (by decide) ⟨(GExpr.inn ⟨az,aA,r,(b.dl 0 r)⟩),y⟩) ?_
  rintro _ de ⟨bS,rfl,b⟩
  refine s (bd111_0_10 r r) (sTs (tb b 8 [V 9,V 0,V 0,T be,T be,V 0,V 0,sn,T be,V 0,.slice (ad bS) ([a2]:List Ge).length 1,sn,sn] r ti111 r r r r r (show _=#[V 9,V 0,V 0,T be,T be,V 0,V 0,sn,T be,V 0,.slice (ad bS) ([a2]:List Ge).length 1,sn,sn] from r)) ?_)
  intro df b
  try dsimp only [List.set] at b
  refine n (wRt ?_)
  replace b:=b.frz 0 0 r r
  try dsimp only [List.eraseIdx] at b
  replace b:=b.dadd (d:=.l none 0 ([]:List Ge)) ln_
  replace b:=b.dadd (d:=.l none 0 ([]:List Gs)) ln_
  replace b:=b.dadd (d:=.l none 0 ([]:List Gs)) ln_
  obtain rfl:=sm c
  replace o:=oi o
  obtain rfl:=sm o
  refine resV1 r (rdA r u111_ r ti111 r (b.bk 7 r)) ?_
  exact pok (pok (⟨none,0,(ad bS),1,none,0,none,0,r,(b.ad [0,1,2,3,4] [2,3,1,0,5,6,7,8,9])⟩))
 clear b
 rintro f w ⟨a8,X,Y,aM,aN,b0,b3,b4,aO,b5,b6,aP,ap,aq,hf,b,c0⟩
 obtain ⟨dv,rfl⟩:=has_updL _ _ hf
 clear hf
 subst c0
 replace o:=gi o
 replace o:=pi o
 replace o:=pi o
 replace o:=pi o
 replace o:=pi o
 replace o:=pi o
 replace o:=pi o
 replace o:=pi o
 replace o:=pi o
 replace o:=pi o
 replace o:=pi o
 refine q (g (s (mp r) ?_))
 obtain ⟨⟨M,cy,cz⟩,cA,o⟩:=bs o
 replace o:=pi o
 replace o:=pi o
 have hc:=(sp_kit_expr fu) (b.pr [4,1,5,6,7] [0,2,3] [0,1,3,4,5] r) (b.le am) (b.le an) (b.le ao) cA
 refine sc (ec cal83 r) hc ?_
 rintro _ dg ⟨aB,aC,rfl,hK⟩
 replace b:=b.cl [4,1,5,6,7] [0,2,3] r hK r
 try dsimp only [pick,nth,ca,na] at b
 refine sTo (aRowB b [[V M.Op,V M.Number,V M.Var,T M.Name,T M.Field,Z aB M.Args aC]] ([M]:List Ge) (bs109_1_a r) r r (by decide) ⟨(GExpr.inn ⟨aB,aC,r,(b.dl 0 r)⟩),y⟩) ?_
 rintro _ dh ⟨bd,rfl,b⟩
 refine s (f111_10 r) (sTs (tb b 7 [.slice (ad bd) ([M]:List Ge).length 1] r ti109 r r r r r (show _=#[V 2,V 0,V 0,T be,T be,V 0,V 0,Z X a8 Y,T be,V 0,.slice (ad bd) ([M]:List Ge).length 1,sn,sn] from r)) ?_)
 intro di b
 try dsimp only [List.set] at b
 refine n (q (g (s (xLoadS [V 2,V 0,V 0,T be,T be,V 0,V 0,Z X a8 Y,T be,V 0,.slice (ad bd) ([M]:List Ge).length 1,sn,sn] u111_ r ti111 r r (Cells.part (b.bk 7 r).cells (o2:=0) r)) (sTs (tb b 8 [V 2,V 0,V 0,T be,T be,V 0,V 0,Z X a8 Y,T be,V 0,.slice (ad bd) ([M]:List Ge).length 1,sn,sn] r ti111 r r r r r (show _=#[V 2,V 0,V 0,T be,T be,V 0,V 0,Z X a8 Y,T be,V 0,.slice (ad bd) ([M]:List Ge).length 1,sn,sn] from r)) ?_))))
 intro dj b
 try dsimp only [List.set] at b
 refine n (wRt ?_)
 replace b:=b.frz 6 9 r r
 try dsimp only [List.eraseIdx] at b
 replace b:=b.frz 0 1 r r
 try dsimp only [List.eraseIdx] at b
 replace b:=b.dadd (d:=.l none 0 ([]:List Gs)) ln_
 replace b:=b.dadd (d:=.l none 0 ([]:List Gs)) ln_
 obtain rfl:=sm o
 refine resV1 r (rdA r u111_ r ti111 r (b.bk 6 r)) ?_
 exact pok (pok (⟨X,Y,(ad bd),1,none,0,none,0,r,(b.ad [0,1,2,3,4] [3,2,1,0,5,6,7,8,9])⟩))
abbrev T_kit_body:=GMaker→GTape→Int→Int→Option ((List GStmt) × GMaker × GTape)
abbrev T_kit_loop:=GMaker→GTape→Int→Option ((List GStmt) × GMaker × GTape)
abbrev T_kit_stmts:=GMaker→GTape→Int→Int→Option ((List GStmt) × GMaker × GTape)
def Ct_kit_body (m:Gm→GTape→Int→Int→Option ((List Gs) × Gm × GTape)):Prop:=∀ {X:World} {a2:Nat→Prop} {i:Gm} {j:GTape} {Y:Int} {x2:Int} {W:Nat} {c:Nat} {a:Option Addr} {b:Nat} {e:Option Addr} {h:Nat} {k:Option Addr} {o:Nat} {C:List (List Value)} {p:Nat} {t:Option Addr} {u:Nat} {D:List (List Value)} {x:Nat} {z:Option Addr} {A:Nat} {E:List (List Value)} {B:Nat} {R:(List Gs) × Gm × GTape},Pre X a2 [.box W 135 #[Pt c,V i.f,V i.funcs,Z e i.params h,Z k i.scalars o,Z t i.points u,Z z i.arrays A,V i.count,V i.left],.box c 132 #[Z a j.l b,V j.at_],O p k o 9 BA C,O x t u 9 BA D,O B z A 9 BA E] [.l a b j.l,.l e h i.params,.els C i.scalars,.els D i.points,.els E i.arrays]→p≤X.heap.size→x≤X.heap.size→B≤X.heap.size→m i j Y x2=some R→
 Calls Try.prog 84 #[Pt W,V Y,V x2] X (Ret fun v w=>pel R fun r0 R=>pel R fun d F=>∃ (Q:OA)(S:Nat)(U:LV)(G:OA)(H:Nat)(I:LV)(J:OA)(K:Nat)(L:LV)(M:OA)(N:Nat)(P:LV),v=Z Q r0 S∧Bx X w a2 (Gof [.box W 135 #[Pt c,V i.f,V i.funcs,Z e i.params h,Z k i.scalars o,Z t i.points u,Z z i.arrays A,V i.count,V i.left],.box c 132 #[Z a j.l b,V j.at_],O p k o 9 BA C,O x t u 9 BA D,O B z A 9 BA E]) [O X.heap.size Q S 111 Gs U,.box W 135 #[Pt c,V d.f,V d.funcs,Z e d.params h,Z G d.scalars H,Z J d.points K,Z M d.arrays N,V d.count,V d.left],.box c 132 #[Z a F.l b,V F.at_],O p G H 9 BA I,O x J K 9 BA L,O B M N 9 BA P] [.els U r0,.l a b F.l,.l e h d.params,.els I d.scalars,.els L d.points,.els P d.arrays])
def Ct_kit_loop (m:Gm→GTape→Int→Option ((List Gs) × Gm × GTape)):Prop:=∀ {X:World} {a1:Nat→Prop} {i:Gm} {j:GTape} {Y:Int} {W:Nat} {c:Nat} {a:Option Addr} {b:Nat} {e:Option Addr} {h:Nat} {k:Option Addr} {o:Nat} {C:List (List Value)} {p:Nat} {t:Option Addr} {u:Nat} {D:List (List Value)} {x:Nat} {z:Option Addr} {A:Nat} {E:List (List Value)} {B:Nat} {R:(List Gs) × Gm × GTape},Pre X a1 [.box W 135 #[Pt c,V i.f,V i.funcs,Z e i.params h,Z k i.scalars o,Z t i.points u,Z z i.arrays A,V i.count,V i.left],.box c 132 #[Z a j.l b,V j.at_],O p k o 9 BA C,O x t u 9 BA D,O B z A 9 BA E] [.l a b j.l,.l e h i.params,.els C i.scalars,.els D i.points,.els E i.arrays]→p≤X.heap.size→x≤X.heap.size→B≤X.heap.size→m i j Y=some R→
 Calls Try.prog 85 #[Pt W,V Y] X (Ret fun v w=>pel R fun r0 R=>pel R fun d F=>∃ (Q:OA)(S:Nat)(U:LV)(G:OA)(H:Nat)(I:LV)(J:OA)(K:Nat)(L:LV)(M:OA)(N:Nat)(P:LV),v=Z Q r0 S∧Bx X w a1 (Gof [.box W 135 #[Pt c,V i.f,V i.funcs,Z e i.params h,Z k i.scalars o,Z t i.points u,Z z i.arrays A,V i.count,V i.left],.box c 132 #[Z a j.l b,V j.at_],O p k o 9 BA C,O x t u 9 BA D,O B z A 9 BA E]) [O X.heap.size Q S 111 Gs U,.box W 135 #[Pt c,V d.f,V d.funcs,Z e d.params h,Z G d.scalars H,Z J d.points K,Z M d.arrays N,V d.count,V d.left],.box c 132 #[Z a F.l b,V F.at_],O p G H 9 BA I,O x J K 9 BA L,O B M N 9 BA P] [.els U r0,.l a b F.l,.l e h d.params,.els I d.scalars,.els L d.points,.els P d.arrays])
def Ct_kit_stmts (m:Gm→GTape→Int→Int→Option ((List Gs) × Gm × GTape)):Prop:=∀ {X:World} {a2:Nat→Prop} {i:Gm} {j:GTape} {Y:Int} {x2:Int} {W:Nat} {c:Nat} {a:Option Addr} {b:Nat} {e:Option Addr} {h:Nat} {k:Option Addr} {o:Nat} {C:List (List Value)} {p:Nat} {t:Option Addr} {u:Nat} {D:List (List Value)} {x:Nat} {z:Option Addr} {A:Nat} {E:List (List Value)} {B:Nat} {R:(List Gs) × Gm × GTape},Pre X a2 [.box W 135 #[Pt c,V i.f,V i.funcs,Z e i.params h,Z k i.scalars o,Z t i.points u,Z z i.arrays A,V i.count,V i.left],.box c 132 #[Z a j.l b,V j.at_],O p k o 9 BA C,O x t u 9 BA D,O B z A 9 BA E] [.l a b j.l,.l e h i.params,.els C i.scalars,.els D i.points,.els E i.arrays]→p≤X.heap.size→x≤X.heap.size→B≤X.heap.size→m i j Y x2=some R→
 Calls Try.prog 58 #[Pt W,V Y,V x2] X (Ret fun v w=>pel R fun r0 R=>pel R fun d F=>∃ (Q:OA)(S:Nat)(U:LV)(G:OA)(H:Nat)(I:LV)(J:OA)(K:Nat)(L:LV)(M:OA)(N:Nat)(P:LV),v=Z Q r0 S∧Bx X w a2 (Gof [.box W 135 #[Pt c,V i.f,V i.funcs,Z e i.params h,Z k i.scalars o,Z t i.points u,Z z i.arrays A,V i.count,V i.left],.box c 132 #[Z a j.l b,V j.at_],O p k o 9 BA C,O x t u 9 BA D,O B z A 9 BA E]) [O X.heap.size Q S 111 Gs U,.box W 135 #[Pt c,V d.f,V d.funcs,Z e d.params h,Z G d.scalars H,Z J d.points K,Z M d.arrays N,V d.count,V d.left],.box c 132 #[Z a F.l b,V F.at_],O p G H 9 BA I,O x J K 9 BA L,O B M N 9 BA P] [.els U r0,.l a b F.l,.l e h d.params,.els I d.scalars,.els L d.points,.els P d.arrays])
def F_kit_body (fu:Nat)(r_kit_stmts:T_kit_stmts) (r_kit_body:T_kit_body) (r_kit_loop:T_kit_loop) (e:Gm) (b:GTape) (i:Int)(j:Int):Option ((List Gs) × Gm × GTape):=
 (r_kit_stmts e b i j).bind fun t=>
 pel t fun c t=>pel t fun a d=>
 (sl a.scalars 0 (e.scalars.length:Int)).bind fun k=>
 (sl a.points 0 (e.points.length:Int)).bind fun l=>
 (sl a.arrays 0 (e.arrays.length:Int)).bind fun m=>
 (app ([]:List BA) k).bind fun o=>
 (app ([]:List BA) l).bind fun p=>
 (app ([]:List BA) m).bind fun h=>
 some (c,(⟨a.f,a.funcs,a.params,o,p,h,a.count,a.left⟩:Gm),d)
def F_kit_loop (fu:Nat)(r_kit_stmts:T_kit_stmts) (r_kit_body:T_kit_body) (r_kit_loop:T_kit_loop) (u:Gm) (c:GTape) (v:Int):Option ((List Gs) × Gm × GTape):=
 (m_kit_fresh fu u c).bind fun x=>
 pel x fun b a=>
 (app a.scalars ([b]:List BA)).bind fun w=>
 (m_kit_variable fu b).bind fun m=>
 (m_kit_next fu c 4).bind fun x=>
 pel x fun o p=>
 (m_kit_literal fu (wr (1+o))).bind fun d=>
 (r_kit_body (⟨a.f,a.funcs,a.params,w,a.points,a.arrays,a.count,a.left⟩:Gm) p (wr (v+1)) 4).bind fun x=>
 pel x fun e x=>pel x fun h i=>
 (m_kit_variable fu b).bind fun j=>
 (m_kit_variable fu b).bind fun k=>
 (m_kit_literal fu 1).bind fun l=>
 (app e ([(⟨2,0,0,be,be,0,0,([j]:List Ge),be,0,([(⟨6,0,0,be,be,([k,l]:List Ge)⟩:Ge)]:List Ge),([]:List Gs),([]:List Gs)⟩:Gs)]:List Gs)).bind fun t=>
 some (([(⟨1,0,0,b,be,0,0,([]:List Ge),be,0,([]:List Ge),([]:List Gs),([]:List Gs)⟩:Gs),(⟨5,0,0,be,be,0,0,([]:List Ge),be,0,([(⟨14,0,0,be,be,([m,d]:List Ge)⟩:Ge)]:List Ge),t,([]:List Gs)⟩:Gs)]:List Gs),h,i)
def F_kit_stmts_J1 (fu:Nat)(r_kit_stmts:T_kit_stmts) (r_kit_body:T_kit_body) (r_kit_loop:T_kit_loop) (a:Int)(b:Int):Option (Ld (Bool) ((List Gs) × Gm × GTape)):=
 if b < 3 then
  some (.go (decide (a < 14)))
 else
  some (.go false)
def F_kit_stmts_J2 (fu:Nat)(r_kit_stmts:T_kit_stmts) (r_kit_body:T_kit_body) (r_kit_loop:T_kit_loop) (b:Int)(a:Int):Option (Ld (Bool) ((List Gs) × Gm × GTape)):=
 if a=3 then
  some (.go (decide (b < 4)))
 else
  some (.go false)
def F_kit_stmts_J3 (fu:Nat)(r_kit_stmts:T_kit_stmts) (r_kit_body:T_kit_body) (r_kit_loop:T_kit_loop) (j:Int)(a:Gm) (e:GTape):Option (Ld (List Gs × Int × Int × List Int × Int × Int × List Int × Int × List BA × List BA × List BA) ((List Gs) × Gm × GTape)):=
 (m_kit_next fu e 2).bind fun k=>
 pel k fun h c=>
 if h=1 then
  (r_kit_body a c (wr (j+1)) 3).bind fun k=>
  pel k fun i k=>pel k fun b d=>
  some (.go (i,b.f,b.funcs,b.params,b.count,b.left,d.l,d.at_,b.scalars,b.points,b.arrays))
 else
  some (.go (([]:List Gs),a.f,a.funcs,a.params,a.count,a.left,c.l,c.at_,a.scalars,a.points,a.arrays))
def F_kit_stmts_J4 (fu:Nat)(r_kit_stmts:T_kit_stmts) (r_kit_body:T_kit_body) (r_kit_loop:T_kit_loop) (c:Int)(a:Int)(b:Int):Option (Ld (Bool) ((List Gs) × Gm × GTape)):=
 if b=4 then
  if c < 4 then
   some (.go (decide (a < 14)))
  else
   some (.go false)
 else
  some (.go false)
def F_kit_stmts_J5 (fu:Nat)(r_kit_stmts:T_kit_stmts) (r_kit_body:T_kit_body) (r_kit_loop:T_kit_loop) (c:Int)(a:Int)(b:Int):Option (Ld (Bool) ((List Gs) × Gm × GTape)):=
 if b=5 then
  if c < 4 then
   some (.go (decide (a < 14)))
  else
   some (.go false)
 else
  some (.go false)
def F_kit_stmts_J6 (fu:Nat)(r_kit_stmts:T_kit_stmts) (r_kit_body:T_kit_body) (r_kit_loop:T_kit_loop) (d:Int)(a:GTape):Option (Ld (Bool × List Int × Int) ((List Gs) × Gm × GTape)):=
 if d=7 then
  (m_kit_next fu a 3).bind fun e=>
  pel e fun c b=>
  some (.go ((decide (c=0)),b.l,b.at_))
 else
  some (.go (false,a.l,a.at_))
def F_kit_stmts_J8 (fu:Nat)(r_kit_stmts:T_kit_stmts) (r_kit_body:T_kit_body) (r_kit_loop:T_kit_loop) (j:Int)(k:Int)(m:List Int) (o:Int)(p:Int)(d:List BA) (e:List BA) (h:List BA) (t:List Int) (u:Int):Option (Ld (Bool × List Ge × Int × Int × Int × BA × BA × Int × Int × List Ge × BA × Int × List Gs × List Gs × List Int × Int × Int × Int × List Int × Int × Int × List BA × List BA × List BA) ((List Gs) × Gm × GTape)):=
 (m_kit_next fu (⟨t,u⟩:GTape) 2).bind fun x=>
 pel x fun v c=>
 if v=0 then
  some (.go (true,([]:List Ge),6,0,0,be,be,0,0,([]:List Ge),be,0,([]:List Gs),([]:List Gs),c.l,c.at_,j,k,m,o,(wr (p - 1)),d,e,h))
 else
  (m_kit_call fu (⟨j,k,m,d,e,h,o,(wr (p - 1))⟩:Gm) c (⟨6,0,0,be,be,0,0,([]:List Ge),be,0,([]:List Ge),([]:List Gs),([]:List Gs)⟩:Gs)).bind fun x=>
  pel x fun w x=>pel x fun b x=>pel x fun i a=>
  some (.go ((!w),a.Args,a.Kind,a.Line,a.Id,a.Name,a.Type_,a.Len,a.Var,a.Target,a.Func,a.Callee,a.Body,a.Else,i.l,i.at_,b.f,b.funcs,b.params,b.count,b.left,b.scalars,b.points,b.arrays))
def F_kit_stmts_J7 (fu:Nat)(r_kit_stmts:T_kit_stmts) (r_kit_body:T_kit_body) (r_kit_loop:T_kit_loop) (Q:Int)(R:Int)(S:List Int) (U:Int)(W:Int)(A:List BA) (B:List BA) (C:List BA) (D:List Int) (E:Int):Option (Ld (List Ge × Int × Int × Int × BA × BA × Int × Int × List Ge × BA × Int × List Gs × List Gs × List Int × Int × Int × Int × List Int × Int × Int × List BA × List BA × List BA) ((List Gs) × Gm × GTape)):=
 (F_kit_stmts_J8 fu r_kit_stmts r_kit_body r_kit_loop Q R S U W A B C D E).bind fun X=>X.el (fun X=>
 pel X fun F X=>pel X fun G X=>pel X fun H X=>pel X fun I X=>pel X fun J X=>pel X fun K X=>pel X fun L X=>pel X fun M X=>pel X fun N X=>pel X fun u X=>pel X fun v X=>pel X fun w X=>pel X fun x X=>pel X fun z X=>pel X fun b X=>pel X fun c X=>pel X fun d X=>pel X fun e X=>pel X fun h X=>pel X fun i X=>pel X fun j X=>pel X fun k X=>pel X fun m p=>
 if F=true then
  (m_kit_expr fu (⟨d,e,h,k,m,p,i,j⟩:Gm) (⟨b,c⟩:GTape) 0).bind fun X=>
  pel X fun P X=>pel X fun a t=>
  some (.go (([P]:List Ge),6,0,0,be,be,0,0,([]:List Ge),be,0,([]:List Gs),([]:List Gs),t.l,t.at_,a.f,a.funcs,a.params,a.count,a.left,a.scalars,a.points,a.arrays))
 else
  some (.go (G,H,I,J,K,L,M,N,u,v,w,x,z,b,c,d,e,h,i,j,k,m,p))
 ) (fun o=>some (.out o))
def F_kit_stmts_J9 (fu:Nat)(r_kit_stmts:T_kit_stmts) (r_kit_body:T_kit_body) (r_kit_loop:T_kit_loop) (e:Int)(b:List Int) (c:Int):Option (Ld (Bool × List Int × Int) ((List Gs) × Gm × GTape)):=
 if e=8 then
  (m_kit_next fu (⟨b,c⟩:GTape) 3).bind fun f=>
  pel f fun d a=>
  some (.go ((decide (d=0)),a.l,a.at_))
 else
  some (.go (false,b,c))
def F_kit_stmts_J10 (fu:Nat)(r_kit_stmts:T_kit_stmts) (r_kit_body:T_kit_body) (r_kit_loop:T_kit_loop) (f:Int)(e:Int)(b:List Int) (c:Int):Option (Ld (Bool × List Int × Int) ((List Gs) × Gm × GTape)):=
 if e=9 then
  (m_kit_next fu (⟨b,c⟩:GTape) 8).bind fun h=>
  pel h fun d a=>
  if d=0 then
   some (.go ((decide (f < 4)),a.l,a.at_))
  else
   some (.go (false,a.l,a.at_))
 else
  some (.go (false,b,c))
def F_kit_stmts_L0 (fu:Nat)(r_kit_stmts:T_kit_stmts) (r_kit_body:T_kit_body) (r_kit_loop:T_kit_loop) (D:Int)(Y:Int):Nat→Int→(List Gs)→Int→Int→(List Int)→Int→Int→(List Int)→Int→(List BA)→(List BA)→(List BA)→Option (Ld (Int × List Gs × Int × Int × List Int × Int × Int × List Int × Int × List BA × List BA × List BA) ((List Gs) × Gm × GTape))
 | 0,_,_,_,_,_,_,_,_,_,_,_,_=>none
 | n1+1,j,p,t,u,v,d,k,E,F,a,b,c=>
 if j < Y then
  if 0 < k then
   (m_kit_more fu (⟨E,F⟩:GTape)).bind fun b0=>
   if b0=true then
    (m_kit_next fu (⟨E,F⟩:GTape) 16).bind fun bg=>
    pel bg fun B C=>
    (F_kit_stmts_J1 fu r_kit_stmts r_kit_body r_kit_loop d B).bind fun bg=>bg.el (fun b1=>
    if b1=true then
     (m_kit_declare fu (⟨t,u,v,a,b,c,d,(wr (k - 1))⟩:Gm) C).bind fun bg=>
     pel bg fun aq bg=>pel bg fun w N=>
     (app p ([aq]:List Gs)).bind fun b6=>
     F_kit_stmts_L0 fu r_kit_stmts r_kit_body r_kit_loop D Y n1 (wr (j+1)) b6 w.f w.funcs w.params w.count w.left N.l N.at_ w.scalars w.points w.arrays
    else
     (F_kit_stmts_J2 fu r_kit_stmts r_kit_body r_kit_loop D B).bind fun bg=>bg.el (fun ar=>
     if ar=true then
      (m_kit_expr fu (⟨t,u,v,a,b,c,d,(wr (k - 1))⟩:Gm) C 0).bind fun bg=>
      pel bg fun au bg=>pel bg fun av aw=>
      (r_kit_body av aw (wr (D+1)) 4).bind fun bg=>
      pel bg fun ax bg=>pel bg fun ay az=>
      (F_kit_stmts_J3 fu r_kit_stmts r_kit_body r_kit_loop D ay az).bind fun bg=>bg.el (fun bg=>
      pel bg fun aA bg=>pel bg fun aB bg=>pel bg fun aC bg=>pel bg fun aD bg=>pel bg fun aE bg=>pel bg fun aF bg=>pel bg fun aG bg=>pel bg fun aH bg=>pel bg fun aI bg=>pel bg fun a1 a2=>
      (app p ([(⟨4,0,0,be,be,0,0,([]:List Ge),be,0,([au]:List Ge),ax,aA⟩:Gs)]:List Gs)).bind fun b7=>
      F_kit_stmts_L0 fu r_kit_stmts r_kit_body r_kit_loop D Y n1 (wr (j+1)) b7 aB aC aD aE aF aG aH aI a1 a2
      ) (fun o=>some (.out o))
     else
      (F_kit_stmts_J4 fu r_kit_stmts r_kit_body r_kit_loop D d B).bind fun bg=>bg.el (fun aJ=>
      if aJ=true then
       (r_kit_loop (⟨t,u,v,a,b,c,d,(wr (k - 1))⟩:Gm) C D).bind fun bg=>
       pel bg fun aK bg=>pel bg fun x P=>
       (app p aK).bind fun b8=>
       F_kit_stmts_L0 fu r_kit_stmts r_kit_body r_kit_loop D Y n1 (wr (j+1)) b8 x.f x.funcs x.params x.count x.left P.l P.at_ x.scalars x.points x.arrays
      else
       (F_kit_stmts_J5 fu r_kit_stmts r_kit_body r_kit_loop D d B).bind fun bg=>bg.el (fun aL=>
       if aL=true then
        (r_kit_body (⟨t,u,v,a,b,c,d,(wr (k - 1))⟩:Gm) C (wr (D+1)) 4).bind fun bg=>
        pel bg fun aM bg=>pel bg fun aN Q=>
        (m_kit_fresh fu aN Q).bind fun bg=>
        pel bg fun R z=>
        (app z.scalars ([R]:List BA)).bind fun b9=>
        (r_kit_body (⟨z.f,z.funcs,z.params,b9,z.points,z.arrays,z.count,z.left⟩:Gm) Q (wr (D+1)) 3).bind fun bg=>
        pel bg fun aO bg=>pel bg fun m S=>
        (sl m.scalars 0 (wr ((m.scalars.length:Int) - 1))).bind fun ba=>
        (app ([]:List BA) ba).bind fun bb=>
        (app p ([(⟨8,0,0,R,be,0,0,([]:List Ge),be,0,([]:List Ge),aM,aO⟩:Gs)]:List Gs)).bind fun bc=>
        F_kit_stmts_L0 fu r_kit_stmts r_kit_body r_kit_loop D Y n1 (wr (j+1)) bc m.f m.funcs m.params m.count m.left S.l S.at_ bb m.points m.arrays
       else
        if B=6 then
         (m_kit_expr fu (⟨t,u,v,a,b,c,d,(wr (k - 1))⟩:Gm) C 0).bind fun bg=>
         pel bg fun aP bg=>pel bg fun A U=>
         (app p ([(⟨9,0,0,be,be,0,0,([]:List Ge),be,0,([aP]:List Ge),([]:List Gs),([]:List Gs)⟩:Gs)]:List Gs)).bind fun bd=>
         F_kit_stmts_L0 fu r_kit_stmts r_kit_body r_kit_loop D Y n1 (wr (j+1)) bd A.f A.funcs A.params A.count A.left U.l U.at_ A.scalars A.points A.arrays
        else
         (F_kit_stmts_J6 fu r_kit_stmts r_kit_body r_kit_loop B C).bind fun bg=>bg.el (fun bg=>
         pel bg fun aQ bg=>pel bg fun W X=>
         if aQ=true then
          (F_kit_stmts_J7 fu r_kit_stmts r_kit_body r_kit_loop t u v d k a b c W X).bind fun bg=>bg.el (fun bg=>
          pel bg fun aR bg=>pel bg fun aS bg=>pel bg fun aT bg=>pel bg fun aU bg=>pel bg fun aV bg=>pel bg fun aW bg=>pel bg fun aX bg=>pel bg fun aY bg=>pel bg fun aZ bg=>pel bg fun a3 bg=>pel bg fun a4 bg=>pel bg fun a5 bg=>pel bg fun a6 bg=>pel bg fun a7 bg=>pel bg fun a8 bg=>pel bg fun a9 bg=>pel bg fun aa bg=>pel bg fun ab bg=>pel bg fun ac bg=>pel bg fun ae bg=>pel bg fun af bg=>pel bg fun ag ah=>
          (app p ([(⟨aS,aT,aU,aV,aW,aX,aY,aZ,a3,a4,aR,a5,a6⟩:Gs)]:List Gs)).bind fun b2=>
          F_kit_stmts_L0 fu r_kit_stmts r_kit_body r_kit_loop D Y n1 (wr (j+1)) b2 a9 aa ab ac ae a7 a8 af ag ah
          ) (fun o=>some (.out o))
         else
          (F_kit_stmts_J9 fu r_kit_stmts r_kit_body r_kit_loop B W X).bind fun bg=>bg.el (fun bg=>
          pel bg fun ai bg=>pel bg fun G H=>
          if ai=true then
           (m_kit_expr fu (⟨t,u,v,a,b,c,d,(wr (k - 1))⟩:Gm) (⟨G,H⟩:GTape) 1).bind fun bg=>
           pel bg fun aj bg=>pel bg fun e I=>
           (app p ([(⟨7,0,0,be,be,0,0,([]:List Ge),be,0,([aj]:List Ge),([]:List Gs),([]:List Gs)⟩:Gs)]:List Gs)).bind fun b3=>
           F_kit_stmts_L0 fu r_kit_stmts r_kit_body r_kit_loop D Y n1 (wr (j+1)) b3 e.f e.funcs e.params e.count e.left I.l I.at_ e.scalars e.points e.arrays
          else
           (F_kit_stmts_J10 fu r_kit_stmts r_kit_body r_kit_loop D B G H).bind fun bg=>bg.el (fun bg=>
           pel bg fun ak bg=>pel bg fun J K=>
           if ak=true then
            (m_kit_expr fu (⟨t,u,v,a,b,c,d,(wr (k - 1))⟩:Gm) (⟨J,K⟩:GTape) 1).bind fun bg=>
            pel bg fun al bg=>pel bg fun am an=>
            (r_kit_body am an (wr (D+1)) 3).bind fun bg=>
            pel bg fun ao bg=>pel bg fun h L=>
            (app p ([(⟨5,0,0,be,be,0,0,([]:List Ge),be,0,([al]:List Ge),ao,([]:List Gs)⟩:Gs)]:List Gs)).bind fun b4=>
            F_kit_stmts_L0 fu r_kit_stmts r_kit_body r_kit_loop D Y n1 (wr (j+1)) b4 h.f h.funcs h.params h.count h.left L.l L.at_ h.scalars h.points h.arrays
           else
            (m_kit_assign fu (⟨t,u,v,a,b,c,d,(wr (k - 1))⟩:Gm) (⟨J,K⟩:GTape)).bind fun bg=>
            pel bg fun ap bg=>pel bg fun i M=>
            (app p ([ap]:List Gs)).bind fun b5=>
            F_kit_stmts_L0 fu r_kit_stmts r_kit_body r_kit_loop D Y n1 (wr (j+1)) b5 i.f i.funcs i.params i.count i.left M.l M.at_ i.scalars i.points i.arrays
           ) (fun o=>some (.out o))
          ) (fun o=>some (.out o))
         ) (fun o=>some (.out o))
       ) (fun o=>some (.out o))
      ) (fun o=>some (.out o))
     ) (fun o=>some (.out o))
    ) (fun o=>some (.out o))
   else
    some (.go (j,p,t,u,v,d,k,E,F,a,b,c))
  else
   some (.go (j,p,t,u,v,d,k,E,F,a,b,c))
 else
  some (.go (j,p,t,u,v,d,k,E,F,a,b,c))
def F_kit_stmts (fu:Nat)(r_kit_stmts:T_kit_stmts) (r_kit_body:T_kit_body) (r_kit_loop:T_kit_loop) (a:Gm) (b:GTape) (w:Int)(x:Int):Option ((List Gs) × Gm × GTape):=
 (F_kit_stmts_L0 fu r_kit_stmts r_kit_body r_kit_loop w x fu 0 ([]:List Gs) a.f a.funcs a.params a.count a.left b.l b.at_ a.scalars a.points a.arrays).bind fun z=>z.el (fun z=>
 pel z fun v z=>pel z fun h z=>pel z fun i z=>pel z fun j z=>pel z fun k z=>pel z fun m z=>pel z fun p z=>pel z fun t z=>pel z fun u z=>pel z fun c z=>pel z fun d e=>
 some (h,(⟨i,j,k,c,d,e,m,p⟩:Gm),(⟨t,u⟩:GTape))
 ) (fun o=>some o)
def tab_kit_body:Nat→(Gm→GTape→Int→Int→Option ((List Gs) × Gm × GTape)) × (Gm→GTape→Int→Option ((List Gs) × Gm × GTape)) × (Gm→GTape→Int→Int→Option ((List Gs) × Gm × GTape))
 | 0=>((fun _ _ _ _=>none),(fun _ _ _=>none),(fun _ _ _ _=>none))
 | fu+1=>(F_kit_body fu ((tab_kit_body fu).2.2) ((tab_kit_body fu).1) ((tab_kit_body fu).2.1),F_kit_loop fu ((tab_kit_body fu).2.2) ((tab_kit_body fu).1) ((tab_kit_body fu).2.1),F_kit_stmts fu ((tab_kit_body fu).2.2) ((tab_kit_body fu).1) ((tab_kit_body fu).2.1))
def m_kit_body (fu:Nat):=(tab_kit_body fu).1
def m_kit_loop (fu:Nat):=(tab_kit_body fu).2.1
def m_kit_stmts (fu:Nat):=(tab_kit_body fu).2.2
theorem wk_kit_body (fu:Nat)(r_kit_stmts:T_kit_stmts) (r_kit_body:T_kit_body) (r_kit_loop:T_kit_loop) (H_kit_stmts:Ct_kit_stmts r_kit_stmts) (H_kit_body:Ct_kit_body r_kit_body) (H_kit_loop:Ct_kit_loop r_kit_loop):Ct_kit_body (F_kit_body fu r_kit_stmts r_kit_body r_kit_loop):=by
 intro w0 cS x0 ap x1 x2 ar h Y a0 j m ac ae au af ag ah av ai aj ak aw al R hP a8 a9 aa hM
 unfold F_kit_body at hM
 have b:=hP.bx
 clear hP
 generalize hG:Gof _=G at b ⊢
 refine cf Try.func84 r ?_
 refine wCut [(0,Pt ar),(1,V x1),(2,V x2)] ⟨r,r,r,y⟩ fun cT=>?_
 refine q (g (s (xAsS r) (n (q (wDr1 b [0] [] [] (by kernel_rfl) ?_)))))
 replace b:=b.drew
 have c:=(b.ad [0] [])
 refine pF 0 r (mp r) c (pF 1 r (xn r) c (pF 2 r (f135_4 r) c (uF 3 r (fun hS=>l70 r (hS.bk 0 r) r) c (pF 4 r (xLnR u70_ r) c (pF 5 r (mp r) c (pF 6 r (xn r) c (pF 7 r (f135_5 r) c (uF 8 r (fun hS=>l70 r (hS.bk 0 r) r) c (pF 9 r (xLnR u70_ r) c (pF 10 r (mp r) c (pF 11 r (xn r) c (pF 12 r (f135_6 r) c (uF 13 r (fun hS=>l70 r (hS.bk 0 r) r) c ?_)))))))))))))
 refine pF 14 r (xLnR u70_ r) c (pF 15 r (xi r) c (pF 16 r (xi r) c (pF 17 r (xi r) c (hD (q (g (s (mp r) (s (mi r) (s (mi r) ?_)))))))))
 obtain ⟨⟨aq,a,am⟩,h1,hM⟩:=bs hM
 replace hM:=pi hM
 replace hM:=pi hM
 have hc:=H_kit_stmts (b.pr [0,1,2,3,4] [] [0,1,2,3,4] r) (b.le a8) (b.le a9) (b.le aa) h1
 refine sc (ec cal58 r) hc ?_
 rintro _ w1 ⟨a1,a2,a3,a6,a7,ay,u,v,az,d,e,aA,rfl,hK⟩
 have aE:=b.chg.size
 replace b:=b.cl [0,1,2,3,4] [] r hK r
 try dsimp only [pick,nth,ca,na] at b
 replace b:=b.reb 0 w0.heap.size r aE
 try dsimp only [List.set] at b
 refine s (xAsS r) (n (q ?_))
 obtain ⟨l2,aF,hM⟩:=bs hM
 obtain ⟨i2,j2,br,aG,aO,W,X⟩:=sl_inv aF
 obtain rfl:i2=0:=by omega
 have aB:l2.length=j2:=by rw [← X,List.length_take,List.length_drop];omega
 obtain ⟨l3,aH,hM⟩:=bs hM
 obtain ⟨i3,j3,bv,aI,aR,K,L⟩:=sl_inv aH
 obtain rfl:i3=0:=by omega
 have aC:l3.length=j3:=by rw [← L,List.length_take,List.length_drop];omega
 obtain ⟨l4,aJ,hM⟩:=bs hM
 obtain ⟨i4,j4,bz,aK,aU,M,N⟩:=sl_inv aJ
 obtain rfl:i4=0:=by omega
 have aD:l4.length=j4:=by rw [← N,List.length_take,List.length_drop];omega
 obtain ⟨F,a4,hM⟩:=bs hM
 obtain ⟨H,Q,hM⟩:=bs hM
 obtain ⟨E,I,hM⟩:=bs hM
 refine wJd (fun f w=>∃ (x:OA)(A:Nat)(B:OA)(C:Nat)(p:OA)(t:Nat)(S:LV)(J:LV)(D:LV),Has f [(10,Z a1 aq a2)]∧Bx w0 w cS G [O w0.heap.size a1 a2 111 Gs a3,.box ar 135 #[Pt h,V a.f,V a.funcs,Z j a.params m,Z x F A,Z B H C,Z p E t,V a.count,V a.left],.box h 132 #[Z Y am.l a0,V am.at_],O w0.heap.size x A 9 BA S,O w0.heap.size B C 9 BA J,O w0.heap.size p t 9 BA D] [.els a3 aq,.l Y a0 am.l,.l j m a.params,.els D E,.els S F,.els J H]) (fun Jd hJd=>?_) ?_
 ·refine wDr b [] [] [1] [] [29,32,35] (by kernel_rfl) ?_
  replace b:=b.drew
  have c:=(b.ad [] [])
  have o:=(b.ad [1] [])
  refine pL 0 r (mp r) c o (pL 1 r (mp r) c o (pL 2 r (mp r) c o (pL 4 r (mp r) c o (pL 5 r (xn r) c o (pL 6 r (f135_4 r) c o (tS 1 7 r (fun _ hS=>l70 r (hS.bk 0 r) r) (sl_ c o) (pL 8 r (mi r) c o (tP 9 r (fun _=>show Yl _ _ _ _ _ _ _ _ _ (.slice a6 l2.length a7) from (congrArg (fun z=>Value.slice a6 z a7) aB).symm ▸ xSlcH j2 u70_ ti9 r r aG (Nat.le_trans W ((b.vw 3 3 r r)).cap)) (sl_ c o) (pL 12 r (mp r) c o (pL 13 r (xn r) c o (pL 14 r (f135_5 r) c o (tS 1 15 r (fun _ hS=>l70 r (hS.bk 0 r) r) (sl_ c o) (pL 16 r (mi r) c o ?_)))))))))))))
  refine tP 17 r (fun _=>show Yl _ _ _ _ _ _ _ _ _ (.slice u l3.length v) from (congrArg (fun z=>Value.slice u z v) aC).symm ▸ xSlcH j3 u70_ ti9 r r aI (Nat.le_trans K ((b.vw 4 4 r r)).cap)) (sl_ c o) (pL 20 r (mp r) c o (pL 21 r (xn r) c o (pL 22 r (f135_6 r) c o (tS 1 23 r (fun _ hS=>l70 r (hS.bk 0 r) r) (sl_ c o) (pL 24 r (mi r) c o (tP 25 r (fun _=>show Yl _ _ _ _ _ _ _ _ _ (.slice d l4.length e) from (congrArg (fun z=>Value.slice d z e) aD).symm ▸ xSlcH j4 u70_ ti9 r r aK (Nat.le_trans M ((b.vw 5 5 r r)).cap)) (sl_ c o) ?_))))))
  refine hList' 3 [11,19] (by kernel_rfl) (om_cons' ?_ (om_cons' ?_ (om_cons' ?_ om_nil')))
  ·refine oo r r (aRowB b [] ([]:List BA) (bs70_0_a) r r (by decide) y) ?_
   rintro _ bA ⟨bB,rfl,b⟩
   have c:=(b.ad [] [])
   have o:=(b.ad [2] [])
   refine ⟨(sl_ c o),?_⟩
   refine hList' 10 [11,19] (by kernel_rfl) (om_cons' ?_ (om_cons' ?_ (om_cons' ?_ om_nil')))
   ·refine oo r r (aAppB b 0 0 r r u70_ ti9 r (by decide) (by decide) (Nat.le_refl _) r r (b.ysP 4 4 r r W X) a4) ?_
    rintro _ w6 ⟨x,A,S,rfl,b⟩
    have c:=(b.ad [] [])
    have o:=(b.ad [2] [])
    refine ⟨(sl_ c o),?_⟩
    refine hList' 11 [19] (by kernel_rfl) (om_cons' ?_ (om_cons' ?_ om_nil'))
    ·refine oo r r (aRowB b [] ([]:List BA) (bs70_0_a) r r (by decide) y) ?_
     rintro _ bC ⟨bD,rfl,b⟩
     have c:=(b.ad [] [])
     have o:=(b.ad [3] [])
     refine ⟨(sl_ c o),?_⟩
     refine hList' 18 [19] (by kernel_rfl) (om_cons' ?_ (om_cons' ?_ om_nil'))
     ·refine oo r r (aAppB b 0 0 r r u70_ ti9 r (by decide) (by decide) (Nat.le_refl _) r r (b.ysP 6 6 r r K L) Q) ?_
      rintro _ w9 ⟨B,C,J,rfl,b⟩
      have c:=(b.ad [] [])
      have o:=(b.ad [3] [])
      refine ⟨(sl_ c o),?_⟩
      refine hO 19 (oo r r (aRowB b [] ([]:List BA) (bs70_0_a) r r (by decide) y) ?_)
      rintro _ bE ⟨bF,rfl,b⟩
      have c:=(b.ad [] [])
      have o:=(b.ad [4] [])
      refine ⟨(sl_ c o),?_⟩
      refine hO 26 (oo r r (aAppB b 0 0 r r u70_ ti9 r (by decide) (by decide) (Nat.le_refl _) r r (b.ysP 8 8 r r M N) I) ?_)
      rintro _ U ⟨p,t,D,rfl,b⟩
      have c:=(b.ad [] [])
      have o:=(b.ad [4] [])
      refine ⟨(sl_ c o),?_⟩
      refine pL 27 r (xn r) c o (pL 28 r (f135_4 r) c o ?_)
      refine hO 29 (os r r (tb b 4 [Z x F A] r ti70 r r r r r (show _=#[Pt h,V a.f,V a.funcs,Z j a.params m,Z x F A,Z u a.points v,Z d a.arrays e,V a.count,V a.left] from r)) ?_)
      intro bG b
      try dsimp only [List.set] at b
      have c:=(b.ad [] [])
      refine ⟨(sy 29 c),?_⟩
      refine tP 30 r (fun _=>xn r) (sy 29 c) (tP 31 r (fun _=>f135_5 r) (sy 29 c) ?_)
      refine hO 32 (os r r (tb b 4 [Z B H C] r ti70 r r r r r (show _=#[Pt h,V a.f,V a.funcs,Z j a.params m,Z x F A,Z B H C,Z d a.arrays e,V a.count,V a.left] from r)) ?_)
      intro bH b
      try dsimp only [List.set] at b
      have c:=(b.ad [] [])
      refine ⟨(sy 29 c),?_⟩
      refine tP 33 r (fun _=>xn r) (sy 29 c) (tP 34 r (fun _=>f135_6 r) (sy 29 c) ?_)
      refine hO 35 (os r r (tb b 4 [Z p E t] r ti70 r r r r r (show _=#[Pt h,V a.f,V a.funcs,Z j a.params m,Z x F A,Z B H C,Z p E t,V a.count,V a.left] from r)) ?_)
      intro bI b
      try dsimp only [List.set] at b
      have c:=(b.ad [] [])
      refine ⟨(sy 29 c),?_⟩
      refine hD ?_
      exact hJd _ _ ⟨x,A,B,C,p,t,S,J,D,⟨r,y⟩,(b.ad [3,4,5,2,1,0] [3,4,5,0,2,1])⟩
     refine oo r r (aRowB b [] ([]:List BA) (bs70_0_a) r r (by decide) y) ?_
     rintro _ bJ ⟨bK,rfl,b⟩
     have c:=(b.ad [] [])
     have o:=(b.ad [4] [])
     refine ⟨(sl_ c o),?_⟩
     refine hO 18 (oo r r (aAppB b 1 1 r r u70_ ti9 r (by decide) (by decide) (Nat.le_refl _) r r (b.ysP 7 7 r r K L) Q) ?_)
     rintro _ w9 ⟨B,C,J,rfl,b⟩
     have c:=(b.ad [] [])
     have o:=(b.ad [4] [])
     refine ⟨(sl_ c o),?_⟩
     refine hO 26 (oo r r (aAppB b 0 0 r r u70_ ti9 r (by decide) (by decide) (Nat.le_refl _) r r (b.ysP 8 8 r r M N) I) ?_)
     rintro _ U ⟨p,t,D,rfl,b⟩
     have c:=(b.ad [] [])
     have o:=(b.ad [4] [])
     refine ⟨(sl_ c o),?_⟩
     refine pL 27 r (xn r) c o (pL 28 r (f135_4 r) c o ?_)
     refine hO 29 (os r r (tb b 4 [Z x F A] r ti70 r r r r r (show _=#[Pt h,V a.f,V a.funcs,Z j a.params m,Z x F A,Z u a.points v,Z d a.arrays e,V a.count,V a.left] from r)) ?_)
     intro bL b
     try dsimp only [List.set] at b
     have c:=(b.ad [] [])
     refine ⟨(sy 29 c),?_⟩
     refine tP 30 r (fun _=>xn r) (sy 29 c) (tP 31 r (fun _=>f135_5 r) (sy 29 c) ?_)
     refine hO 32 (os r r (tb b 4 [Z B H C] r ti70 r r r r r (show _=#[Pt h,V a.f,V a.funcs,Z j a.params m,Z x F A,Z B H C,Z d a.arrays e,V a.count,V a.left] from r)) ?_)
     intro bM b
     try dsimp only [List.set] at b
     have c:=(b.ad [] [])
     refine ⟨(sy 29 c),?_⟩
     refine tP 33 r (fun _=>xn r) (sy 29 c) (tP 34 r (fun _=>f135_6 r) (sy 29 c) ?_)
     refine hO 35 (os r r (tb b 4 [Z p E t] r ti70 r r r r r (show _=#[Pt h,V a.f,V a.funcs,Z j a.params m,Z x F A,Z B H C,Z p E t,V a.count,V a.left] from r)) ?_)
     intro bN b
     try dsimp only [List.set] at b
     have c:=(b.ad [] [])
     refine ⟨(sy 29 c),?_⟩
     refine hD ?_
     exact hJd _ _ ⟨x,A,B,C,p,t,S,J,D,⟨r,y⟩,(b.ad [3,4,5,2,1,0] [3,4,5,0,2,1])⟩
    refine oo r r (aRowB b [] ([]:List BA) (bs70_0_a) r r (by decide) y) ?_
    rintro _ bO ⟨bP,rfl,b⟩
    have c:=(b.ad [] [])
    have o:=(b.ad [3] [])
    refine ⟨(sl_ c o),?_⟩
    refine hO 11 (oo r r (aRowB b [] ([]:List BA) (bs70_0_a) r r (by decide) y) ?_)
    rintro _ bQ ⟨bR,rfl,b⟩
    have c:=(b.ad [] [])
    have o:=(b.ad [4] [])
    refine ⟨(sl_ c o),?_⟩
    refine hO 18 (oo r r (aAppB b 0 0 r r u70_ ti9 r (by decide) (by decide) (Nat.le_refl _) r r (b.ysP 7 7 r r K L) Q) ?_)
    rintro _ w9 ⟨B,C,J,rfl,b⟩
    have c:=(b.ad [] [])
    have o:=(b.ad [4] [])
    refine ⟨(sl_ c o),?_⟩
    refine hO 26 (oo r r (aAppB b 1 1 r r u70_ ti9 r (by decide) (by decide) (Nat.le_refl _) r r (b.ysP 8 8 r r M N) I) ?_)
    rintro _ U ⟨p,t,D,rfl,b⟩
    have c:=(b.ad [] [])
    have o:=(b.ad [4] [])
    refine ⟨(sl_ c o),?_⟩
    refine pL 27 r (xn r) c o (pL 28 r (f135_4 r) c o ?_)
    refine hO 29 (os r r (tb b 4 [Z x F A] r ti70 r r r r r (show _=#[Pt h,V a.f,V a.funcs,Z j a.params m,Z x F A,Z u a.points v,Z d a.arrays e,V a.count,V a.left] from r)) ?_)
    intro bS b
    try dsimp only [List.set] at b
    have c:=(b.ad [] [])
    refine ⟨(sy 29 c),?_⟩
    refine tP 30 r (fun _=>xn r) (sy 29 c) (tP 31 r (fun _=>f135_5 r) (sy 29 c) ?_)
    refine hO 32 (os r r (tb b 4 [Z B H C] r ti70 r r r r r (show _=#[Pt h,V a.f,V a.funcs,Z j a.params m,Z x F A,Z B H C,Z d a.arrays e,V a.count,V a.left] from r)) ?_)
    intro bT b
    try dsimp only [List.set] at b
    have c:=(b.ad [] [])
    refine ⟨(sy 29 c),?_⟩
    refine tP 33 r (fun _=>xn r) (sy 29 c) (tP 34 r (fun _=>f135_6 r) (sy 29 c) ?_)
    refine hO 35 (os r r (tb b 4 [Z p E t] r ti70 r r r r r (show _=#[Pt h,V a.f,V a.funcs,Z j a.params m,Z x F A,Z B H C,Z p E t,V a.count,V a.left] from r)) ?_)
    intro bU b
    try dsimp only [List.set] at b
    have c:=(b.ad [] [])
    refine ⟨(sy 29 c),?_⟩
    refine hD ?_
    exact hJd _ _ ⟨x,A,B,C,p,t,S,J,D,⟨r,y⟩,(b.ad [3,4,5,2,0,1] [3,4,5,1,2,0])⟩
   ·refine oo r r (aRowB b [] ([]:List BA) (bs70_0_a) r r (by decide) y) ?_
    rintro _ bV ⟨bW,rfl,b⟩
    have c:=(b.ad [] [])
    have o:=(b.ad [3] [])
    refine ⟨(sl_ c o),?_⟩
    refine hList' 10 [19] (by kernel_rfl) (om_cons' ?_ (om_cons' ?_ om_nil'))
    ·refine oo r r (aAppB b 1 1 r r u70_ ti9 r (by decide) (by decide) (Nat.le_refl _) r r (b.ysP 5 5 r r W X) a4) ?_
     rintro _ w6 ⟨x,A,S,rfl,b⟩
     have c:=(b.ad [] [])
     have o:=(b.ad [3] [])
     refine ⟨(sl_ c o),?_⟩
     refine hList' 18 [19] (by kernel_rfl) (om_cons' ?_ (om_cons' ?_ om_nil'))
     ·refine oo r r (aAppB b 0 0 r r u70_ ti9 r (by decide) (by decide) (Nat.le_refl _) r r (b.ysP 6 6 r r K L) Q) ?_
      rintro _ w9 ⟨B,C,J,rfl,b⟩
      have c:=(b.ad [] [])
      have o:=(b.ad [3] [])
      refine ⟨(sl_ c o),?_⟩
      refine hO 19 (oo r r (aRowB b [] ([]:List BA) (bs70_0_a) r r (by decide) y) ?_)
      rintro _ bX ⟨bY,rfl,b⟩
      have c:=(b.ad [] [])
      have o:=(b.ad [4] [])
      refine ⟨(sl_ c o),?_⟩
      refine hO 26 (oo r r (aAppB b 0 0 r r u70_ ti9 r (by decide) (by decide) (Nat.le_refl _) r r (b.ysP 8 8 r r M N) I) ?_)
      rintro _ U ⟨p,t,D,rfl,b⟩
      have c:=(b.ad [] [])
      have o:=(b.ad [4] [])
      refine ⟨(sl_ c o),?_⟩
      refine pL 27 r (xn r) c o (pL 28 r (f135_4 r) c o ?_)
      refine hO 29 (os r r (tb b 4 [Z x F A] r ti70 r r r r r (show _=#[Pt h,V a.f,V a.funcs,Z j a.params m,Z x F A,Z u a.points v,Z d a.arrays e,V a.count,V a.left] from r)) ?_)
      intro bZ b
      try dsimp only [List.set] at b
      have c:=(b.ad [] [])
      refine ⟨(sy 29 c),?_⟩
      refine tP 30 r (fun _=>xn r) (sy 29 c) (tP 31 r (fun _=>f135_5 r) (sy 29 c) ?_)
      refine hO 32 (os r r (tb b 4 [Z B H C] r ti70 r r r r r (show _=#[Pt h,V a.f,V a.funcs,Z j a.params m,Z x F A,Z B H C,Z d a.arrays e,V a.count,V a.left] from r)) ?_)
      intro c0 b
      try dsimp only [List.set] at b
      have c:=(b.ad [] [])
      refine ⟨(sy 29 c),?_⟩
      refine tP 33 r (fun _=>xn r) (sy 29 c) (tP 34 r (fun _=>f135_6 r) (sy 29 c) ?_)
      refine hO 35 (os r r (tb b 4 [Z p E t] r ti70 r r r r r (show _=#[Pt h,V a.f,V a.funcs,Z j a.params m,Z x F A,Z B H C,Z p E t,V a.count,V a.left] from r)) ?_)
      intro c1 b
      try dsimp only [List.set] at b
      have c:=(b.ad [] [])
      refine ⟨(sy 29 c),?_⟩
      refine hD ?_
      exact hJd _ _ ⟨x,A,B,C,p,t,S,J,D,⟨r,y⟩,(b.ad [3,4,5,2,1,0] [3,4,5,0,2,1])⟩
     refine oo r r (aRowB b [] ([]:List BA) (bs70_0_a) r r (by decide) y) ?_
     rintro _ c2 ⟨c3,rfl,b⟩
     have c:=(b.ad [] [])
     have o:=(b.ad [4] [])
     refine ⟨(sl_ c o),?_⟩
     refine hO 18 (oo r r (aAppB b 1 1 r r u70_ ti9 r (by decide) (by decide) (Nat.le_refl _) r r (b.ysP 7 7 r r K L) Q) ?_)
     rintro _ w9 ⟨B,C,J,rfl,b⟩
     have c:=(b.ad [] [])
     have o:=(b.ad [4] [])
     refine ⟨(sl_ c o),?_⟩
     refine hO 26 (oo r r (aAppB b 0 0 r r u70_ ti9 r (by decide) (by decide) (Nat.le_refl _) r r (b.ysP 8 8 r r M N) I) ?_)
     rintro _ U ⟨p,t,D,rfl,b⟩
     have c:=(b.ad [] [])
     have o:=(b.ad [4] [])
     refine ⟨(sl_ c o),?_⟩
     refine pL 27 r (xn r) c o (pL 28 r (f135_4 r) c o ?_)
     refine hO 29 (os r r (tb b 4 [Z x F A] r ti70 r r r r r (show _=#[Pt h,V a.f,V a.funcs,Z j a.params m,Z x F A,Z u a.points v,Z d a.arrays e,V a.count,V a.left] from r)) ?_)
     intro c4 b
     try dsimp only [List.set] at b
     have c:=(b.ad [] [])
     refine ⟨(sy 29 c),?_⟩
     refine tP 30 r (fun _=>xn r) (sy 29 c) (tP 31 r (fun _=>f135_5 r) (sy 29 c) ?_)
     refine hO 32 (os r r (tb b 4 [Z B H C] r ti70 r r r r r (show _=#[Pt h,V a.f,V a.funcs,Z j a.params m,Z x F A,Z B H C,Z d a.arrays e,V a.count,V a.left] from r)) ?_)
     intro c5 b
     try dsimp only [List.set] at b
     have c:=(b.ad [] [])
     refine ⟨(sy 29 c),?_⟩
     refine tP 33 r (fun _=>xn r) (sy 29 c) (tP 34 r (fun _=>f135_6 r) (sy 29 c) ?_)
     refine hO 35 (os r r (tb b 4 [Z p E t] r ti70 r r r r r (show _=#[Pt h,V a.f,V a.funcs,Z j a.params m,Z x F A,Z B H C,Z p E t,V a.count,V a.left] from r)) ?_)
     intro c6 b
     try dsimp only [List.set] at b
     have c:=(b.ad [] [])
     refine ⟨(sy 29 c),?_⟩
     refine hD ?_
     exact hJd _ _ ⟨x,A,B,C,p,t,S,J,D,⟨r,y⟩,(b.ad [3,4,5,2,1,0] [3,4,5,0,2,1])⟩
    refine oo r r (aRowB b [] ([]:List BA) (bs70_0_a) r r (by decide) y) ?_
    rintro _ c7 ⟨c8,rfl,b⟩
    have c:=(b.ad [] [])
    have o:=(b.ad [4] [])
    refine ⟨(sl_ c o),?_⟩
    refine hO 10 (oo r r (aAppB b 2 2 r r u70_ ti9 r (by decide) (by decide) (Nat.le_refl _) r r (b.ysP 6 6 r r W X) a4) ?_)
    rintro _ w6 ⟨x,A,S,rfl,b⟩
    have c:=(b.ad [] [])
    have o:=(b.ad [4] [])
    refine ⟨(sl_ c o),?_⟩
    refine hO 18 (oo r r (aAppB b 1 1 r r u70_ ti9 r (by decide) (by decide) (Nat.le_refl _) r r (b.ysP 7 7 r r K L) Q) ?_)
    rintro _ w9 ⟨B,C,J,rfl,b⟩
    have c:=(b.ad [] [])
    have o:=(b.ad [4] [])
    refine ⟨(sl_ c o),?_⟩
    refine hO 26 (oo r r (aAppB b 0 0 r r u70_ ti9 r (by decide) (by decide) (Nat.le_refl _) r r (b.ysP 8 8 r r M N) I) ?_)
    rintro _ U ⟨p,t,D,rfl,b⟩
    have c:=(b.ad [] [])
    have o:=(b.ad [4] [])
    refine ⟨(sl_ c o),?_⟩
    refine pL 27 r (xn r) c o (pL 28 r (f135_4 r) c o ?_)
    refine hO 29 (os r r (tb b 4 [Z x F A] r ti70 r r r r r (show _=#[Pt h,V a.f,V a.funcs,Z j a.params m,Z x F A,Z u a.points v,Z d a.arrays e,V a.count,V a.left] from r)) ?_)
    intro c9 b
    try dsimp only [List.set] at b
    have c:=(b.ad [] [])
    refine ⟨(sy 29 c),?_⟩
    refine tP 30 r (fun _=>xn r) (sy 29 c) (tP 31 r (fun _=>f135_5 r) (sy 29 c) ?_)
    refine hO 32 (os r r (tb b 4 [Z B H C] r ti70 r r r r r (show _=#[Pt h,V a.f,V a.funcs,Z j a.params m,Z x F A,Z B H C,Z d a.arrays e,V a.count,V a.left] from r)) ?_)
    intro cc b
    try dsimp only [List.set] at b
    have c:=(b.ad [] [])
    refine ⟨(sy 29 c),?_⟩
    refine tP 33 r (fun _=>xn r) (sy 29 c) (tP 34 r (fun _=>f135_6 r) (sy 29 c) ?_)
    refine hO 35 (os r r (tb b 4 [Z p E t] r ti70 r r r r r (show _=#[Pt h,V a.f,V a.funcs,Z j a.params m,Z x F A,Z B H C,Z p E t,V a.count,V a.left] from r)) ?_)
    intro cd b
    try dsimp only [List.set] at b
    have c:=(b.ad [] [])
    refine ⟨(sy 29 c),?_⟩
    refine hD ?_
    exact hJd _ _ ⟨x,A,B,C,p,t,S,J,D,⟨r,y⟩,(b.ad [3,4,5,2,1,0] [3,4,5,0,2,1])⟩
   refine oo r r (aRowB b [] ([]:List BA) (bs70_0_a) r r (by decide) y) ?_
   rintro _ ce ⟨cg,rfl,b⟩
   have c:=(b.ad [] [])
   have o:=(b.ad [3] [])
   refine ⟨(sl_ c o),?_⟩
   refine hList' 10 [11] (by kernel_rfl) (om_cons' ?_ (om_cons' ?_ om_nil'))
   ·refine oo r r (aAppB b 1 1 r r u70_ ti9 r (by decide) (by decide) (Nat.le_refl _) r r (b.ysP 5 5 r r W X) a4) ?_
    rintro _ w6 ⟨x,A,S,rfl,b⟩
    have c:=(b.ad [] [])
    have o:=(b.ad [3] [])
    refine ⟨(sl_ c o),?_⟩
    refine hO 11 (oo r r (aRowB b [] ([]:List BA) (bs70_0_a) r r (by decide) y) ?_)
    rintro _ ch ⟨ci,rfl,b⟩
    have c:=(b.ad [] [])
    have o:=(b.ad [4] [])
    refine ⟨(sl_ c o),?_⟩
    refine hO 18 (oo r r (aAppB b 0 0 r r u70_ ti9 r (by decide) (by decide) (Nat.le_refl _) r r (b.ysP 7 7 r r K L) Q) ?_)
    rintro _ w9 ⟨B,C,J,rfl,b⟩
    have c:=(b.ad [] [])
    have o:=(b.ad [4] [])
    refine ⟨(sl_ c o),?_⟩
    refine hO 26 (oo r r (aAppB b 1 1 r r u70_ ti9 r (by decide) (by decide) (Nat.le_refl _) r r (b.ysP 8 8 r r M N) I) ?_)
    rintro _ U ⟨p,t,D,rfl,b⟩
    have c:=(b.ad [] [])
    have o:=(b.ad [4] [])
    refine ⟨(sl_ c o),?_⟩
    refine pL 27 r (xn r) c o (pL 28 r (f135_4 r) c o ?_)
    refine hO 29 (os r r (tb b 4 [Z x F A] r ti70 r r r r r (show _=#[Pt h,V a.f,V a.funcs,Z j a.params m,Z x F A,Z u a.points v,Z d a.arrays e,V a.count,V a.left] from r)) ?_)
    intro cj b
    try dsimp only [List.set] at b
    have c:=(b.ad [] [])
    refine ⟨(sy 29 c),?_⟩
    refine tP 30 r (fun _=>xn r) (sy 29 c) (tP 31 r (fun _=>f135_5 r) (sy 29 c) ?_)
    refine hO 32 (os r r (tb b 4 [Z B H C] r ti70 r r r r r (show _=#[Pt h,V a.f,V a.funcs,Z j a.params m,Z x F A,Z B H C,Z d a.arrays e,V a.count,V a.left] from r)) ?_)
    intro ck b
    try dsimp only [List.set] at b
    have c:=(b.ad [] [])
    refine ⟨(sy 29 c),?_⟩
    refine tP 33 r (fun _=>xn r) (sy 29 c) (tP 34 r (fun _=>f135_6 r) (sy 29 c) ?_)
    refine hO 35 (os r r (tb b 4 [Z p E t] r ti70 r r r r r (show _=#[Pt h,V a.f,V a.funcs,Z j a.params m,Z x F A,Z B H C,Z p E t,V a.count,V a.left] from r)) ?_)
    intro cm b
    try dsimp only [List.set] at b
    have c:=(b.ad [] [])
    refine ⟨(sy 29 c),?_⟩
    refine hD ?_
    exact hJd _ _ ⟨x,A,B,C,p,t,S,J,D,⟨r,y⟩,(b.ad [3,4,5,2,0,1] [3,4,5,1,2,0])⟩
   refine oo r r (aRowB b [] ([]:List BA) (bs70_0_a) r r (by decide) y) ?_
   rintro _ cn ⟨co,rfl,b⟩
   have c:=(b.ad [] [])
   have o:=(b.ad [4] [])
   refine ⟨(sl_ c o),?_⟩
   refine hO 10 (oo r r (aAppB b 2 2 r r u70_ ti9 r (by decide) (by decide) (Nat.le_refl _) r r (b.ysP 6 6 r r W X) a4) ?_)
   rintro _ w6 ⟨x,A,S,rfl,b⟩
   have c:=(b.ad [] [])
   have o:=(b.ad [4] [])
   refine ⟨(sl_ c o),?_⟩
   refine hO 18 (oo r r (aAppB b 0 0 r r u70_ ti9 r (by decide) (by decide) (Nat.le_refl _) r r (b.ysP 7 7 r r K L) Q) ?_)
   rintro _ w9 ⟨B,C,J,rfl,b⟩
   have c:=(b.ad [] [])
   have o:=(b.ad [4] [])
   refine ⟨(sl_ c o),?_⟩
   refine hO 26 (oo r r (aAppB b 1 1 r r u70_ ti9 r (by decide) (by decide) (Nat.le_refl _) r r (b.ysP 8 8 r r M N) I) ?_)
   rintro _ U ⟨p,t,D,rfl,b⟩
   have c:=(b.ad [] [])
   have o:=(b.ad [4] [])
   refine ⟨(sl_ c o),?_⟩
   refine pL 27 r (xn r) c o (pL 28 r (f135_4 r) c o ?_)
   refine hO 29 (os r r (tb b 4 [Z x F A] r ti70 r r r r r (show _=#[Pt h,V a.f,V a.funcs,Z j a.params m,Z x F A,Z u a.points v,Z d a.arrays e,V a.count,V a.left] from r)) ?_)
   intro cp b
   try dsimp only [List.set] at b
   have c:=(b.ad [] [])
   refine ⟨(sy 29 c),?_⟩
   refine tP 30 r (fun _=>xn r) (sy 29 c) (tP 31 r (fun _=>f135_5 r) (sy 29 c) ?_)
   refine hO 32 (os r r (tb b 4 [Z B H C] r ti70 r r r r r (show _=#[Pt h,V a.f,V a.funcs,Z j a.params m,Z x F A,Z B H C,Z d a.arrays e,V a.count,V a.left] from r)) ?_)
   intro cq b
   try dsimp only [List.set] at b
   have c:=(b.ad [] [])
   refine ⟨(sy 29 c),?_⟩
   refine tP 33 r (fun _=>xn r) (sy 29 c) (tP 34 r (fun _=>f135_6 r) (sy 29 c) ?_)
   refine hO 35 (os r r (tb b 4 [Z p E t] r ti70 r r r r r (show _=#[Pt h,V a.f,V a.funcs,Z j a.params m,Z x F A,Z B H C,Z p E t,V a.count,V a.left] from r)) ?_)
   intro cr b
   try dsimp only [List.set] at b
   have c:=(b.ad [] [])
   refine ⟨(sy 29 c),?_⟩
   refine hD ?_
   exact hJd _ _ ⟨x,A,B,C,p,t,S,J,D,⟨r,y⟩,(b.ad [3,4,5,2,0,1] [3,4,5,1,2,0])⟩
  ·refine oo r r (aRowB b [] ([]:List BA) (bs70_0_a) r r (by decide) y) ?_
   rintro _ ct ⟨cu,rfl,b⟩
   have c:=(b.ad [] [])
   have o:=(b.ad [2] [])
   refine ⟨(sl_ c o),?_⟩
   refine hList' 3 [19] (by kernel_rfl) (om_cons' ?_ (om_cons' ?_ om_nil'))
   ·refine oo r r (aRowB b [] ([]:List BA) (bs70_0_a) r r (by decide) y) ?_
    rintro _ cv ⟨cw,rfl,b⟩
    have c:=(b.ad [] [])
    have o:=(b.ad [3] [])
    refine ⟨(sl_ c o),?_⟩
    refine hList' 10 [19] (by kernel_rfl) (om_cons' ?_ (om_cons' ?_ om_nil'))
    ·refine oo r r (aAppB b 0 0 r r u70_ ti9 r (by decide) (by decide) (Nat.le_refl _) r r (b.ysP 5 5 r r W X) a4) ?_
     rintro _ w6 ⟨x,A,S,rfl,b⟩
     have c:=(b.ad [] [])
     have o:=(b.ad [3] [])
     refine ⟨(sl_ c o),?_⟩
     refine hList' 18 [19] (by kernel_rfl) (om_cons' ?_ (om_cons' ?_ om_nil'))
     ·refine oo r r (aAppB b 1 1 r r u70_ ti9 r (by decide) (by decide) (Nat.le_refl _) r r (b.ysP 6 6 r r K L) Q) ?_
      rintro _ w9 ⟨B,C,J,rfl,b⟩
      have c:=(b.ad [] [])
      have o:=(b.ad [3] [])
      refine ⟨(sl_ c o),?_⟩
      refine hO 19 (oo r r (aRowB b [] ([]:List BA) (bs70_0_a) r r (by decide) y) ?_)
      rintro _ cx ⟨cy,rfl,b⟩
      have c:=(b.ad [] [])
      have o:=(b.ad [4] [])
      refine ⟨(sl_ c o),?_⟩
      refine hO 26 (oo r r (aAppB b 0 0 r r u70_ ti9 r (by decide) (by decide) (Nat.le_refl _) r r (b.ysP 8 8 r r M N) I) ?_)
      rintro _ U ⟨p,t,D,rfl,b⟩
      have c:=(b.ad [] [])
      have o:=(b.ad [4] [])
      refine ⟨(sl_ c o),?_⟩
      refine pL 27 r (xn r) c o (pL 28 r (f135_4 r) c o ?_)
      refine hO 29 (os r r (tb b 4 [Z x F A] r ti70 r r r r r (show _=#[Pt h,V a.f,V a.funcs,Z j a.params m,Z x F A,Z u a.points v,Z d a.arrays e,V a.count,V a.left] from r)) ?_)
      intro cz b
      try dsimp only [List.set] at b
      have c:=(b.ad [] [])
      refine ⟨(sy 29 c),?_⟩
      refine tP 30 r (fun _=>xn r) (sy 29 c) (tP 31 r (fun _=>f135_5 r) (sy 29 c) ?_)
      refine hO 32 (os r r (tb b 4 [Z B H C] r ti70 r r r r r (show _=#[Pt h,V a.f,V a.funcs,Z j a.params m,Z x F A,Z B H C,Z d a.arrays e,V a.count,V a.left] from r)) ?_)
      intro cA b
      try dsimp only [List.set] at b
      have c:=(b.ad [] [])
      refine ⟨(sy 29 c),?_⟩
      refine tP 33 r (fun _=>xn r) (sy 29 c) (tP 34 r (fun _=>f135_6 r) (sy 29 c) ?_)
      refine hO 35 (os r r (tb b 4 [Z p E t] r ti70 r r r r r (show _=#[Pt h,V a.f,V a.funcs,Z j a.params m,Z x F A,Z B H C,Z p E t,V a.count,V a.left] from r)) ?_)
      intro cB b
      try dsimp only [List.set] at b
      have c:=(b.ad [] [])
      refine ⟨(sy 29 c),?_⟩
      refine hD ?_
      exact hJd _ _ ⟨x,A,B,C,p,t,S,J,D,⟨r,y⟩,(b.ad [3,4,5,1,2,0] [3,4,5,0,1,2])⟩
     refine oo r r (aRowB b [] ([]:List BA) (bs70_0_a) r r (by decide) y) ?_
     rintro _ cC ⟨cD,rfl,b⟩
     have c:=(b.ad [] [])
     have o:=(b.ad [4] [])
     refine ⟨(sl_ c o),?_⟩
     refine hO 18 (oo r r (aAppB b 2 2 r r u70_ ti9 r (by decide) (by decide) (Nat.le_refl _) r r (b.ysP 7 7 r r K L) Q) ?_)
     rintro _ w9 ⟨B,C,J,rfl,b⟩
     have c:=(b.ad [] [])
     have o:=(b.ad [4] [])
     refine ⟨(sl_ c o),?_⟩
     refine hO 26 (oo r r (aAppB b 0 0 r r u70_ ti9 r (by decide) (by decide) (Nat.le_refl _) r r (b.ysP 8 8 r r M N) I) ?_)
     rintro _ U ⟨p,t,D,rfl,b⟩
     have c:=(b.ad [] [])
     have o:=(b.ad [4] [])
     refine ⟨(sl_ c o),?_⟩
     refine pL 27 r (xn r) c o (pL 28 r (f135_4 r) c o ?_)
     refine hO 29 (os r r (tb b 4 [Z x F A] r ti70 r r r r r (show _=#[Pt h,V a.f,V a.funcs,Z j a.params m,Z x F A,Z u a.points v,Z d a.arrays e,V a.count,V a.left] from r)) ?_)
     intro cE b
     try dsimp only [List.set] at b
     have c:=(b.ad [] [])
     refine ⟨(sy 29 c),?_⟩
     refine tP 30 r (fun _=>xn r) (sy 29 c) (tP 31 r (fun _=>f135_5 r) (sy 29 c) ?_)
     refine hO 32 (os r r (tb b 4 [Z B H C] r ti70 r r r r r (show _=#[Pt h,V a.f,V a.funcs,Z j a.params m,Z x F A,Z B H C,Z d a.arrays e,V a.count,V a.left] from r)) ?_)
     intro cF b
     try dsimp only [List.set] at b
     have c:=(b.ad [] [])
     refine ⟨(sy 29 c),?_⟩
     refine tP 33 r (fun _=>xn r) (sy 29 c) (tP 34 r (fun _=>f135_6 r) (sy 29 c) ?_)
     refine hO 35 (os r r (tb b 4 [Z p E t] r ti70 r r r r r (show _=#[Pt h,V a.f,V a.funcs,Z j a.params m,Z x F A,Z B H C,Z p E t,V a.count,V a.left] from r)) ?_)
     intro cG b
     try dsimp only [List.set] at b
     have c:=(b.ad [] [])
     refine ⟨(sy 29 c),?_⟩
     refine hD ?_
     exact hJd _ _ ⟨x,A,B,C,p,t,S,J,D,⟨r,y⟩,(b.ad [3,4,5,1,2,0] [3,4,5,0,1,2])⟩
    refine oo r r (aRowB b [] ([]:List BA) (bs70_0_a) r r (by decide) y) ?_
    rintro _ cH ⟨cI,rfl,b⟩
    have c:=(b.ad [] [])
    have o:=(b.ad [4] [])
    refine ⟨(sl_ c o),?_⟩
    refine hO 10 (oo r r (aAppB b 1 1 r r u70_ ti9 r (by decide) (by decide) (Nat.le_refl _) r r (b.ysP 6 6 r r W X) a4) ?_)
    rintro _ w6 ⟨x,A,S,rfl,b⟩
    have c:=(b.ad [] [])
    have o:=(b.ad [4] [])
    refine ⟨(sl_ c o),?_⟩
    refine hO 18 (oo r r (aAppB b 2 2 r r u70_ ti9 r (by decide) (by decide) (Nat.le_refl _) r r (b.ysP 7 7 r r K L) Q) ?_)
    rintro _ w9 ⟨B,C,J,rfl,b⟩
    have c:=(b.ad [] [])
    have o:=(b.ad [4] [])
    refine ⟨(sl_ c o),?_⟩
    refine hO 26 (oo r r (aAppB b 0 0 r r u70_ ti9 r (by decide) (by decide) (Nat.le_refl _) r r (b.ysP 8 8 r r M N) I) ?_)
    rintro _ U ⟨p,t,D,rfl,b⟩
    have c:=(b.ad [] [])
    have o:=(b.ad [4] [])
    refine ⟨(sl_ c o),?_⟩
    refine pL 27 r (xn r) c o (pL 28 r (f135_4 r) c o ?_)
    refine hO 29 (os r r (tb b 4 [Z x F A] r ti70 r r r r r (show _=#[Pt h,V a.f,V a.funcs,Z j a.params m,Z x F A,Z u a.points v,Z d a.arrays e,V a.count,V a.left] from r)) ?_)
    intro cJ b
    try dsimp only [List.set] at b
    have c:=(b.ad [] [])
    refine ⟨(sy 29 c),?_⟩
    refine tP 30 r (fun _=>xn r) (sy 29 c) (tP 31 r (fun _=>f135_5 r) (sy 29 c) ?_)
    refine hO 32 (os r r (tb b 4 [Z B H C] r ti70 r r r r r (show _=#[Pt h,V a.f,V a.funcs,Z j a.params m,Z x F A,Z B H C,Z d a.arrays e,V a.count,V a.left] from r)) ?_)
    intro cK b
    try dsimp only [List.set] at b
    have c:=(b.ad [] [])
    refine ⟨(sy 29 c),?_⟩
    refine tP 33 r (fun _=>xn r) (sy 29 c) (tP 34 r (fun _=>f135_6 r) (sy 29 c) ?_)
    refine hO 35 (os r r (tb b 4 [Z p E t] r ti70 r r r r r (show _=#[Pt h,V a.f,V a.funcs,Z j a.params m,Z x F A,Z B H C,Z p E t,V a.count,V a.left] from r)) ?_)
    intro cL b
    try dsimp only [List.set] at b
    have c:=(b.ad [] [])
    refine ⟨(sy 29 c),?_⟩
    refine hD ?_
    exact hJd _ _ ⟨x,A,B,C,p,t,S,J,D,⟨r,y⟩,(b.ad [3,4,5,1,2,0] [3,4,5,0,1,2])⟩
   refine oo r r (aRowB b [] ([]:List BA) (bs70_0_a) r r (by decide) y) ?_
   rintro _ cM ⟨cN,rfl,b⟩
   have c:=(b.ad [] [])
   have o:=(b.ad [3] [])
   refine ⟨(sl_ c o),?_⟩
   refine hO 3 (oo r r (aRowB b [] ([]:List BA) (bs70_0_a) r r (by decide) y) ?_)
   rintro _ cO ⟨cP,rfl,b⟩
   have c:=(b.ad [] [])
   have o:=(b.ad [4] [])
   refine ⟨(sl_ c o),?_⟩
   refine hO 10 (oo r r (aAppB b 0 0 r r u70_ ti9 r (by decide) (by decide) (Nat.le_refl _) r r (b.ysP 6 6 r r W X) a4) ?_)
   rintro _ w6 ⟨x,A,S,rfl,b⟩
   have c:=(b.ad [] [])
   have o:=(b.ad [4] [])
   refine ⟨(sl_ c o),?_⟩
   refine hO 18 (oo r r (aAppB b 2 2 r r u70_ ti9 r (by decide) (by decide) (Nat.le_refl _) r r (b.ysP 7 7 r r K L) Q) ?_)
   rintro _ w9 ⟨B,C,J,rfl,b⟩
   have c:=(b.ad [] [])
   have o:=(b.ad [4] [])
   refine ⟨(sl_ c o),?_⟩
   refine hO 26 (oo r r (aAppB b 1 1 r r u70_ ti9 r (by decide) (by decide) (Nat.le_refl _) r r (b.ysP 8 8 r r M N) I) ?_)
   rintro _ U ⟨p,t,D,rfl,b⟩
   have c:=(b.ad [] [])
   have o:=(b.ad [4] [])
   refine ⟨(sl_ c o),?_⟩
   refine pL 27 r (xn r) c o (pL 28 r (f135_4 r) c o ?_)
   refine hO 29 (os r r (tb b 4 [Z x F A] r ti70 r r r r r (show _=#[Pt h,V a.f,V a.funcs,Z j a.params m,Z x F A,Z u a.points v,Z d a.arrays e,V a.count,V a.left] from r)) ?_)
   intro aV b
   try dsimp only [List.set] at b
   have c:=(b.ad [] [])
   refine ⟨(sy 29 c),?_⟩
   refine tP 30 r (fun _=>xn r) (sy 29 c) (tP 31 r (fun _=>f135_5 r) (sy 29 c) ?_)
   refine hO 32 (os r r (tb b 4 [Z B H C] r ti70 r r r r r (show _=#[Pt h,V a.f,V a.funcs,Z j a.params m,Z x F A,Z B H C,Z d a.arrays e,V a.count,V a.left] from r)) ?_)
   intro aW b
   try dsimp only [List.set] at b
   have c:=(b.ad [] [])
   refine ⟨(sy 29 c),?_⟩
   refine tP 33 r (fun _=>xn r) (sy 29 c) (tP 34 r (fun _=>f135_6 r) (sy 29 c) ?_)
   refine hO 35 (os r r (tb b 4 [Z p E t] r ti70 r r r r r (show _=#[Pt h,V a.f,V a.funcs,Z j a.params m,Z x F A,Z B H C,Z p E t,V a.count,V a.left] from r)) ?_)
   intro aX b
   try dsimp only [List.set] at b
   have c:=(b.ad [] [])
   refine ⟨(sy 29 c),?_⟩
   refine hD ?_
   exact hJd _ _ ⟨x,A,B,C,p,t,S,J,D,⟨r,y⟩,(b.ad [3,4,5,0,2,1] [3,4,5,1,0,2])⟩
  refine oo r r (aRowB b [] ([]:List BA) (bs70_0_a) r r (by decide) y) ?_
  rintro _ aY ⟨aZ,rfl,b⟩
  have c:=(b.ad [] [])
  have o:=(b.ad [2] [])
  refine ⟨(sl_ c o),?_⟩
  refine hList' 3 [11] (by kernel_rfl) (om_cons' ?_ (om_cons' ?_ om_nil'))
  ·refine oo r r (aRowB b [] ([]:List BA) (bs70_0_a) r r (by decide) y) ?_
   rintro _ b0 ⟨b1,rfl,b⟩
   have c:=(b.ad [] [])
   have o:=(b.ad [3] [])
   refine ⟨(sl_ c o),?_⟩
   refine hList' 10 [11] (by kernel_rfl) (om_cons' ?_ (om_cons' ?_ om_nil'))
   ·refine oo r r (aAppB b 0 0 r r u70_ ti9 r (by decide) (by decide) (Nat.le_refl _) r r (b.ysP 5 5 r r W X) a4) ?_
    rintro _ w6 ⟨x,A,S,rfl,b⟩
    have c:=(b.ad [] [])
    have o:=(b.ad [3] [])
    refine ⟨(sl_ c o),?_⟩
    refine hO 11 (oo r r (aRowB b [] ([]:List BA) (bs70_0_a) r r (by decide) y) ?_)
    rintro _ b2 ⟨b3,rfl,b⟩
    have c:=(b.ad [] [])
    have o:=(b.ad [4] [])
    refine ⟨(sl_ c o),?_⟩
    refine hO 18 (oo r r (aAppB b 0 0 r r u70_ ti9 r (by decide) (by decide) (Nat.le_refl _) r r (b.ysP 7 7 r r K L) Q) ?_)
    rintro _ w9 ⟨B,C,J,rfl,b⟩
    have c:=(b.ad [] [])
    have o:=(b.ad [4] [])
    refine ⟨(sl_ c o),?_⟩
    refine hO 26 (oo r r (aAppB b 2 2 r r u70_ ti9 r (by decide) (by decide) (Nat.le_refl _) r r (b.ysP 8 8 r r M N) I) ?_)
    rintro _ U ⟨p,t,D,rfl,b⟩
    have c:=(b.ad [] [])
    have o:=(b.ad [4] [])
    refine ⟨(sl_ c o),?_⟩
    refine pL 27 r (xn r) c o (pL 28 r (f135_4 r) c o ?_)
    refine hO 29 (os r r (tb b 4 [Z x F A] r ti70 r r r r r (show _=#[Pt h,V a.f,V a.funcs,Z j a.params m,Z x F A,Z u a.points v,Z d a.arrays e,V a.count,V a.left] from r)) ?_)
    intro b4 b
    try dsimp only [List.set] at b
    have c:=(b.ad [] [])
    refine ⟨(sy 29 c),?_⟩
    refine tP 30 r (fun _=>xn r) (sy 29 c) (tP 31 r (fun _=>f135_5 r) (sy 29 c) ?_)
    refine hO 32 (os r r (tb b 4 [Z B H C] r ti70 r r r r r (show _=#[Pt h,V a.f,V a.funcs,Z j a.params m,Z x F A,Z B H C,Z d a.arrays e,V a.count,V a.left] from r)) ?_)
    intro b5 b
    try dsimp only [List.set] at b
    have c:=(b.ad [] [])
    refine ⟨(sy 29 c),?_⟩
    refine tP 33 r (fun _=>xn r) (sy 29 c) (tP 34 r (fun _=>f135_6 r) (sy 29 c) ?_)
    refine hO 35 (os r r (tb b 4 [Z p E t] r ti70 r r r r r (show _=#[Pt h,V a.f,V a.funcs,Z j a.params m,Z x F A,Z B H C,Z p E t,V a.count,V a.left] from r)) ?_)
    intro b6 b
    try dsimp only [List.set] at b
    have c:=(b.ad [] [])
    refine ⟨(sy 29 c),?_⟩
    refine hD ?_
    exact hJd _ _ ⟨x,A,B,C,p,t,S,J,D,⟨r,y⟩,(b.ad [3,4,5,1,0,2] [3,4,5,2,1,0])⟩
   refine oo r r (aRowB b [] ([]:List BA) (bs70_0_a) r r (by decide) y) ?_
   rintro _ b7 ⟨b8,rfl,b⟩
   have c:=(b.ad [] [])
   have o:=(b.ad [4] [])
   refine ⟨(sl_ c o),?_⟩
   refine hO 10 (oo r r (aAppB b 1 1 r r u70_ ti9 r (by decide) (by decide) (Nat.le_refl _) r r (b.ysP 6 6 r r W X) a4) ?_)
   rintro _ w6 ⟨x,A,S,rfl,b⟩
   have c:=(b.ad [] [])
   have o:=(b.ad [4] [])
   refine ⟨(sl_ c o),?_⟩
   refine hO 18 (oo r r (aAppB b 0 0 r r u70_ ti9 r (by decide) (by decide) (Nat.le_refl _) r r (b.ysP 7 7 r r K L) Q) ?_)
   rintro _ w9 ⟨B,C,J,rfl,b⟩
   have c:=(b.ad [] [])
   have o:=(b.ad [4] [])
   refine ⟨(sl_ c o),?_⟩
   refine hO 26 (oo r r (aAppB b 2 2 r r u70_ ti9 r (by decide) (by decide) (Nat.le_refl _) r r (b.ysP 8 8 r r M N) I) ?_)
   rintro _ U ⟨p,t,D,rfl,b⟩
   have c:=(b.ad [] [])
   have o:=(b.ad [4] [])
   refine ⟨(sl_ c o),?_⟩
   refine pL 27 r (xn r) c o (pL 28 r (f135_4 r) c o ?_)
   refine hO 29 (os r r (tb b 4 [Z x F A] r ti70 r r r r r (show _=#[Pt h,V a.f,V a.funcs,Z j a.params m,Z x F A,Z u a.points v,Z d a.arrays e,V a.count,V a.left] from r)) ?_)
   intro b9 b
   try dsimp only [List.set] at b
   have c:=(b.ad [] [])
   refine ⟨(sy 29 c),?_⟩
   refine tP 30 r (fun _=>xn r) (sy 29 c) (tP 31 r (fun _=>f135_5 r) (sy 29 c) ?_)
   refine hO 32 (os r r (tb b 4 [Z B H C] r ti70 r r r r r (show _=#[Pt h,V a.f,V a.funcs,Z j a.params m,Z x F A,Z B H C,Z d a.arrays e,V a.count,V a.left] from r)) ?_)
   intro ba b
   try dsimp only [List.set] at b
   have c:=(b.ad [] [])
   refine ⟨(sy 29 c),?_⟩
   refine tP 33 r (fun _=>xn r) (sy 29 c) (tP 34 r (fun _=>f135_6 r) (sy 29 c) ?_)
   refine hO 35 (os r r (tb b 4 [Z p E t] r ti70 r r r r r (show _=#[Pt h,V a.f,V a.funcs,Z j a.params m,Z x F A,Z B H C,Z p E t,V a.count,V a.left] from r)) ?_)
   intro bb b
   try dsimp only [List.set] at b
   have c:=(b.ad [] [])
   refine ⟨(sy 29 c),?_⟩
   refine hD ?_
   exact hJd _ _ ⟨x,A,B,C,p,t,S,J,D,⟨r,y⟩,(b.ad [3,4,5,1,0,2] [3,4,5,2,1,0])⟩
  refine oo r r (aRowB b [] ([]:List BA) (bs70_0_a) r r (by decide) y) ?_
  rintro _ bc ⟨bd,rfl,b⟩
  have c:=(b.ad [] [])
  have o:=(b.ad [3] [])
  refine ⟨(sl_ c o),?_⟩
  refine hO 3 (oo r r (aRowB b [] ([]:List BA) (bs70_0_a) r r (by decide) y) ?_)
  rintro _ bg ⟨bh,rfl,b⟩
  have c:=(b.ad [] [])
  have o:=(b.ad [4] [])
  refine ⟨(sl_ c o),?_⟩
  refine hO 10 (oo r r (aAppB b 0 0 r r u70_ ti9 r (by decide) (by decide) (Nat.le_refl _) r r (b.ysP 6 6 r r W X) a4) ?_)
  rintro _ w6 ⟨x,A,S,rfl,b⟩
  have c:=(b.ad [] [])
  have o:=(b.ad [4] [])
  refine ⟨(sl_ c o),?_⟩
  refine hO 18 (oo r r (aAppB b 1 1 r r u70_ ti9 r (by decide) (by decide) (Nat.le_refl _) r r (b.ysP 7 7 r r K L) Q) ?_)
  rintro _ w9 ⟨B,C,J,rfl,b⟩
  have c:=(b.ad [] [])
  have o:=(b.ad [4] [])
  refine ⟨(sl_ c o),?_⟩
  refine hO 26 (oo r r (aAppB b 2 2 r r u70_ ti9 r (by decide) (by decide) (Nat.le_refl _) r r (b.ysP 8 8 r r M N) I) ?_)
  rintro _ U ⟨p,t,D,rfl,b⟩
  have c:=(b.ad [] [])
  have o:=(b.ad [4] [])
  refine ⟨(sl_ c o),?_⟩
  refine pL 27 r (xn r) c o (pL 28 r (f135_4 r) c o ?_)
  refine hO 29 (os r r (tb b 4 [Z x F A] r ti70 r r r r r (show _=#[Pt h,V a.f,V a.funcs,Z j a.params m,Z x F A,Z u a.points v,Z d a.arrays e,V a.count,V a.left] from r)) ?_)
  intro bi b
  try dsimp only [List.set] at b
  have c:=(b.ad [] [])
  refine ⟨(sy 29 c),?_⟩
  refine tP 30 r (fun _=>xn r) (sy 29 c) (tP 31 r (fun _=>f135_5 r) (sy 29 c) ?_)
  refine hO 32 (os r r (tb b 4 [Z B H C] r ti70 r r r r r (show _=#[Pt h,V a.f,V a.funcs,Z j a.params m,Z x F A,Z B H C,Z d a.arrays e,V a.count,V a.left] from r)) ?_)
  intro bj b
  try dsimp only [List.set] at b
  have c:=(b.ad [] [])
  refine ⟨(sy 29 c),?_⟩
  refine tP 33 r (fun _=>xn r) (sy 29 c) (tP 34 r (fun _=>f135_6 r) (sy 29 c) ?_)
  refine hO 35 (os r r (tb b 4 [Z p E t] r ti70 r r r r r (show _=#[Pt h,V a.f,V a.funcs,Z j a.params m,Z x F A,Z B H C,Z p E t,V a.count,V a.left] from r)) ?_)
  intro bl b
  try dsimp only [List.set] at b
  have c:=(b.ad [] [])
  refine ⟨(sy 29 c),?_⟩
  refine hD ?_
  exact hJd _ _ ⟨x,A,B,C,p,t,S,J,D,⟨r,y⟩,(b.ad [3,4,5,0,1,2] [3,4,5,2,0,1])⟩
 clear b
 rintro f w ⟨x,A,B,C,p,t,S,J,D,hf,b⟩
 obtain ⟨cT,rfl⟩:=has_updL _ _ hf
 clear hf
 refine q (g (s (xMvS r) (s (xAsS r) (n (wRt ?_)))))
 replace b:=b.reb 3 af r a8
 try dsimp only [List.set] at b
 replace b:=b.reb 4 ai r a9
 try dsimp only [List.set] at b
 replace b:=b.reb 5 al r aa
 try dsimp only [List.set] at b
 obtain rfl:=sm hM
 refine resV1 r (rdT r) ?_
 exact pok (pok (⟨a1,a2,a3,x,A,S,B,C,J,p,t,D,r,(b.dp [0,1,2,4,5,3])⟩))
theorem wk_kit_loop (fu:Nat)(r_kit_stmts:T_kit_stmts) (r_kit_body:T_kit_body) (r_kit_loop:T_kit_loop) (H_kit_stmts:Ct_kit_stmts r_kit_stmts) (H_kit_body:Ct_kit_body r_kit_body) (H_kit_loop:Ct_kit_loop r_kit_loop):Ct_kit_loop (F_kit_loop fu r_kit_stmts r_kit_body r_kit_loop):=by
 intro w0 c5 x0 aq x1 an B C D U W ag ah ar ai E F Y aj H I a0 ak R hP X aa ab x
 unfold F_kit_loop at x
 have b:=hP.bx
 clear hP
 generalize hG:Gof _=G at b ⊢
 refine cf Try.func85 r ?_
 refine wCut [(0,Pt an),(1,V x1)] ⟨r,r,y⟩ fun c6=>?_
 refine q (g (s (xAsS r) (n (q (g (s (mp r) ?_))))))
 obtain ⟨⟨v,o⟩,h1,x⟩:=bs x
 replace x:=pi x
 have hc:=(sp_kit_fresh fu) (b.pr [0,1,2,3,4] [] [0,1,2,3,4] r) (b.le X) (b.le aa) (b.le ab) h1
 refine sc (ec cal86 r) hc ?_
 rintro _ w1 ⟨rfl,z⟩
 replace b:=b.cl [0,1,2,3,4] [] r z r
 try dsimp only [pick,nth,ca,na] at b
 refine s (xAsT r) (n (q (g (s (mp r) (s (mp r) (s (xn r) (s (f135_4 r) (s (l70 r (b.bk 0 r) r) (s (xMvT r) (sTo (aRowB b [[T v]] ([v]:List BA) (bs70_1_a r) r r (by decide) ⟨r,y⟩) ?_))))))))))
 rintro _ w2 ⟨b2,rfl,b⟩
 obtain ⟨r3,aP,x⟩:=bs x
 refine sTo (aAppB b 3 3 r r u70_ ti9 r (by decide) (by decide) X r r (b.ysO 0 0 r r) aP) ?_
 rintro _ w3 ⟨A3,C3,Q3,rfl,b⟩
 refine s (xn r) (s (f135_4 r) (sTs (tb b 1 [Z A3 r3 C3] r ti70 r r r r r (show _=#[Pt B,V o.f,V o.funcs,Z U o.params W,Z A3 r3 C3,Z E o.points F,Z H o.arrays I,V o.count,V o.left] from r)) ?_))
 intro w5 b
 try dsimp only [List.set] at b
 refine n (q (g (s (xMvT r) (s (bd111_0_3 r r) (sTo (aNewB b (mAlloc ti111)) ?_)))))
 rintro _ w6 ⟨b6,rfl,b⟩
 refine sTs (tb b 0 [V 1,V 0,V 0,T v,T be,V 0,V 0,sn,T be,V 0,sn,sn,sn] r ti111 r r r r r (show _=#[V 1,V 0,V 0,T v,T be,V 0,V 0,sn,T be,V 0,sn,sn,sn] from r)) ?_
 intro w7 b
 try dsimp only [List.set] at b
 refine n (q ?_)
 obtain ⟨c,h8,x⟩:=bs x
 obtain ⟨⟨bc,al⟩,h9,x⟩:=bs x
 replace x:=pi x
 obtain ⟨a,ao,x⟩:=bs x
 refine wJd (fun f w=>∃ (am:Nat)(A:Nat)(J:Nat),Has f [(0,Pt an),(1,V x1),(5,T v),(6,Pt b6),(7,Pt am)]∧Bx w0 w c5 G [.box b6 111 #[V 1,V 0,V 0,T v,T be,V 0,V 0,sn,T be,V 0,sn,sn,sn],.box an 135 #[Pt B,V o.f,V o.funcs,Z U o.params W,Z A3 r3 C3,Z E o.points F,Z H o.arrays I,V o.count,V o.left],.box B 132 #[Z C al.l D,V al.at_],O ai A3 C3 9 BA Q3,O aj E F 9 BA Y,O ak H I 9 BA a0,O w0.heap.size (ad A) 1 138 Ge [[V 14,V 0,V 0,T be,T be,.slice (ad J) ([c,a]:List Ge).length 2]],.box am 111 #[V 5,V 0,V 0,T be,T be,V 0,V 0,sn,T be,V 0,.slice (ad A) ([(⟨14,0,0,be,be,([c,a]:List Ge)⟩:Ge)]:List Ge).length 1,sn,sn]] [.l U W o.params,.els Q3 r3,.els Y o.points,.els a0 o.arrays,.els [[V 14,V 0,V 0,T be,T be,.slice (ad J) ([c,a]:List Ge).length 2]] ([(⟨14,0,0,be,be,([c,a]:List Ge)⟩:Ge)]:List Ge),.l C D al.l]) (fun Jd hJd=>?_) ?_
 ·refine wDr1 b [2] [] [] (by kernel_rfl) ?_
  replace b:=b.drew
  have h:=(b.ad [2] [])
  refine pF 0 r (xMvT r) h (pF 2 r (mp r) h (pF 3 r (xn r) h (pF 4 r (f135_0 r) h (uF 5 r (fun hS=>l130 r (hS.bk 0 r) r) h ?_))))
  refine hList' 1 [13] (by kernel_rfl) (om_cons' ?_ (om_cons' ?_ om_nil'))
  ·have hc:=(sp_kit_variable fu) (b.pr [] [0,1,2,3,4,5,6] [] r)  h8
   refine oc r r (ec cal59 r) hc ?_
   rintro _ w8 ⟨j,m,rfl,z⟩
   replace b:=b.cl [] [0,1,2,3,4,5,6] r z r
   try dsimp only [pick,nth,ca,na] at b
   have h:=(b.ad [2] [])
   refine ⟨(sF h),?_⟩
   refine hList' 6 [13] (by kernel_rfl) (om_cons' ?_ (om_cons' ?_ om_nil'))
   ·have hc:=(sp_kit_next fu) (b.pr [3] [0,1,2,4,5,6] [7] r)  h9
    refine oc r r (ec cal57 r) hc ?_
    rintro _ w9 ⟨rfl,z⟩
    replace b:=b.cl [3] [0,1,2,4,5,6] r z r
    try dsimp only [pick,nth,ca,na] at b
    have h:=(b.ad [3] [])
    refine ⟨(sF h),?_⟩
    refine pF 7 r (xAddW r r) h ?_
    refine hList' 8 [13] (by kernel_rfl) (om_cons' ?_ (om_cons' ?_ om_nil'))
    ·have hc:=(sp_kit_literal fu) (b.pr [] [0,1,2,3,4,5,6] [] r)  ao
     refine oc r r (ec cal108 r) hc ?_
     rintro _ au ⟨d,e,rfl,z⟩
     replace b:=b.cl [] [0,1,2,3,4,5,6] r z r
     try dsimp only [pick,nth,ca,na] at b
     have h:=(b.ad [3] [])
     refine ⟨(sF h),?_⟩
     refine hList' 9 [13] (by kernel_rfl) (om_cons' ?_ (om_cons' ?_ om_nil'))
     ·refine oo r r (aRowB b [[V c.Op,V c.Number,V c.Var,T c.Name,T c.Field,Z j c.Args m],[V a.Op,V a.Number,V a.Var,T a.Name,T a.Field,Z d a.Args e]] ([c,a]:List Ge) (bs109_2_a r r) r r (by decide) ⟨(GExpr.inn ⟨j,m,r,(b.dl 2 r)⟩),⟨(GExpr.inn ⟨d,e,r,(b.dl 0 r)⟩),y⟩⟩) ?_
      rintro _ bh ⟨J,rfl,b⟩
      have h:=(b.ad [4] [])
      refine ⟨(sF h),?_⟩
      refine pF 10 r (bd138_0_5 r r) h ?_
      refine hList' 11 [13] (by kernel_rfl) (om_cons' ?_ (om_cons' ?_ om_nil'))
      ·replace b:=b.frz 0 0 r r
       try dsimp only [List.eraseIdx] at b
       refine oo r r (aRowB b [[V 14,V 0,V 0,T be,T be,.slice (ad J) ([c,a]:List Ge).length 2]] ([(⟨14,0,0,be,be,([c,a]:List Ge)⟩:Ge)]:List Ge) (bs109_1_a r) r r (by decide) ⟨(GExpr.inn ⟨(ad J),2,r,(b.dl 0 r)⟩),y⟩) ?_
       rintro _ bi ⟨A,rfl,b⟩
       have h:=(b.ad [4] [])
       refine ⟨(sF h),?_⟩
       refine pF 12 r (bd111_0_10 r r) h ?_
       refine hO 13 (oo r r (aNewB b (mAlloc ti111)) ?_)
       rintro _ bj ⟨am,rfl,b⟩
       have h:=(b.ad [5] [])
       refine ⟨(sF h),?_⟩
       refine hO 14 (os r r (tb b 0 [V 5,V 0,V 0,T be,T be,V 0,V 0,sn,T be,V 0,.slice (ad A) ([(⟨14,0,0,be,be,([c,a]:List Ge)⟩:Ge)]:List Ge).length 1,sn,sn] r ti111 r r r r r (show _=#[V 5,V 0,V 0,T be,T be,V 0,V 0,sn,T be,V 0,.slice (ad A) ([(⟨14,0,0,be,be,([c,a]:List Ge)⟩:Ge)]:List Ge).length 1,sn,sn] from r)) ?_)
       intro bl b
       try dsimp only [List.set] at b
       have h:=(b.ad [5] [])
       refine ⟨(sF h),?_⟩
       refine hD ?_
       exact hJd _ _ ⟨am,A,J,⟨r,r,r,r,r,y⟩,(b.ad [3,5,2,6,7,8,1,0] [7,8,9,10,0,3])⟩
      refine oo r r (aNewB b (mAlloc ti111)) ?_
      rintro _ bm ⟨aR,rfl,b⟩
      have h:=(b.ad [5] [])
      refine ⟨(sF h),?_⟩
      replace b:=b.frz 1 0 r r
      try dsimp only [List.eraseIdx] at b
      refine hO 11 (oo r r (aRowB b [[V 14,V 0,V 0,T be,T be,.slice (ad J) ([c,a]:List Ge).length 2]] ([(⟨14,0,0,be,be,([c,a]:List Ge)⟩:Ge)]:List Ge) (bs109_1_a r) r r (by decide) ⟨(GExpr.inn ⟨(ad J),2,r,(b.dl 0 r)⟩),y⟩) ?_)
      rintro _ bn ⟨av,rfl,b⟩
      have h:=(b.ad [5] [])
      refine ⟨(sF h),?_⟩
      refine pF 12 r (bd111_0_10 r r) h ?_
      refine hO 14 (os r r (tb b 1 [V 5,V 0,V 0,T be,T be,V 0,V 0,sn,T be,V 0,.slice (ad av) ([(⟨14,0,0,be,be,([c,a]:List Ge)⟩:Ge)]:List Ge).length 1,sn,sn] r ti111 r r r r r (show _=#[V 5,V 0,V 0,T be,T be,V 0,V 0,sn,T be,V 0,.slice (ad av) ([(⟨14,0,0,be,be,([c,a]:List Ge)⟩:Ge)]:List Ge).length 1,sn,sn] from r)) ?_)
      intro bo b
      try dsimp only [List.set] at b
      have h:=(b.ad [5] [])
      refine ⟨(sF h),?_⟩
      refine hD ?_
      exact hJd _ _ ⟨aR,av,J,⟨r,r,r,r,r,y⟩,(b.ad [3,5,2,6,7,8,0,1] [7,8,9,10,0,3])⟩
     refine oo r r (aNewB b (mAlloc ti111)) ?_
     rintro _ bp ⟨aS,rfl,b⟩
     have h:=(b.ad [4] [])
     refine ⟨(sF h),?_⟩
     refine hO 9 (oo r r (aRowB b [[V c.Op,V c.Number,V c.Var,T c.Name,T c.Field,Z j c.Args m],[V a.Op,V a.Number,V a.Var,T a.Name,T a.Field,Z d a.Args e]] ([c,a]:List Ge) (bs109_2_a r r) r r (by decide) ⟨(GExpr.inn ⟨j,m,r,(b.dl 2 r)⟩),⟨(GExpr.inn ⟨d,e,r,(b.dl 0 r)⟩),y⟩⟩) ?_)
     rintro _ bq ⟨aw,rfl,b⟩
     have h:=(b.ad [5] [])
     refine ⟨(sF h),?_⟩
     refine pF 10 r (bd138_0_5 r r) h ?_
     replace b:=b.frz 0 0 r r
     try dsimp only [List.eraseIdx] at b
     refine hO 11 (oo r r (aRowB b [[V 14,V 0,V 0,T be,T be,.slice (ad aw) ([c,a]:List Ge).length 2]] ([(⟨14,0,0,be,be,([c,a]:List Ge)⟩:Ge)]:List Ge) (bs109_1_a r) r r (by decide) ⟨(GExpr.inn ⟨(ad aw),2,r,(b.dl 0 r)⟩),y⟩) ?_)
     rintro _ br ⟨ax,rfl,b⟩
     have h:=(b.ad [5] [])
     refine ⟨(sF h),?_⟩
     refine pF 12 r (bd111_0_10 r r) h ?_
     refine hO 14 (os r r (tb b 1 [V 5,V 0,V 0,T be,T be,V 0,V 0,sn,T be,V 0,.slice (ad ax) ([(⟨14,0,0,be,be,([c,a]:List Ge)⟩:Ge)]:List Ge).length 1,sn,sn] r ti111 r r r r r (show _=#[V 5,V 0,V 0,T be,T be,V 0,V 0,sn,T be,V 0,.slice (ad ax) ([(⟨14,0,0,be,be,([c,a]:List Ge)⟩:Ge)]:List Ge).length 1,sn,sn] from r)) ?_)
     intro bu b
     try dsimp only [List.set] at b
     have h:=(b.ad [5] [])
     refine ⟨(sF h),?_⟩
     refine hD ?_
     exact hJd _ _ ⟨aS,ax,aw,⟨r,r,r,r,r,y⟩,(b.ad [3,5,2,6,7,8,0,1] [7,8,9,10,0,3])⟩
    refine oo r r (aNewB b (mAlloc ti111)) ?_
    rintro _ bv ⟨aT,rfl,b⟩
    have h:=(b.ad [4] [])
    refine ⟨(sF h),?_⟩
    have hc:=(sp_kit_literal fu) (b.pr [] [0,1,2,3,4,5,6,7] [] r)  ao
    refine hO 8 (oc r r (ec cal108 r) hc ?_)
    rintro _ au ⟨d,e,rfl,z⟩
    replace b:=b.cl [] [0,1,2,3,4,5,6,7] r z r
    try dsimp only [pick,nth,ca,na] at b
    have h:=(b.ad [4] [])
    refine ⟨(sF h),?_⟩
    refine hO 9 (oo r r (aRowB b [[V c.Op,V c.Number,V c.Var,T c.Name,T c.Field,Z j c.Args m],[V a.Op,V a.Number,V a.Var,T a.Name,T a.Field,Z d a.Args e]] ([c,a]:List Ge) (bs109_2_a r r) r r (by decide) ⟨(GExpr.inn ⟨j,m,r,(b.dl 2 r)⟩),⟨(GExpr.inn ⟨d,e,r,(b.dl 0 r)⟩),y⟩⟩) ?_)
    rintro _ bw ⟨ay,rfl,b⟩
    have h:=(b.ad [5] [])
    refine ⟨(sF h),?_⟩
    refine pF 10 r (bd138_0_5 r r) h ?_
    replace b:=b.frz 0 0 r r
    try dsimp only [List.eraseIdx] at b
    refine hO 11 (oo r r (aRowB b [[V 14,V 0,V 0,T be,T be,.slice (ad ay) ([c,a]:List Ge).length 2]] ([(⟨14,0,0,be,be,([c,a]:List Ge)⟩:Ge)]:List Ge) (bs109_1_a r) r r (by decide) ⟨(GExpr.inn ⟨(ad ay),2,r,(b.dl 0 r)⟩),y⟩) ?_)
    rintro _ bz ⟨az,rfl,b⟩
    have h:=(b.ad [5] [])
    refine ⟨(sF h),?_⟩
    refine pF 12 r (bd111_0_10 r r) h ?_
    refine hO 14 (os r r (tb b 1 [V 5,V 0,V 0,T be,T be,V 0,V 0,sn,T be,V 0,.slice (ad az) ([(⟨14,0,0,be,be,([c,a]:List Ge)⟩:Ge)]:List Ge).length 1,sn,sn] r ti111 r r r r r (show _=#[V 5,V 0,V 0,T be,T be,V 0,V 0,sn,T be,V 0,.slice (ad az) ([(⟨14,0,0,be,be,([c,a]:List Ge)⟩:Ge)]:List Ge).length 1,sn,sn] from r)) ?_)
    intro bA b
    try dsimp only [List.set] at b
    have h:=(b.ad [5] [])
    refine ⟨(sF h),?_⟩
    refine hD ?_
    exact hJd _ _ ⟨aT,az,ay,⟨r,r,r,r,r,y⟩,(b.ad [3,5,2,6,7,8,0,1] [7,8,9,10,0,3])⟩
   refine oo r r (aNewB b (mAlloc ti111)) ?_
   rintro _ bB ⟨aU,rfl,b⟩
   have h:=(b.ad [3] [])
   refine ⟨(sF h),?_⟩
   have hc:=(sp_kit_next fu) (b.pr [4] [0,1,2,3,5,6,7] [7] r)  h9
   refine hO 6 (oc r r (ec cal57 r) hc ?_)
   rintro _ w9 ⟨rfl,z⟩
   replace b:=b.cl [4] [0,1,2,3,5,6,7] r z r
   try dsimp only [pick,nth,ca,na] at b
   have h:=(b.ad [4] [])
   refine ⟨(sF h),?_⟩
   refine pF 7 r (xAddW r r) h ?_
   have hc:=(sp_kit_literal fu) (b.pr [] [0,1,2,3,4,5,6,7] [] r)  ao
   refine hO 8 (oc r r (ec cal108 r) hc ?_)
   rintro _ au ⟨d,e,rfl,z⟩
   replace b:=b.cl [] [0,1,2,3,4,5,6,7] r z r
   try dsimp only [pick,nth,ca,na] at b
   have h:=(b.ad [4] [])
   refine ⟨(sF h),?_⟩
   refine hO 9 (oo r r (aRowB b [[V c.Op,V c.Number,V c.Var,T c.Name,T c.Field,Z j c.Args m],[V a.Op,V a.Number,V a.Var,T a.Name,T a.Field,Z d a.Args e]] ([c,a]:List Ge) (bs109_2_a r r) r r (by decide) ⟨(GExpr.inn ⟨j,m,r,(b.dl 2 r)⟩),⟨(GExpr.inn ⟨d,e,r,(b.dl 0 r)⟩),y⟩⟩) ?_)
   rintro _ bC ⟨aA,rfl,b⟩
   have h:=(b.ad [5] [])
   refine ⟨(sF h),?_⟩
   refine pF 10 r (bd138_0_5 r r) h ?_
   replace b:=b.frz 0 0 r r
   try dsimp only [List.eraseIdx] at b
   refine hO 11 (oo r r (aRowB b [[V 14,V 0,V 0,T be,T be,.slice (ad aA) ([c,a]:List Ge).length 2]] ([(⟨14,0,0,be,be,([c,a]:List Ge)⟩:Ge)]:List Ge) (bs109_1_a r) r r (by decide) ⟨(GExpr.inn ⟨(ad aA),2,r,(b.dl 0 r)⟩),y⟩) ?_)
   rintro _ bD ⟨aB,rfl,b⟩
   have h:=(b.ad [5] [])
   refine ⟨(sF h),?_⟩
   refine pF 12 r (bd111_0_10 r r) h ?_
   refine hO 14 (os r r (tb b 2 [V 5,V 0,V 0,T be,T be,V 0,V 0,sn,T be,V 0,.slice (ad aB) ([(⟨14,0,0,be,be,([c,a]:List Ge)⟩:Ge)]:List Ge).length 1,sn,sn] r ti111 r r r r r (show _=#[V 5,V 0,V 0,T be,T be,V 0,V 0,sn,T be,V 0,.slice (ad aB) ([(⟨14,0,0,be,be,([c,a]:List Ge)⟩:Ge)]:List Ge).length 1,sn,sn] from r)) ?_)
   intro bE b
   try dsimp only [List.set] at b
   have h:=(b.ad [5] [])
   refine ⟨(sF h),?_⟩
   refine hD ?_
   exact hJd _ _ ⟨aU,aB,aA,⟨r,r,r,r,r,y⟩,(b.ad [3,5,1,6,7,8,0,2] [7,8,9,10,0,3])⟩
  refine oo r r (aNewB b (mAlloc ti111)) ?_
  rintro _ bF ⟨aV,rfl,b⟩
  have h:=(b.ad [3] [])
  refine ⟨(sF h),?_⟩
  have hc:=(sp_kit_variable fu) (b.pr [] [0,1,2,3,4,5,6,7] [] r)  h8
  refine hO 1 (oc r r (ec cal59 r) hc ?_)
  rintro _ w8 ⟨j,m,rfl,z⟩
  replace b:=b.cl [] [0,1,2,3,4,5,6,7] r z r
  try dsimp only [pick,nth,ca,na] at b
  have h:=(b.ad [3] [])
  refine ⟨(sF h),?_⟩
  have hc:=(sp_kit_next fu) (b.pr [4] [0,1,2,3,5,6,7] [7] r)  h9
  refine hO 6 (oc r r (ec cal57 r) hc ?_)
  rintro _ w9 ⟨rfl,z⟩
  replace b:=b.cl [4] [0,1,2,3,5,6,7] r z r
  try dsimp only [pick,nth,ca,na] at b
  have h:=(b.ad [4] [])
  refine ⟨(sF h),?_⟩
  refine pF 7 r (xAddW r r) h ?_
  have hc:=(sp_kit_literal fu) (b.pr [] [0,1,2,3,4,5,6,7] [] r)  ao
  refine hO 8 (oc r r (ec cal108 r) hc ?_)
  rintro _ au ⟨d,e,rfl,z⟩
  replace b:=b.cl [] [0,1,2,3,4,5,6,7] r z r
  try dsimp only [pick,nth,ca,na] at b
  have h:=(b.ad [4] [])
  refine ⟨(sF h),?_⟩
  refine hO 9 (oo r r (aRowB b [[V c.Op,V c.Number,V c.Var,T c.Name,T c.Field,Z j c.Args m],[V a.Op,V a.Number,V a.Var,T a.Name,T a.Field,Z d a.Args e]] ([c,a]:List Ge) (bs109_2_a r r) r r (by decide) ⟨(GExpr.inn ⟨j,m,r,(b.dl 2 r)⟩),⟨(GExpr.inn ⟨d,e,r,(b.dl 0 r)⟩),y⟩⟩) ?_)
  rintro _ bG ⟨aC,rfl,b⟩
  have h:=(b.ad [5] [])
  refine ⟨(sF h),?_⟩
  refine pF 10 r (bd138_0_5 r r) h ?_
  replace b:=b.frz 0 0 r r
  try dsimp only [List.eraseIdx] at b
  refine hO 11 (oo r r (aRowB b [[V 14,V 0,V 0,T be,T be,.slice (ad aC) ([c,a]:List Ge).length 2]] ([(⟨14,0,0,be,be,([c,a]:List Ge)⟩:Ge)]:List Ge) (bs109_1_a r) r r (by decide) ⟨(GExpr.inn ⟨(ad aC),2,r,(b.dl 0 r)⟩),y⟩) ?_)
  rintro _ bH ⟨aD,rfl,b⟩
  have h:=(b.ad [5] [])
  refine ⟨(sF h),?_⟩
  refine pF 12 r (bd111_0_10 r r) h ?_
  refine hO 14 (os r r (tb b 2 [V 5,V 0,V 0,T be,T be,V 0,V 0,sn,T be,V 0,.slice (ad aD) ([(⟨14,0,0,be,be,([c,a]:List Ge)⟩:Ge)]:List Ge).length 1,sn,sn] r ti111 r r r r r (show _=#[V 5,V 0,V 0,T be,T be,V 0,V 0,sn,T be,V 0,.slice (ad aD) ([(⟨14,0,0,be,be,([c,a]:List Ge)⟩:Ge)]:List Ge).length 1,sn,sn] from r)) ?_)
  intro bI b
  try dsimp only [List.set] at b
  have h:=(b.ad [5] [])
  refine ⟨(sF h),?_⟩
  refine hD ?_
  exact hJd _ _ ⟨aV,aD,aC,⟨r,r,r,r,r,y⟩,(b.ad [3,5,1,6,7,8,0,2] [7,8,9,10,0,3])⟩
 clear b
 rintro f w ⟨am,A,J,hf,b⟩
 obtain ⟨c6,rfl⟩:=has_updL _ _ hf
 clear hf
 refine q (g (s (mp r) (s (mi r) (s (xAddW r r) ?_))))
 obtain ⟨⟨aW,aX,aY⟩,aZ,x⟩:=bs x
 replace x:=pi x
 replace x:=pi x
 have hc:=H_kit_body (b.pr [1,2,3,4,5] [0,6,7] [5,0,1,2,3] r) (b.le X) (b.le aa) (b.le ab) aZ
 refine sc (ec cal84 r) hc ?_
 rintro _ bJ ⟨aE,aF,aG,a1,a2,a3,a4,a5,a6,a7,a8,a9,rfl,z⟩
 have b0:=b.chg.size
 replace b:=b.cl [1,2,3,4,5] [0,6,7] r z r
 try dsimp only [pick,nth,ca,na] at b
 replace b:=b.reb 0 w0.heap.size r b0
 try dsimp only [List.set] at b
 refine s (xMvT r) ?_
 obtain ⟨u,b1,x⟩:=bs x
 have hc:=(sp_kit_variable fu) (b.pr [] [0,1,2,3,4,5,6,7,8] [] r)  b1
 refine sc (ec cal59 r) hc ?_
 rintro _ bK ⟨K,L,rfl,z⟩
 replace b:=b.cl [] [0,1,2,3,4,5,6,7,8] r z r
 try dsimp only [pick,nth,ca,na] at b
 refine sTo (aRowB b [[V u.Op,V u.Number,V u.Var,T u.Name,T u.Field,Z K u.Args L]] ([u]:List Ge) (bs109_1_a r) r r (by decide) ⟨(GExpr.inn ⟨K,L,r,(b.dl 0 r)⟩),y⟩) ?_
 rintro _ bL ⟨aH,rfl,b⟩
 refine s (xMvT r) ?_
 obtain ⟨p,b3,x⟩:=bs x
 have hc:=(sp_kit_variable fu) (b.pr [] [0,1,2,3,4,5,6,7,8,9] [] r)  b3
 refine sc (ec cal59 r) hc ?_
 rintro _ bM ⟨M,N,rfl,z⟩
 replace b:=b.cl [] [0,1,2,3,4,5,6,7,8,9] r z r
 try dsimp only [pick,nth,ca,na] at b
 obtain ⟨t,b4,x⟩:=bs x
 have hc:=(sp_kit_literal fu) (b.pr [] [0,1,2,3,4,5,6,7,8,9] [] r)  b4
 refine sc (ec cal108 r) hc ?_
 rintro _ bN ⟨Q,S,rfl,z⟩
 replace b:=b.cl [] [0,1,2,3,4,5,6,7,8,9] r z r
 try dsimp only [pick,nth,ca,na] at b
 refine sTo (aRowB b [[V p.Op,V p.Number,V p.Var,T p.Name,T p.Field,Z M p.Args N],[V t.Op,V t.Number,V t.Var,T t.Name,T t.Field,Z Q t.Args S]] ([p,t]:List Ge) (bs109_2_a r r) r r (by decide) ⟨(GExpr.inn ⟨M,N,r,(b.dl 1 r)⟩),⟨(GExpr.inn ⟨Q,S,r,(b.dl 0 r)⟩),y⟩⟩) ?_
 rintro _ bO ⟨aI,rfl,b⟩
 refine s (bd138_0_5 r r) ?_
 replace b:=b.frz 0 0 r r
 try dsimp only [List.eraseIdx] at b
 refine sTo (aRowB b [[V 6,V 0,V 0,T be,T be,.slice (ad aI) ([p,t]:List Ge).length 2]] ([(⟨6,0,0,be,be,([p,t]:List Ge)⟩:Ge)]:List Ge) (bs109_1_a r) r r (by decide) ⟨(GExpr.inn ⟨(ad aI),2,r,(b.dl 0 r)⟩),y⟩) ?_
 rintro _ bP ⟨aJ,rfl,b⟩
 refine s (bd111_0_7_10 r r r) ?_
 replace b:=b.frz 1 4 r r
 try dsimp only [List.eraseIdx] at b
 replace b:=b.frz 0 1 r r
 try dsimp only [List.eraseIdx] at b
 refine sTo (aRowB b [[V 2,V 0,V 0,T be,T be,V 0,V 0,.slice (ad aH) ([u]:List Ge).length 1,T be,V 0,.slice (ad aJ) ([(⟨6,0,0,be,be,([p,t]:List Ge)⟩:Ge)]:List Ge).length 1,sn,sn]] ([(⟨2,0,0,be,be,0,0,([u]:List Ge),be,0,([(⟨6,0,0,be,be,([p,t]:List Ge)⟩:Ge)]:List Ge),([]:List Gs),([]:List Gs)⟩:Gs)]:List Gs) (bs80_1_a r) r r (by decide) ⟨(GStmt.inn ⟨(ad aH),1,(ad aJ),1,none,0,none,0,r,(b.dl 1 r),(b.dl 0 r),ln_,ln_⟩),y⟩) ?_
 rintro _ bQ ⟨bR,rfl,b⟩
 obtain ⟨ac,aK,x⟩:=bs x
 refine sTo (aAppB b 1 7 r r u80_ ti111 r (by decide) (by decide) (Nat.le_refl _) r r (b.ysO 0 0 r r) aK) ?_
 rintro _ bS ⟨ae,af,bT,rfl,b⟩
 refine s (f111_11 r) (sTs (tb b 9 [Z ae ac af] r ti80 r r r r r (show _=#[V 5,V 0,V 0,T be,T be,V 0,V 0,sn,T be,V 0,.slice (ad A) ([(⟨14,0,0,be,be,([c,a]:List Ge)⟩:Ge)]:List Ge).length 1,Z ae ac af,sn] from r)) ?_)
 intro bU b
 try dsimp only [List.set] at b
 refine n (q (g (s (xLoadS [V 1,V 0,V 0,T v,T be,V 0,V 0,sn,T be,V 0,sn,sn,sn] u111_ r ti111 r r (Cells.part (b.bk 7 r).cells (o2:=0) r)) (s (xLoadS [V 5,V 0,V 0,T be,T be,V 0,V 0,sn,T be,V 0,.slice (ad A) ([(⟨14,0,0,be,be,([c,a]:List Ge)⟩:Ge)]:List Ge).length 1,Z ae ac af,sn] u111_ r ti111 r r (Cells.part (b.bk 9 r).cells (o2:=0) r)) ?_))))
 replace b:=b.frz 8 17 r r
 try dsimp only [List.eraseIdx] at b
 replace b:=b.frz 1 8 r r
 try dsimp only [List.eraseIdx] at b
 refine sTo (aRowB b [[V 1,V 0,V 0,T v,T be,V 0,V 0,sn,T be,V 0,sn,sn,sn],[V 5,V 0,V 0,T be,T be,V 0,V 0,sn,T be,V 0,.slice (ad A) ([(⟨14,0,0,be,be,([c,a]:List Ge)⟩:Ge)]:List Ge).length 1,Z ae ac af,sn]] ([(⟨1,0,0,v,be,0,0,([]:List Ge),be,0,([]:List Ge),([]:List Gs),([]:List Gs)⟩:Gs),(⟨5,0,0,be,be,0,0,([]:List Ge),be,0,([(⟨14,0,0,be,be,([c,a]:List Ge)⟩:Ge)]:List Ge),ac,([]:List Gs)⟩:Gs)]:List Gs) (bs80_2_a r r) r r (by decide) ⟨(GStmt.inn ⟨none,0,none,0,none,0,none,0,r,ln_,ln_,ln_,ln_⟩),⟨(GStmt.inn ⟨none,0,(ad A),1,ae,af,none,0,r,ln_,(b.dl 1 r),(b.dl 0 r),ln_⟩),y⟩⟩) ?_
 rintro _ bW ⟨b5,rfl,b⟩
 refine s (xAsS r) (n (wRt ?_))
 obtain rfl:=sm x
 refine resV1 r (rdT r) ?_
 exact pok (pok (⟨(ad b5),2,[[V 1,V 0,V 0,T v,T be,V 0,V 0,sn,T be,V 0,sn,sn,sn],[V 5,V 0,V 0,T be,T be,V 0,V 0,sn,T be,V 0,.slice (ad A) ([(⟨14,0,0,be,be,([c,a]:List Ge)⟩:Ge)]:List Ge).length 1,Z ae ac af,sn]],a1,a2,a3,a4,a5,a6,a7,a8,a9,r,(b.ad [0,2,3,4,5,6] [0,10,11,12,13,14])⟩))
theorem wk_kit_stmts (fu:Nat)(r_kit_stmts:T_kit_stmts) (r_kit_body:T_kit_body) (r_kit_loop:T_kit_loop) (H_kit_stmts:Ct_kit_stmts r_kit_stmts) (H_kit_body:Ct_kit_body r_kit_body) (H_kit_loop:Ct_kit_loop r_kit_loop):Ct_kit_stmts (F_kit_stmts fu r_kit_stmts r_kit_body r_kit_loop):=by
 intro w0 jE x0 ex x1 x2 ah E x A F H dy dz eG a4 dA dB eH ab dC dD eI ac R hP N U W hM
 unfold F_kit_stmts at hM
 have b:=hP.bx
 clear hP
 generalize hG:Gof _=G at b ⊢
 refine cf Try.func58 r ?_
 refine wCut [(0,Pt ah),(1,V x1),(2,V x2)] ⟨r,r,r,y⟩ fun jF=>?_
 refine q (g (s (xAsS r) (n (q (g (s (xAsS r) (n (q (q (g (s (xi r) (n ?_))))))))))))
 replace b:=b.owL Gs 111
 obtain ⟨Y1,a,hM⟩:=bs hM
 refine wJd (fun f w=>∃ (Q:Int)(M:List Gs) (B:OA)(C:Nat)(D:LV)(a5:Int)(a6:Int)(S:List Int) (Y:Int)(a1:Int)(aC:List Int) (aY:Int)(I:List BA) (e:OA)(h:Nat)(t:LV)(J:List BA) (j:OA)(m:Nat)(u:LV)(K:List BA) (o:OA)(p:Nat)(v:LV),Has f [(7,Z B M C)]∧Bx w0 w jE G [O w0.heap.size B C 111 Gs D,.box ah 135 #[Pt E,V a5,V a6,Z F S H,Z e I h,Z j J m,Z o K p,V Y,V a1],.box E 132 #[Z x aC A,V aY],O a4 e h 9 BA t,O ab j m 9 BA u,O ac o p 9 BA v] [.l F H S,.l x A aC,.els D M,.els t I,.els u J,.els v K]∧Ld.go (Q,M,a5,a6,S,Y,a1,aC,aY,I,J,K)=Y1) (fun J1 fi=>?_) ?_
 ·refine wBk (wLoopGd (fun jG f w=>∃ (Q:Int)(M:List Gs) (B:OA)(C:Nat)(D:LV)(a5:Int)(a6:Int)(S:List Int) (Y:Int)(a1:Int)(aC:List Int) (aY:Int)(I:List BA) (e:OA)(h:Nat)(t:LV)(J:List BA) (j:OA)(m:Nat)(u:LV)(K:List BA) (o:OA)(p:Nat)(v:LV),Has f [(0,Pt ah),(1,V x1),(2,V x2),(7,Z B M C),(8,V Q)]∧Bx w0 w jE G [O w0.heap.size B C 111 Gs D,.box ah 135 #[Pt E,V a5,V a6,Z F S H,Z e I h,Z j J m,Z o K p,V Y,V a1],.box E 132 #[Z x aC A,V aY],O a4 e h 9 BA t,O ab j m 9 BA u,O ac o p 9 BA v] [.l F H S,.l x A aC,.els D M,.els t I,.els u J,.els v K]∧F_kit_stmts_L0 fu r_kit_stmts r_kit_body r_kit_loop x1 x2 jG Q M a5 a6 S Y a1 aC aY I J K=some Y1) fu ⟨0,([]:List Gs),none,0,[],x0.f,x0.funcs,x0.params,x0.count,x0.left,ex.l,ex.at_,x0.scalars,dy,dz,eG,x0.points,dA,dB,eH,x0.arrays,dC,dD,eI,⟨r,r,r,r,r,y⟩,(b.dp [2,1,0,3,4,5]),a⟩ ?_)
  clear b a
  rintro n1 f w ⟨Q,M,B,C,D,a5,a6,S,Y,a1,aC,aY,I,e,h,t,J,j,m,u,K,o,p,v,hf,b,a⟩ K1 cX
  obtain ⟨jF,rfl⟩:=has_updL _ _ hf
  clear hf
  cases n1 with
  | zero=>exact nn a
  | succ n1=>
   rw [F_kit_stmts_L0] at a
   refine q (q (g (s (mi r) (s (mi r) (s (xLss r r) (s (xMvB r) ?_))))))
   rcases iv a with ⟨h3,a⟩|⟨h3,a⟩
   ·rw [decide_eq_true h3]
    refine sGo r (s (mp r) (sGo r (s (xn r) (sGo r (s (f135_8 r) (sGo r (s (l3 r (b.bk 1 r) r) (sGo r (s (xGtr r r) (s (xPkTB r r) (s (xMvB r) ?_)))))))))))
    rcases iv a with ⟨h4,a⟩|⟨h4,a⟩
    ·rw [decide_eq_true h4]
     refine sGo r (s (mp r) (sGo r (s (xn r) (sGo r (s (f135_0 r) (sGo r (s (l130 r (b.bk 1 r) r) ?_)))))))
     obtain ⟨i2,h5,a⟩:=bs a
     refine sGo r ?_
     have hc:=(sp_kit_more fu) (b.pr [2] [0,1,3,4,5] [1] r)  h5
     refine sc (ec cal81 r) hc ?_
     rintro _ w5 ⟨rfl,hK⟩
     replace b:=b.cl [2] [0,1,3,4,5] r hK r
     try dsimp only [pick,nth,ca,na] at b
     refine s (xPkTB r r) (n ?_)
     rcases iv a with ⟨h6,a⟩|⟨h6,a⟩
     ·refine wIfT (cb h6) (wk (q (wBk (q (g (s (mp r) (s (xn r) (s (f135_8 r) (s (l3 r (b.bk 2 r) r) (s (xSubW r r) (s (xn r) (s (f135_8 r) (sTs (tb b 2 [V (wr (a1 - 1))] r ti3 r r r r r (show _=#[Pt E,V a5,V a6,Z F S H,Z e I h,Z j J m,Z o K p,V Y,V (wr (a1 - 1))] from r)) ?_)))))))))))))
      intro w7 b
      try dsimp only [List.set] at b
      refine n (q (g (s (mp r) (s (xn r) (s (f135_0 r) (s (l130 r (b.bk 2 r) r) ?_))))))
      obtain ⟨⟨cK,al⟩,h8,a⟩:=bs a
      replace a:=pi a
      have hc:=(sp_kit_next fu) (b.pr [0] [1,2,3,4,5] [2] r)  h8
      refine sc (ec cal57 r) hc ?_
      rintro _ w8 ⟨rfl,hK⟩
      replace b:=b.cl [0] [1,2,3,4,5] r hK r
      try dsimp only [pick,nth,ca,na] at b
      refine s (xi r) (n (wBk (q ?_)))
      obtain ⟨Y9,eE,a⟩:=bs a
      refine wJd (fun f w=>∃ (eK:Bool),Has f [(0,Pt ah),(1,V x1),(2,V x2),(7,Z B M C),(8,V Q),(9,V cK),(49,.bool eK)]∧Bx w0 w jE G [.box E 132 #[Z x al.l A,V al.at_],O w0.heap.size B C 111 Gs D,.box ah 135 #[Pt E,V a5,V a6,Z F S H,Z e I h,Z j J m,Z o K p,V Y,V (wr (a1 - 1))],O a4 e h 9 BA t,O ab j m 9 BA u,O ac o p 9 BA v] [.l x A al.l,.l F H S,.els D M,.els t I,.els u J,.els v K]∧Ld.go eK=Y9) (fun J9 fW=>?_) ?_
      ·unfold F_kit_stmts_J1 at eE
       refine g (s (mi r) (s (xLss r r) (s (xMvB r) ?_)))
       rcases iv eE with ⟨fj,eE⟩|⟨fj,eE⟩
       ·rw [decide_eq_true fj]
        refine sGo r (s (mp r) (sGo r (s (xn r) (sGo r (s (f135_7 r) (sGo r (s (l3 r (b.bk 2 r) r) (sGo r (s (xLss r r) (s (xPkTB r r) (s (xAsB r) (n ?_))))))))))))
        exact fW _ _ ⟨(decide (Y < 14)),⟨r,r,r,r,r,r,r,y⟩,(b.dp [0,2,4,5,6,7]),sm eE⟩
       rw [decide_eq_false fj]
       refine sNo r (sNo r (sNo r (sNo r (sNo r (s (xPkFB r r) (s (xAsB r) (n ?_)))))))
       exact fW _ _ ⟨false,⟨r,r,r,r,r,r,r,y⟩,(b.dp [0,2,4,5,6,7]),sm eE⟩
      clear b
      rintro f w ⟨eK,hf,b,gQ⟩
      obtain ⟨jF,rfl⟩:=has_updL _ _ hf
      clear hf
      subst gQ
      replace a:=gi a
      rcases iv a with ⟨eL,a⟩|⟨eL,a⟩
      ·refine wIfT (cb eL) (g (s (xMvS r) (s (mp r) ?_)))
       obtain ⟨⟨a7,aF,eM⟩,gR,a⟩:=bs a
       replace a:=pi a
       replace a:=pi a
       have hc:=(sp_kit_declare fu) (b.pr [2,0,3,4,5] [1] [0,1,3,4,5] r) (b.le N) (b.le U) (b.le W) gR
       refine sc (ec cal82 r) hc ?_
       rintro _ iB ⟨cL,cM,cN,cO,cP,cQ,cR,cS,dE,dF,dG,dH,dI,dJ,dK,dL,dM,rfl,hK⟩
       replace b:=b.cl [2,0,3,4,5] [1] r hK r
       try dsimp only [pick,nth,ca,na] at b
       refine sTo (aRowB b [[V a7.Kind,V a7.Line,V a7.Id,T a7.Name,T a7.Type_,V a7.Len,V a7.Var,Z cL a7.Target cM,T a7.Func,V a7.Callee,Z cN a7.Args cO,Z cP a7.Body cQ,Z cR a7.Else cS]] ([a7]:List Gs) (bs80_1_a r) r r (by decide) ⟨(GStmt.inn ⟨cL,cM,cN,cO,cP,cQ,cR,cS,r,(b.dl 0 r),(b.dl 1 r),(b.dl 2 r),(b.dl 3 r)⟩),y⟩) ?_
       rintro _ iC ⟨iD,rfl,b⟩
       obtain ⟨gS,fX,a⟩:=bs a
       refine sTo (aAppB b 6 12 r r u80_ ti111 r (by decide) (by decide) (Nat.le_refl _) r r (b.ysO 0 0 r r) fX) ?_
       rintro _ iE ⟨gT,gU,gV,rfl,b⟩
       refine s (xAsS r) (n (g (s (mi r) (s (xAddW r r) (s (xi r) (n ?_))))))
       exact cX n1 _ _ (Nat.lt_succ_self _) ⟨(wr (Q+1)),gS,gT,gU,gV,aF.f,aF.funcs,aF.params,aF.count,aF.left,eM.l,eM.at_,aF.scalars,dE,dF,dG,aF.points,dH,dI,dJ,aF.arrays,dK,dL,dM,⟨r,r,r,r,r,y⟩,(b.ad [6,1,2,3,4,5] [6,5,12,7,8,9]),a⟩
      replace eL:=nt eL
      refine wIfF (cb eL) (q ?_)
      obtain ⟨gW,cT,a⟩:=bs a
      refine wJd (fun f w=>∃ (dN:Bool),Has f [(0,Pt ah),(1,V x1),(2,V x2),(7,Z B M C),(8,V Q),(9,V cK),(64,.bool dN)]∧Bx w0 w jE G [.box E 132 #[Z x al.l A,V al.at_],O w0.heap.size B C 111 Gs D,.box ah 135 #[Pt E,V a5,V a6,Z F S H,Z e I h,Z j J m,Z o K p,V Y,V (wr (a1 - 1))],O a4 e h 9 BA t,O ab j m 9 BA u,O ac o p 9 BA v] [.l x A al.l,.l F H S,.els D M,.els t I,.els u J,.els v K]∧Ld.go dN=gW) (fun iF f9=>?_) ?_
      ·unfold F_kit_stmts_J2 at cT
       refine g (s (mi r) (s (xEqlD r r) (s (xMvB r) ?_)))
       rcases iv cT with ⟨fk,cT⟩|⟨fk,cT⟩
       ·rw [decide_eq_true fk]
        refine sGo r (s (mi r) (sGo r (s (xLss r r) (s (xPkTB r r) (s (xAsB r) (n ?_))))))
        exact f9 _ _ ⟨(decide (x1 < 4)),⟨r,r,r,r,r,r,r,y⟩,b,sm cT⟩
       rw [decide_eq_false fk]
       refine sNo r (sNo r (s (xPkFB r r) (s (xAsB r) (n ?_))))
       exact f9 _ _ ⟨false,⟨r,r,r,r,r,r,r,y⟩,b,sm cT⟩
      clear b
      rintro f w ⟨dN,hf,b,fY⟩
      obtain ⟨jF,rfl⟩:=has_updL _ _ hf
      clear hf
      subst fY
      replace a:=gi a
      rcases iv a with ⟨eN,a⟩|⟨eN,a⟩
      ·refine wIfT (cb eN) (q (g (s (mp r) ?_)))
       obtain ⟨⟨L,gX,gY⟩,gZ,a⟩:=bs a
       replace a:=pi a
       replace a:=pi a
       have hc:=(sp_kit_expr fu) (b.pr [2,0,3,4,5] [1] [0,1,3,4,5] r) (b.le N) (b.le U) (b.le W) gZ
       refine sc (ec cal83 r) hc ?_
       rintro _ iG ⟨aO,aP,rfl,hK⟩
       replace b:=b.cl [2,0,3,4,5] [1] r hK r
       try dsimp only [pick,nth,ca,na] at b
       refine sTo (aRowB b [[V L.Op,V L.Number,V L.Var,T L.Name,T L.Field,Z aO L.Args aP]] ([L]:List Ge) (bs109_1_a r) r r (by decide) ⟨(GExpr.inn ⟨aO,aP,r,(b.dl 0 r)⟩),y⟩) ?_
       rintro _ iH ⟨cY,rfl,b⟩
       refine s (bd111_0_10 r r) (sTo (aNewB b (mAlloc ti111)) ?_)
       rintro _ iI ⟨fZ,rfl,b⟩
       refine sTs (tb b 0 [V 4,V 0,V 0,T be,T be,V 0,V 0,sn,T be,V 0,.slice (ad cY) ([L]:List Ge).length 1,sn,sn] r ti111 r r r r r (show _=#[V 4,V 0,V 0,T be,T be,V 0,V 0,sn,T be,V 0,.slice (ad cY) ([L]:List Ge).length 1,sn,sn] from r)) ?_
       intro iJ b
       try dsimp only [List.set] at b
       refine n (q (g (s (mp r) (s (mi r) (s (xAddW r r) ?_)))))
       obtain ⟨⟨aG,aH,h0⟩,h1,a⟩:=bs a
       replace a:=pi a
       replace a:=pi a
       have hc:=H_kit_body (b.pr [2,3,4,5,6] [0,1,7] [2,3,4,5,6] r) (b.le N) (b.le U) (b.le W) h1
       refine sc (ec cal84 r) hc ?_
       rintro _ iK ⟨a2,a3,cU,dO,dP,dQ,dR,dS,dT,dU,dV,dW,rfl,hK⟩
       have ch:=b.chg.size
       replace b:=b.cl [2,3,4,5,6] [0,1,7] r hK r
       try dsimp only [pick,nth,ca,na] at b
       replace b:=b.reb 0 w0.heap.size r ch
       try dsimp only [List.set] at b
       refine s (f111_11 r) (sTs (tb b 6 [Z a2 aG a3] r ti80 r r r r r (show _=#[V 4,V 0,V 0,T be,T be,V 0,V 0,sn,T be,V 0,.slice (ad cY) ([L]:List Ge).length 1,Z a2 aG a3,sn] from r)) ?_)
       intro iL b
       try dsimp only [List.set] at b
       refine n (q ?_)
       replace b:=b.owL Gs 111
       obtain ⟨h2,ai,a⟩:=bs a
       refine wJd (fun f w=>∃ (b3:List Gs) (aQ:OA)(aR:Nat)(cZ:LV)(d0:Int)(d1:Int)(ci:List Int) (d2:Int)(d3:Int)(cj:List Int) (d4:Int)(ck:List BA) (bT:OA)(bU:Nat)(bV:LV)(b8:List BA) (b9:OA)(ba:Nat)(bb:LV)(bc:List BA) (bd:OA)(bg:Nat)(bh:LV),Has f [(0,Pt ah),(1,V x1),(2,V x2),(7,Z B M C),(8,V Q),(10,Pt fZ)]∧Bx w0 w jE G [O w0.heap.size aQ aR 111 Gs cZ,O w0.heap.size a2 a3 111 Gs cU,.box ah 135 #[Pt E,V d0,V d1,Z F ci H,Z bT ck bU,Z b9 b8 ba,Z bd bc bg,V d2,V d3],.box E 132 #[Z x cj A,V d4],O a4 bT bU 9 BA bV,O ab b9 ba 9 BA bb,O ac bd bg 9 BA bh,.box fZ 111 #[V 4,V 0,V 0,T be,T be,V 0,V 0,sn,T be,V 0,.slice (ad cY) ([L]:List Ge).length 1,Z a2 aG a3,Z aQ b3 aR],O w0.heap.size (ad cY) 1 138 Ge [[V L.Op,V L.Number,V L.Var,T L.Name,T L.Field,Z aO L.Args aP]],O w0.heap.size B C 111 Gs D] [.l F H ci,.l x A cj,.els cZ b3,.els cU aG,.els bV ck,.els bb b8,.els bh bc,.els [[V L.Op,V L.Number,V L.Var,T L.Name,T L.Field,Z aO L.Args aP]] ([L]:List Ge),.els D M]∧Ld.go (b3,d0,d1,ci,d2,d3,cj,d4,ck,b8,bc)=h2) (fun iM fa=>?_) ?_
       ·unfold F_kit_stmts_J3 at ai
        refine q (g (s (mp r) (s (xn r) (s (f135_0 r) (s (l130 r (b.bk 2 r) r) ?_)))))
        obtain ⟨⟨h7,eO⟩,h9,ai⟩:=bs ai
        replace ai:=pi ai
        have hc:=(sp_kit_next fu) (b.pr [3] [0,1,2,4,5,6,7,8,9] [2] r)  h9
        refine sc (ec cal57 r) hc ?_
        rintro _ iN ⟨rfl,hK⟩
        replace b:=b.cl [3] [0,1,2,4,5,6,7,8,9] r hK r
        try dsimp only [pick,nth,ca,na] at b
        refine s (xEqlD r r) (n ?_)
        rcases iv ai with ⟨fl,ai⟩|⟨fl,ai⟩
        ·refine wIfT (bt fl) (g (s (mp r) (s (mi r) (s (xAddW r r) ?_))))
         obtain ⟨⟨dX,aI,eP⟩,ha,ai⟩:=bs ai
         replace ai:=pi ai
         replace ai:=pi ai
         have hc:=H_kit_body (b.pr [3,0,4,5,6] [1,2,7,8,9] [0,4,5,6,7] r) (b.le N) (b.le U) (b.le W) ha
         refine sc (ec cal84 r) hc ?_
         rintro _ iO ⟨bI,bJ,eF,dY,dZ,e0,e1,e2,e3,e4,e5,e6,rfl,hK⟩
         have ch:=b.chg.size
         replace b:=b.cl [3,0,4,5,6] [1,2,7,8,9] r hK r
         try dsimp only [pick,nth,ca,na] at b
         replace b:=b.reb 0 w0.heap.size r ch
         try dsimp only [List.set] at b
         refine s (f111_12 r) (sTs (tb b 8 [Z bI dX bJ] r ti80 r r r r r (show _=#[V 4,V 0,V 0,T be,T be,V 0,V 0,sn,T be,V 0,.slice (ad cY) ([L]:List Ge).length 1,Z a2 aG a3,Z bI dX bJ] from r)) ?_)
         intro iP b
         try dsimp only [List.set] at b
         refine n ?_
         exact fa _ _ ⟨dX,bI,bJ,eF,aI.f,aI.funcs,aI.params,aI.count,aI.left,eP.l,eP.at_,aI.scalars,dY,dZ,e0,aI.points,e1,e2,e3,aI.arrays,e4,e5,e6,⟨r,r,r,r,r,r,y⟩,(b.ad [0,7,1,2,3,4,5,8,9,10] [2,1,0,8,3,4,5,14,23]),sm ai⟩
        refine wIfF (bf fl) (wk ?_)
        exact fa _ _ ⟨([]:List Gs),none,0,[],aH.f,aH.funcs,aH.params,aH.count,aH.left,eO.l,eO.at_,aH.scalars,dO,dP,dQ,aH.points,dR,dS,dT,aH.arrays,dU,dV,dW,⟨r,r,r,r,r,r,y⟩,(b.ad [1,2,3,0,4,5,6,7,8,9] [4,0,1,2,5,6,7,8,17]),sm ai⟩
       clear b
       rintro f w ⟨b3,aQ,aR,cZ,d0,d1,ci,d2,d3,cj,d4,ck,bT,bU,bV,b8,b9,ba,bb,bc,bd,bg,bh,hf,b,g0⟩
       obtain ⟨jF,rfl⟩:=has_updL _ _ hf
       clear hf
       subst g0
       replace a:=gi a
       replace a:=pi a
       replace a:=pi a
       replace a:=pi a
       replace a:=pi a
       replace a:=pi a
       replace a:=pi a
       replace a:=pi a
       replace a:=pi a
       replace a:=pi a
       replace a:=pi a
       refine g (s (xMvS r) (s (xLoadS [V 4,V 0,V 0,T be,T be,V 0,V 0,sn,T be,V 0,.slice (ad cY) ([L]:List Ge).length 1,Z a2 aG a3,Z aQ b3 aR] u111_ r ti111 r r (Cells.part (b.bk 7 r).cells (o2:=0) r)) ?_))
       replace b:=b.frz 8 7 r r
       try dsimp only [List.eraseIdx] at b
       replace b:=b.frz 1 4 r r
       try dsimp only [List.eraseIdx] at b
       replace b:=b.frz 0 4 r r
       try dsimp only [List.eraseIdx] at b
       refine sTo (aRowB b [[V 4,V 0,V 0,T be,T be,V 0,V 0,sn,T be,V 0,.slice (ad cY) ([L]:List Ge).length 1,Z a2 aG a3,Z aQ b3 aR]] ([(⟨4,0,0,be,be,0,0,([]:List Ge),be,0,([L]:List Ge),aG,b3⟩:Gs)]:List Gs) (bs80_1_a r) r r (by decide) ⟨(GStmt.inn ⟨none,0,(ad cY),1,a2,a3,aQ,aR,r,ln_,(b.dl 2 r),(b.dl 1 r),(b.dl 0 r)⟩),y⟩) ?_
       rintro _ iQ ⟨iR,rfl,b⟩
       obtain ⟨hb,g1,a⟩:=bs a
       refine sTo (aAppB b 7 9 r r u80_ ti111 r (by decide) (by decide) (Nat.le_refl _) r r (b.ysO 0 0 r r) g1) ?_
       rintro _ iS ⟨hd,he,hg,rfl,b⟩
       refine s (xAsS r) (n (g (s (mi r) (s (xAddW r r) (s (xi r) (n ?_))))))
       exact cX n1 _ _ (Nat.lt_succ_self _) ⟨(wr (Q+1)),hb,hd,he,hg,d0,d1,ci,d2,d3,cj,d4,ck,bT,bU,bV,b8,b9,ba,bb,bc,bd,bg,bh,⟨r,r,r,r,r,y⟩,(b.ad [7,1,2,3,4,5] [4,5,9,6,7,8]),a⟩
      replace eN:=nt eN
      refine wIfF (cb eN) (q ?_)
      obtain ⟨hh,aZ,a⟩:=bs a
      refine wJd (fun f w=>∃ (e7:Bool),Has f [(0,Pt ah),(1,V x1),(2,V x2),(7,Z B M C),(8,V Q),(9,V cK),(95,.bool e7)]∧Bx w0 w jE G [.box E 132 #[Z x al.l A,V al.at_],O w0.heap.size B C 111 Gs D,.box ah 135 #[Pt E,V a5,V a6,Z F S H,Z e I h,Z j J m,Z o K p,V Y,V (wr (a1 - 1))],O a4 e h 9 BA t,O ab j m 9 BA u,O ac o p 9 BA v] [.l x A al.l,.l F H S,.els D M,.els t I,.els u J,.els v K]∧Ld.go e7=hh) (fun iT eQ=>?_) ?_
      ·unfold F_kit_stmts_J4 at aZ
       refine g (s (mi r) (s (xEqlD r r) (s (xMvB r) ?_)))
       rcases iv aZ with ⟨fm,aZ⟩|⟨fm,aZ⟩
       ·rw [decide_eq_true fm]
        refine sGo r (s (mi r) (sGo r (s (xLss r r) (s (xPkTB r r) (s (xMvB r) ?_)))))
        rcases iv aZ with ⟨fo,aZ⟩|⟨fo,aZ⟩
        ·rw [decide_eq_true fo]
         refine sGo r (s (mp r) (sGo r (s (xn r) (sGo r (s (f135_7 r) (sGo r (s (l3 r (b.bk 2 r) r) (sGo r (s (xLss r r) (s (xPkTB r r) (s (xAsB r) (n ?_))))))))))))
         exact eQ _ _ ⟨(decide (Y < 14)),⟨r,r,r,r,r,r,r,y⟩,b,sm aZ⟩
        rw [decide_eq_false fo]
        refine sNo r (sNo r (sNo r (sNo r (sNo r (s (xPkFB r r) (s (xAsB r) (n ?_)))))))
        exact eQ _ _ ⟨false,⟨r,r,r,r,r,r,r,y⟩,b,sm aZ⟩
       rw [decide_eq_false fm]
       refine sNo r (sNo r (s (xPkFB r r) (s (xMvB r) (sNo r (sNo r (sNo r (sNo r (sNo r (s (xPkFB r r) (s (xAsB r) (n ?_)))))))))))
       exact eQ _ _ ⟨false,⟨r,r,r,r,r,r,r,y⟩,b,sm aZ⟩
      clear b
      rintro f w ⟨e7,hf,b,g2⟩
      obtain ⟨jF,rfl⟩:=has_updL _ _ hf
      clear hf
      subst g2
      replace a:=gi a
      rcases iv a with ⟨eR,a⟩|⟨eR,a⟩
      ·refine wIfT (cb eR) (g (s (xMvS r) (s (mp r) (s (mi r) ?_))))
       obtain ⟨⟨hj,aJ,eS⟩,hk,a⟩:=bs a
       replace a:=pi a
       replace a:=pi a
       have hc:=H_kit_loop (b.pr [2,0,3,4,5] [1] [0,1,3,4,5] r) (b.le N) (b.le U) (b.le W) hk
       refine sc (ec cal85 r) hc ?_
       rintro _ iU ⟨fQ,fR,fS,e8,e9,ea,eb,ed,ee,ef,eg,eh,rfl,hK⟩
       have ch:=b.chg.size
       replace b:=b.cl [2,0,3,4,5] [1] r hK r
       try dsimp only [pick,nth,ca,na] at b
       replace b:=b.reb 0 w0.heap.size r ch
       try dsimp only [List.set] at b
       obtain ⟨hl,g3,a⟩:=bs a
       refine sTo (aAppB b 6 8 r r u80_ ti111 r (by decide) (by decide) (Nat.le_refl _) r r (b.ysO 0 0 r r) g3) ?_
       rintro _ iV ⟨hm,hn,ho,rfl,b⟩
       refine s (xAsS r) (n (g (s (mi r) (s (xAddW r r) (s (xi r) (n ?_))))))
       exact cX n1 _ _ (Nat.lt_succ_self _) ⟨(wr (Q+1)),hl,hm,hn,ho,aJ.f,aJ.funcs,aJ.params,aJ.count,aJ.left,eS.l,eS.at_,aJ.scalars,e8,e9,ea,aJ.points,eb,ed,ee,aJ.arrays,ef,eg,eh,⟨r,r,r,r,r,y⟩,(b.ad [6,1,2,3,4,5] [2,1,8,3,4,5]),a⟩
      replace eR:=nt eR
      refine wIfF (cb eR) (q ?_)
      obtain ⟨hp,b0,a⟩:=bs a
      refine wJd (fun f w=>∃ (ei:Bool),Has f [(0,Pt ah),(1,V x1),(2,V x2),(7,Z B M C),(8,V Q),(9,V cK),(114,.bool ei)]∧Bx w0 w jE G [.box E 132 #[Z x al.l A,V al.at_],O w0.heap.size B C 111 Gs D,.box ah 135 #[Pt E,V a5,V a6,Z F S H,Z e I h,Z j J m,Z o K p,V Y,V (wr (a1 - 1))],O a4 e h 9 BA t,O ab j m 9 BA u,O ac o p 9 BA v] [.l x A al.l,.l F H S,.els D M,.els t I,.els u J,.els v K]∧Ld.go ei=hp) (fun iW eT=>?_) ?_
      ·unfold F_kit_stmts_J5 at b0
       refine g (s (mi r) (s (xEqlD r r) (s (xMvB r) ?_)))
       rcases iv b0 with ⟨fp,b0⟩|⟨fp,b0⟩
       ·rw [decide_eq_true fp]
        refine sGo r (s (mi r) (sGo r (s (xLss r r) (s (xPkTB r r) (s (xMvB r) ?_)))))
        rcases iv b0 with ⟨fq,b0⟩|⟨fq,b0⟩
        ·rw [decide_eq_true fq]
         refine sGo r (s (mp r) (sGo r (s (xn r) (sGo r (s (f135_7 r) (sGo r (s (l3 r (b.bk 2 r) r) (sGo r (s (xLss r r) (s (xPkTB r r) (s (xAsB r) (n ?_))))))))))))
         exact eT _ _ ⟨(decide (Y < 14)),⟨r,r,r,r,r,r,r,y⟩,b,sm b0⟩
        rw [decide_eq_false fq]
        refine sNo r (sNo r (sNo r (sNo r (sNo r (s (xPkFB r r) (s (xAsB r) (n ?_)))))))
        exact eT _ _ ⟨false,⟨r,r,r,r,r,r,r,y⟩,b,sm b0⟩
       rw [decide_eq_false fp]
       refine sNo r (sNo r (s (xPkFB r r) (s (xMvB r) (sNo r (sNo r (sNo r (sNo r (sNo r (s (xPkFB r r) (s (xAsB r) (n ?_)))))))))))
       exact eT _ _ ⟨false,⟨r,r,r,r,r,r,r,y⟩,b,sm b0⟩
      clear b
      rintro f w ⟨ei,hf,b,g4⟩
      obtain ⟨jF,rfl⟩:=has_updL _ _ hf
      clear hf
      subst g4
      replace a:=gi a
      rcases iv a with ⟨eU,a⟩|⟨eU,a⟩
      ·refine wIfT (cb eU) (q (g (s (bd111_0 r) (sTo (aNewB b (mAlloc ti111)) ?_))))
       rintro _ iX ⟨iY,rfl,b⟩
       refine sTs (tb b 0 [V 8,V 0,V 0,T be,T be,V 0,V 0,sn,T be,V 0,sn,sn,sn] r ti111 r r r r r (show _=#[V 8,V 0,V 0,T be,T be,V 0,V 0,sn,T be,V 0,sn,sn,sn] from r)) ?_
       intro iZ b
       try dsimp only [List.set] at b
       refine n (q (g (s (mp r) (s (mi r) (s (xAddW r r) ?_)))))
       obtain ⟨⟨b4,hq,hr⟩,ht,a⟩:=bs a
       replace a:=pi a
       replace a:=pi a
       have hc:=H_kit_body (b.pr [3,1,4,5,6] [0,2] [0,1,3,4,5] r) (b.le N) (b.le U) (b.le W) ht
       refine sc (ec cal84 r) hc ?_
       rintro _ j0 ⟨ae,af,fT,fr,ft,fv,ej,ek,fw,em,en,fx,rfl,hK⟩
       have ch:=b.chg.size
       replace b:=b.cl [3,1,4,5,6] [0,2] r hK r
       try dsimp only [pick,nth,ca,na] at b
       replace b:=b.reb 0 w0.heap.size r ch
       try dsimp only [List.set] at b
       refine s (f111_11 r) (sTs (tb b 6 [Z ae b4 af] r ti80 r r r r r (show _=#[V 8,V 0,V 0,T be,T be,V 0,V 0,sn,T be,V 0,sn,Z ae b4 af,sn] from r)) ?_)
       intro j1 b
       try dsimp only [List.set] at b
       refine n (q (g (s (mp r) ?_)))
       obtain ⟨⟨aK,b5⟩,hv,a⟩:=bs a
       replace a:=pi a
       have hc:=(sp_kit_fresh fu) (b.pr [1,2,3,4,5] [0,6,7] [1,2,3,4,5] r) (b.le N) (b.le U) (b.le W) hv
       refine sc (ec cal86 r) hc ?_
       rintro _ j2 ⟨rfl,hK⟩
       replace b:=b.cl [1,2,3,4,5] [0,6,7] r hK r
       try dsimp only [pick,nth,ca,na] at b
       refine s (f111_3 r) (sTs (tb b 6 [T aK] r ti9 r r r r r (show _=#[V 8,V 0,V 0,T aK,T be,V 0,V 0,sn,T be,V 0,sn,Z ae b4 af,sn] from r)) ?_)
       intro j3 b
       try dsimp only [List.set] at b
       refine n (q (wDr b [6] [] [0,6] [] [11] (by kernel_rfl) ?_))
       replace b:=b.drew
       have hs:=(b.ad [6] [])
       have hu:=(b.ad [0,6] [])
       refine pL 0 r (mp r) hs hu (pL 1 r (mp r) hs hu (pL 2 r (xn r) hs hu (pL 3 r (f135_4 r) hs hu (tS 1 4 r (fun _ hS=>l70 r (hS.bk 0 r) r) (sl_ hs hu) (pL 5 r (f111_3 r) hs hu (tU 6 r (fun _ hS=>l9 r (hS.bk 0 r) r) (sl_ hs hu) ?_))))))
       refine hO 7 (oo r r (aRowB b [[T aK]] ([aK]:List BA) (bs70_1_a r) r r (by decide) ⟨r,y⟩) ?_)
       rintro _ j4 ⟨j5,rfl,b⟩
       have hs:=(b.ad [7] [])
       have hu:=(b.ad [1,7] [])
       refine ⟨(sl_ hs hu),?_⟩
       obtain ⟨g5,g6,a⟩:=bs a
       refine hO 8 (oo r r (aAppB b 3 3 r r u70_ ti9 r (by decide) (by decide) N r r (b.ysO 0 0 r r) g6) ?_)
       rintro _ j6 ⟨g7,g8,j7,rfl,b⟩
       have hs:=(b.ad [7] [])
       have hu:=(b.ad [1,7] [])
       refine ⟨(sl_ hs hu),?_⟩
       refine pL 9 r (xn r) hs hu (pL 10 r (f135_4 r) hs hu ?_)
       refine hO 11 (os r r (tb b 1 [Z g7 g5 g8] r ti70 r r r r r (show _=#[Pt E,V b5.f,V b5.funcs,Z F b5.params H,Z g7 g5 g8,Z ej b5.points ek,Z em b5.arrays en,V b5.count,V b5.left] from r)) ?_)
       intro j8 b
       try dsimp only [List.set] at b
       have hs:=(b.ad [7] [])
       refine ⟨(sy 11 hs),?_⟩
       refine hD (q (g (s (mp r) (s (mi r) (s (xAddW r r) ?_)))))
       obtain ⟨⟨cm,a8,eV⟩,hw,a⟩:=bs a
       replace a:=pi a
       replace a:=pi a
       have hc:=H_kit_body (b.pr [1,2,3,4,5] [0,6,7,8] [7,2,3,4,5] r) (b.le N) (b.le U) (b.le W) hw
       refine sc (ec cal84 r) hc ?_
       rintro _ j9 ⟨ar,au,fU,cn,co,fy,cp,cq,eo,cr,ct,ep,rfl,hK⟩
       have ch:=b.chg.size
       replace b:=b.cl [1,2,3,4,5] [0,6,7,8] r hK r
       try dsimp only [pick,nth,ca,na] at b
       replace b:=b.reb 0 w0.heap.size r ch
       try dsimp only [List.set] at b
       refine s (f111_12 r) (sTs (tb b 8 [Z ar cm au] r ti80 r r r r r (show _=#[V 8,V 0,V 0,T aK,T be,V 0,V 0,sn,T be,V 0,sn,Z ae b4 af,Z ar cm au] from r)) ?_)
       intro ja b
       try dsimp only [List.set] at b
       refine n (q (wDr b [] [] [1] [] [16] (by kernel_rfl) ?_))
       replace b:=b.drew
       have hs:=(b.ad [] [])
       have hu:=(b.ad [1] [])
       refine pL 0 r (mp r) hs hu (pL 2 r (mp r) hs hu (pL 3 r (xn r) hs hu (pL 4 r (f135_4 r) hs hu (tS 1 5 r (fun _ hS=>l70 r (hS.bk 0 r) r) (sl_ hs hu) (pL 6 r (mp r) hs hu (pL 7 r (xn r) hs hu (pL 8 r (f135_4 r) hs hu (tS 1 9 r (fun _ hS=>l70 r (hS.bk 0 r) r) (sl_ hs hu) (pL 10 r (xLnR u70_ r) hs hu (pL 11 r (xSubW r r) hs hu ?_))))))))))
       obtain ⟨g9,ga,a⟩:=bs a
       obtain ⟨hx,gb,i4,gc,hy,fb,fc⟩:=sl_inv ga
       obtain rfl:hx=0:=by omega
       have fz:g9.length=gb:=by rw [← fc,List.length_take,List.length_drop];omega
       refine tP 12 r (fun _=>show Yl _ _ _ _ _ _ _ _ _ (.slice cn g9.length co) from (congrArg (fun z=>Value.slice cn z co) fz).symm ▸ xSlcH gb u70_ ti9 r r gc (Nat.le_trans fb ((b.vw 3 3 r r)).cap)) (sl_ hs hu) ?_
       refine hO 1 (oo r r (aRowB b [] ([]:List BA) (bs70_0_a) r r (by decide) y) ?_)
       rintro _ jb ⟨jc,rfl,b⟩
       have hs:=(b.ad [] [])
       have hu:=(b.ad [2] [])
       refine ⟨(sl_ hs hu),?_⟩
       obtain ⟨fA,gd,a⟩:=bs a
       refine hO 13 (oo r r (aAppB b 0 0 r r u70_ ti9 r (by decide) (by decide) (Nat.le_refl _) r r (b.ysP 4 4 r r fb fc) gd) ?_)
       rintro _ jd ⟨fB,fC,hz,rfl,b⟩
       have hs:=(b.ad [] [])
       have hu:=(b.ad [2] [])
       refine ⟨(sl_ hs hu),?_⟩
       refine pL 14 r (xn r) hs hu (pL 15 r (f135_4 r) hs hu ?_)
       refine hO 16 (os r r (tb b 2 [Z fB fA fC] r ti70 r r r r r (show _=#[Pt E,V a8.f,V a8.funcs,Z F a8.params H,Z fB fA fC,Z cp a8.points cq,Z cr a8.arrays ct,V a8.count,V a8.left] from r)) ?_)
       intro je b
       try dsimp only [List.set] at b
       have hs:=(b.ad [] [])
       refine ⟨(sy 16 hs),?_⟩
       refine hD (g (s (xMvS r) (s (xLoadS [V 8,V 0,V 0,T aK,T be,V 0,V 0,sn,T be,V 0,sn,Z ae b4 af,Z ar cm au] u111_ r ti111 r r (Cells.part (b.bk 9 r).cells (o2:=0) r)) ?_)))
       replace b:=b.frz 8 13 r r
       try dsimp only [List.eraseIdx] at b
       replace b:=b.frz 1 2 r r
       try dsimp only [List.eraseIdx] at b
       refine sTo (aRowB b [[V 8,V 0,V 0,T aK,T be,V 0,V 0,sn,T be,V 0,sn,Z ae b4 af,Z ar cm au]] ([(⟨8,0,0,aK,be,0,0,([]:List Ge),be,0,([]:List Ge),b4,cm⟩:Gs)]:List Gs) (bs80_1_a r) r r (by decide) ⟨(GStmt.inn ⟨none,0,none,0,ae,af,ar,au,r,ln_,ln_,(b.dl 1 r),(b.dl 0 r)⟩),y⟩) ?_
       rintro _ jf ⟨jg,rfl,b⟩
       obtain ⟨hA,ge,a⟩:=bs a
       refine sTo (aAppB b 9 22 r r u80_ ti111 r (by decide) (by decide) (Nat.le_refl _) r r (b.ysO 0 0 r r) ge) ?_
       rintro _ jh ⟨hB,hC,hE,rfl,b⟩
       refine s (xAsS r) (n (g (s (mi r) (s (xAddW r r) (s (xi r) (n ?_))))))
       replace b:=b.reb 1 a4 r N
       try dsimp only [List.set] at b
       exact cX n1 _ _ (Nat.lt_succ_self _) ⟨(wr (Q+1)),hA,hB,hC,hE,a8.f,a8.funcs,a8.params,a8.count,a8.left,eV.l,eV.at_,fA,fB,fC,hz,a8.points,cp,cq,eo,a8.arrays,cr,ct,ep,⟨r,r,r,r,r,y⟩,(b.ad [9,2,3,1,5,6] [5,4,22,3,7,8]),a⟩
      replace eU:=nt eU
      refine wIfF (cb eU) (q (g (s (mi r) (s (xEqlD r r) (s (xAsB r) (n ?_))))))
      rcases iv a with ⟨fD,a⟩|⟨fD,a⟩
      ·refine wIfT (bt fD) (g (s (xMvS r) (s (mp r) ?_)))
       obtain ⟨⟨az,aL,eW⟩,hF,a⟩:=bs a
       replace a:=pi a
       replace a:=pi a
       have hc:=(sp_kit_expr fu) (b.pr [2,0,3,4,5] [1] [0,1,3,4,5] r) (b.le N) (b.le U) (b.le W) hF
       refine sc (ec cal83 r) hc ?_
       rintro _ ji ⟨cV,cW,rfl,hK⟩
       replace b:=b.cl [2,0,3,4,5] [1] r hK r
       try dsimp only [pick,nth,ca,na] at b
       refine sTo (aRowB b [[V az.Op,V az.Number,V az.Var,T az.Name,T az.Field,Z cV az.Args cW]] ([az]:List Ge) (bs109_1_a r) r r (by decide) ⟨(GExpr.inn ⟨cV,cW,r,(b.dl 0 r)⟩),y⟩) ?_
       rintro _ jj ⟨gf,rfl,b⟩
       refine s (bd111_0_10 r r) ?_
       replace b:=b.frz 0 0 r r
       try dsimp only [List.eraseIdx] at b
       refine sTo (aRowB b [[V 9,V 0,V 0,T be,T be,V 0,V 0,sn,T be,V 0,.slice (ad gf) ([az]:List Ge).length 1,sn,sn]] ([(⟨9,0,0,be,be,0,0,([]:List Ge),be,0,([az]:List Ge),([]:List Gs),([]:List Gs)⟩:Gs)]:List Gs) (bs80_1_a r) r r (by decide) ⟨(GStmt.inn ⟨none,0,(ad gf),1,none,0,none,0,r,ln_,(b.dl 0 r),ln_,ln_⟩),y⟩) ?_
       rintro _ jk ⟨jl,rfl,b⟩
       obtain ⟨hH,gg,a⟩:=bs a
       refine sTo (aAppB b 6 10 r r u80_ ti111 r (by decide) (by decide) (Nat.le_refl _) r r (b.ysO 0 0 r r) gg) ?_
       rintro _ jm ⟨hI,hJ,hN,rfl,b⟩
       refine s (xAsS r) (n (g (s (mi r) (s (xAddW r r) (s (xi r) (n ?_))))))
       exact cX n1 _ _ (Nat.lt_succ_self _) ⟨(wr (Q+1)),hH,hI,hJ,hN,aL.f,aL.funcs,aL.params,aL.count,aL.left,eW.l,eW.at_,aL.scalars,e,h,t,aL.points,j,m,u,aL.arrays,o,p,v,⟨r,r,r,r,r,y⟩,(b.ad [6,1,2,3,4,5] [4,3,10,5,6,7]),a⟩
      refine wIfF (bf fD) (q ?_)
      obtain ⟨hQ,b2,a⟩:=bs a
      refine wJd (fun f w=>∃ (eq:Bool) (cu:List Int) (d5:Int),Has f [(0,Pt ah),(1,V x1),(2,V x2),(7,Z B M C),(8,V Q),(9,V cK),(183,.bool eq)]∧Bx w0 w jE G [.box E 132 #[Z x cu A,V d5],O w0.heap.size B C 111 Gs D,.box ah 135 #[Pt E,V a5,V a6,Z F S H,Z e I h,Z j J m,Z o K p,V Y,V (wr (a1 - 1))],O a4 e h 9 BA t,O ab j m 9 BA u,O ac o p 9 BA v] [.l x A cu,.l F H S,.els D M,.els t I,.els u J,.els v K]∧Ld.go (eq,cu,d5)=hQ) (fun jn fd=>?_) ?_
      ·unfold F_kit_stmts_J6 at b2
       refine g (s (mi r) (s (xEqlD r r) (s (xMvB r) ?_)))
       rcases iv b2 with ⟨fE,b2⟩|⟨fE,b2⟩
       ·rw [decide_eq_true fE]
        refine sGo r (s (mp r) (sGo r (s (xn r) (sGo r (s (f135_0 r) (sGo r (s (l130 r (b.bk 2 r) r) ?_)))))))
        obtain ⟨⟨fF,eX⟩,hR,b2⟩:=bs b2
        replace b2:=pi b2
        refine sGo r ?_
        have hc:=(sp_kit_next fu) (b.pr [0] [1,2,3,4,5] [0] r)  hR
        refine sc (ec cal57 r) hc ?_
        rintro _ jo ⟨rfl,hK⟩
        replace b:=b.cl [0] [1,2,3,4,5] r hK r
        try dsimp only [pick,nth,ca,na] at b
        refine sGo r (s (xEqlD r r) (s (xPkTB r r) (s (xAsB r) (n ?_))))
        exact fd _ _ ⟨(decide (fF=0)),eX.l,eX.at_,⟨r,r,r,r,r,r,r,y⟩,(b.dp [0,2,3,4,5,6]),sm b2⟩
       rw [decide_eq_false fE]
       refine sNo r (sNo r (sNo r (sNo r (sNo r (sNo r (s (xPkFB r r) (s (xAsB r) (n ?_))))))))
       exact fd _ _ ⟨false,al.l,al.at_,⟨r,r,r,r,r,r,r,y⟩,b,sm b2⟩
      clear b
      rintro f w ⟨eq,cu,d5,hf,b,gh⟩
      obtain ⟨jF,rfl⟩:=has_updL _ _ hf
      clear hf
      subst gh
      replace a:=gi a
      replace a:=pi a
      replace a:=pi a
      rcases iv a with ⟨eY,a⟩|⟨eY,a⟩
      ·refine wIfT (cb eY) (q (g (s (bd111_0 r) (sTo (aNewB b (mAlloc ti111)) ?_))))
       rintro _ jp ⟨f7,rfl,b⟩
       refine sTs (tb b 0 [V 6,V 0,V 0,T be,T be,V 0,V 0,sn,T be,V 0,sn,sn,sn] r ti111 r r r r r (show _=#[V 6,V 0,V 0,T be,T be,V 0,V 0,sn,T be,V 0,sn,sn,sn] from r)) ?_
       intro jq b
       try dsimp only [List.set] at b
       refine n (q ?_)
       replace b:=b.owL Ge 138
       obtain ⟨hT,c,a⟩:=bs a
       refine wJd (fun f w=>∃ (b6:List Ge) (aS:OA)(aT:Nat)(d6:LV)(bK:Int)(bL:Int)(bM:Int)(bN:BA) (bO:BA) (bP:Int)(bQ:Int)(b7:List Ge) (aU:OA)(aV:Nat)(aW:BA) (aX:Int)(aA:List Gs) (av:OA)(aw:Nat)(aB:List Gs) (ax:OA)(ay:Nat)(bi:List Int) (bW:Int)(bX:Int)(bY:Int)(bj:List Int) (bZ:Int)(c0:Int)(bl:List BA) (bm:List BA) (bn:List BA),Has f [(0,Pt ah),(1,V x1),(2,V x2),(7,Z B M C),(8,V Q),(12,Pt f7)]∧Bx w0 w jE G [O w0.heap.size aS aT 138 Ge d6,.box f7 111 #[V bK,V bL,V bM,T bN,T bO,V bP,V bQ,Z aU b7 aV,T aW,V aX,Z aS b6 aT,Z av aA aw,Z ax aB ay],.box E 132 #[Z x bi A,V bW],O w0.heap.size B C 111 Gs D,.box ah 135 #[Pt E,V bX,V bY,Z F bj H,Z e bl h,Z j bm m,Z o bn p,V bZ,V c0],O a4 e h 9 BA t,O ab j m 9 BA u,O ac o p 9 BA v] [.l aU aV b7,.l av aw aA,.l ax ay aB,.l x A bi,.l F H bj,.els d6 b6,.els D M,.els t bl,.els u bm,.els v bn]∧Ld.go (b6,bK,bL,bM,bN,bO,bP,bQ,b7,aW,aX,aA,aB,bi,bW,bX,bY,bj,bZ,c0,bl,bm,bn)=hT) (fun jr fe=>?_) ?_
       ·unfold F_kit_stmts_J7 at c
        refine q ?_
        obtain ⟨hU,aa,c⟩:=bs c
        refine wJd (fun f w=>∃ (er:Bool) (cv:List Ge) (c1:OA)(c2:Nat)(c3:LV)(d7:Int)(d8:Int)(d9:Int)(da:BA) (db:BA) (dc:Int)(dd:Int)(bo:List Ge) (bp:OA)(bq:Nat)(c4:BA) (c5:Int)(br:List Gs) (bu:OA)(bv:Nat)(bw:List Gs) (bz:OA)(bA:Nat)(bB:List Int) (c6:Int)(c7:Int)(c8:Int)(bC:List Int) (c9:Int)(cc:Int)(bD:List BA) (bE:List BA) (bF:List BA),Has f [(0,Pt ah),(1,V x1),(2,V x2),(7,Z B M C),(8,V Q),(12,Pt f7),(205,.bool er)]∧Bx w0 w jE G [O w0.heap.size c1 c2 138 Ge c3,.box f7 111 #[V d7,V d8,V d9,T da,T db,V dc,V dd,Z bp bo bq,T c4,V c5,Z c1 cv c2,Z bu br bv,Z bz bw bA],.box E 132 #[Z x bB A,V c6],O w0.heap.size B C 111 Gs D,.box ah 135 #[Pt E,V c7,V c8,Z F bC H,Z e bD h,Z j bE m,Z o bF p,V c9,V cc],O a4 e h 9 BA t,O ab j m 9 BA u,O ac o p 9 BA v] [.l bp bq bo,.l bu bv br,.l bz bA bw,.l x A bB,.l F H bC,.els c3 cv,.els D M,.els t bD,.els u bE,.els v bF]∧Ld.go (er,cv,d7,d8,d9,da,db,dc,dd,bo,c4,c5,br,bw,bB,c6,c7,c8,bC,c9,cc,bD,bE,bF)=hU) (fun jt ff=>?_) ?_
        ·unfold F_kit_stmts_J8 at aa
         refine g (s (mp r) (s (xn r) (s (f135_0 r) (s (l130 r (b.bk 4 r) r) ?_))))
         obtain ⟨⟨hV,eZ⟩,hW,aa⟩:=bs aa
         replace aa:=pi aa
         have hc:=(sp_kit_next fu) (b.pr [2] [0,1,3,4,5,6,7] [1] r)  hW
         refine sc (ec cal57 r) hc ?_
         rintro _ ju ⟨rfl,hK⟩
         replace b:=b.cl [2] [0,1,3,4,5,6,7] r hK r
         try dsimp only [pick,nth,ca,na] at b
         refine s (xEqlD r r) (s (xMvB r) ?_)
         rcases iv aa with ⟨fG,aa⟩|⟨fG,aa⟩
         ·rw [decide_eq_true fG]
          refine sNo r (sNo r (sNo r (s (xPkTB r r) (n ?_))))
          replace b:=b.dadd (d:=.l none 0 ([]:List Ge)) ln_
          replace b:=b.dadd (d:=.l none 0 ([]:List Gs)) ln_
          replace b:=b.dadd (d:=.l none 0 ([]:List Gs)) ln_
          exact ff _ _ ⟨true,([]:List Ge),none,0,[],6,0,0,be,be,0,0,([]:List Ge),none,0,be,0,([]:List Gs),none,0,([]:List Gs),none,0,eZ.l,eZ.at_,a5,a6,S,Y,(wr (a1 - 1)),I,J,K,⟨r,r,r,r,r,r,r,y⟩,(b.ad [1,2,0,3,4,5,6,7] [2,1,0,3,6,4,7,8,9,10]),sm aa⟩
         rw [decide_eq_false fG]
         refine sGo r (s (mp r) ?_)
         replace b:=b.dadd (d:=.l none 0 ([]:List Ge)) ln_
         replace b:=b.dadd (d:=.l none 0 ([]:List Gs)) ln_
         replace b:=b.dadd (d:=.l none 0 ([]:List Gs)) ln_
         obtain ⟨⟨fH,aM,f0,ag⟩,hX,aa⟩:=bs aa
         replace aa:=pi aa
         replace aa:=pi aa
         replace aa:=pi aa
         refine sGo r ?_
         have hc:=(sp_kit_call fu) (b.pr [4,0,5,6,7,2,1] [3] [3,6,8,9,10,2,4,1,0] r) (b.le N) (b.le U) (b.le W) b.chg.size hX
         refine sc (ec cal87 r) hc ?_
         rintro _ jv ⟨et,eu,ev,rfl,hK⟩
         replace b:=b.cl [4,0,5,6,7,2,1] [3] r hK r
         try dsimp only [pick,nth,ca,na] at b
         refine sGo r (s (xNot r) (s (xPkFB r r) (n ?_)))
         exact ff _ _ ⟨(!fH),ag.Args,et,eu,ev,ag.Kind,ag.Line,ag.Id,ag.Name,ag.Type_,ag.Len,ag.Var,ag.Target,none,0,ag.Func,ag.Callee,ag.Body,none,0,ag.Else,none,0,f0.l,f0.at_,aM.f,aM.funcs,aM.params,aM.count,aM.left,aM.scalars,aM.points,aM.arrays,⟨r,r,r,r,r,r,r,y⟩,(b.ad [6,5,1,7,0,2,3,4] [5,7,8,0,1,6,16,2,3,4]),sm aa⟩
        clear b
        rintro f w ⟨er,cv,c1,c2,c3,d7,d8,d9,da,db,dc,dd,bo,bp,bq,c4,c5,br,bu,bv,bw,bz,bA,bB,c6,c7,c8,bC,c9,cc,bD,bE,bF,hf,b,gj⟩
        obtain ⟨jF,rfl⟩:=has_updL _ _ hf
        clear hf
        subst gj
        replace c:=gi c
        replace c:=pi c
        replace c:=pi c
        replace c:=pi c
        replace c:=pi c
        replace c:=pi c
        replace c:=pi c
        replace c:=pi c
        replace c:=pi c
        replace c:=pi c
        replace c:=pi c
        replace c:=pi c
        replace c:=pi c
        replace c:=pi c
        replace c:=pi c
        replace c:=pi c
        replace c:=pi c
        replace c:=pi c
        replace c:=pi c
        replace c:=pi c
        replace c:=pi c
        replace c:=pi c
        replace c:=pi c
        replace c:=pi c
        rcases iv c with ⟨f1,c⟩|⟨f1,c⟩
        ·refine wIfT (cb f1) (g (s (mp r) ?_))
         obtain ⟨⟨a0,aN,f2⟩,hY,c⟩:=bs c
         replace c:=pi c
         replace c:=pi c
         have hc:=(sp_kit_expr fu) (b.pr [4,2,5,6,7] [0,1,3] [3,4,7,8,9] r) (b.le N) (b.le U) (b.le W) hY
         refine sc (ec cal83 r) hc ?_
         rintro _ jw ⟨bR,bS,rfl,hK⟩
         replace b:=b.cl [4,2,5,6,7] [0,1,3] r hK r
         try dsimp only [pick,nth,ca,na] at b
         refine sTo (aRowB b [[V a0.Op,V a0.Number,V a0.Var,T a0.Name,T a0.Field,Z bR a0.Args bS]] ([a0]:List Ge) (bs109_1_a r) r r (by decide) ⟨(GExpr.inn ⟨bR,bS,r,(b.dl 0 r)⟩),y⟩) ?_
         rintro _ jx ⟨fI,rfl,b⟩
         refine s (bd111_0_10 r r) (sTs (tb b 7 [V 6,V 0,V 0,T be,T be,V 0,V 0,sn,T be,V 0,.slice (ad fI) ([a0]:List Ge).length 1,sn,sn] r ti111 r r r r r (show _=#[V 6,V 0,V 0,T be,T be,V 0,V 0,sn,T be,V 0,.slice (ad fI) ([a0]:List Ge).length 1,sn,sn] from r)) ?_)
         intro i5 b
         try dsimp only [List.set] at b
         refine n ?_
         replace b:=b.dadd (d:=.l none 0 ([]:List Ge)) ln_
         replace b:=b.dadd (d:=.l none 0 ([]:List Gs)) ln_
         replace b:=b.dadd (d:=.l none 0 ([]:List Gs)) ln_
         exact fe _ _ ⟨([a0]:List Ge),(ad fI),1,[[V a0.Op,V a0.Number,V a0.Var,T a0.Name,T a0.Field,Z bR a0.Args bS]],6,0,0,be,be,0,0,([]:List Ge),none,0,be,0,([]:List Gs),none,0,([]:List Gs),none,0,f2.l,f2.at_,aN.f,aN.funcs,aN.params,aN.count,aN.left,aN.scalars,aN.points,aN.arrays,⟨r,r,r,r,r,r,y⟩,(b.ad [0,7,2,8,1,3,4,5] [2,1,0,5,6,3,16,7,8,9]),sm c⟩
        replace f1:=nt f1
        refine wIfF (cb f1) (wk ?_)
        exact fe _ _ ⟨cv,c1,c2,c3,d7,d8,d9,da,db,dc,dd,bo,bp,bq,c4,c5,br,bu,bv,bw,bz,bA,bB,c6,c7,c8,bC,c9,cc,bD,bE,bF,⟨r,r,r,r,r,r,y⟩,b,sm c⟩
       clear b
       rintro f w ⟨b6,aS,aT,d6,bK,bL,bM,bN,bO,bP,bQ,b7,aU,aV,aW,aX,aA,av,aw,aB,ax,ay,bi,bW,bX,bY,bj,bZ,c0,bl,bm,bn,hf,b,gk⟩
       obtain ⟨jF,rfl⟩:=has_updL _ _ hf
       clear hf
       subst gk
       replace a:=gi a
       replace a:=pi a
       replace a:=pi a
       replace a:=pi a
       replace a:=pi a
       replace a:=pi a
       replace a:=pi a
       replace a:=pi a
       replace a:=pi a
       replace a:=pi a
       replace a:=pi a
       replace a:=pi a
       replace a:=pi a
       replace a:=pi a
       replace a:=pi a
       replace a:=pi a
       replace a:=pi a
       replace a:=pi a
       replace a:=pi a
       replace a:=pi a
       replace a:=pi a
       replace a:=pi a
       replace a:=pi a
       refine g (s (xMvS r) (s (xLoadS [V bK,V bL,V bM,T bN,T bO,V bP,V bQ,Z aU b7 aV,T aW,V aX,Z aS b6 aT,Z av aA aw,Z ax aB ay] u111_ r ti111 r r (Cells.part (b.bk 1 r).cells (o2:=0) r)) ?_))
       replace b:=b.frz 0 5 r r
       try dsimp only [List.eraseIdx] at b
       refine sTo (aRowB b [[V bK,V bL,V bM,T bN,T bO,V bP,V bQ,Z aU b7 aV,T aW,V aX,Z aS b6 aT,Z av aA aw,Z ax aB ay]] ([(⟨bK,bL,bM,bN,bO,bP,bQ,b7,aW,aX,b6,aA,aB⟩:Gs)]:List Gs) (bs80_1_a r) r r (by decide) ⟨(GStmt.inn ⟨aU,aV,aS,aT,av,aw,ax,ay,r,(b.dl 1 r),(b.dl 0 r),(b.dl 2 r),(b.dl 3 r)⟩),y⟩) ?_
       rintro _ i6 ⟨i7,rfl,b⟩
       obtain ⟨gl,fJ,a⟩:=bs a
       refine sTo (aAppB b 3 7 r r u80_ ti111 r (by decide) (by decide) (Nat.le_refl _) r r (b.ysO 0 0 r r) fJ) ?_
       rintro _ i8 ⟨gm,gn,gp,rfl,b⟩
       refine s (xAsS r) (n (g (s (mi r) (s (xAddW r r) (s (xi r) (n ?_))))))
       exact cX n1 _ _ (Nat.lt_succ_self _) ⟨(wr (Q+1)),gl,gm,gn,gp,bX,bY,bj,bZ,c0,bi,bW,bl,e,h,t,bm,j,m,u,bn,o,p,v,⟨r,r,r,r,r,y⟩,(b.ad [3,4,2,5,6,7] [6,5,7,8,9,10]),a⟩
      replace eY:=nt eY
      refine wIfF (cb eY) (q ?_)
      obtain ⟨gq,aq,a⟩:=bs a
      refine wJd (fun f w=>∃ (de:Bool) (bG:List Int) (cd:Int),Has f [(0,Pt ah),(1,V x1),(2,V x2),(7,Z B M C),(8,V Q),(9,V cK),(214,.bool de)]∧Bx w0 w jE G [.box E 132 #[Z x bG A,V cd],O w0.heap.size B C 111 Gs D,.box ah 135 #[Pt E,V a5,V a6,Z F S H,Z e I h,Z j J m,Z o K p,V Y,V (wr (a1 - 1))],O a4 e h 9 BA t,O ab j m 9 BA u,O ac o p 9 BA v] [.l x A bG,.l F H S,.els D M,.els t I,.els u J,.els v K]∧Ld.go (de,bG,cd)=gq) (fun i9 f3=>?_) ?_
      ·unfold F_kit_stmts_J9 at aq
       refine g (s (mi r) (s (xEqlD r r) (s (xMvB r) ?_)))
       rcases iv aq with ⟨f4,aq⟩|⟨f4,aq⟩
       ·rw [decide_eq_true f4]
        refine sGo r (s (mp r) (sGo r (s (xn r) (sGo r (s (f135_0 r) (sGo r (s (l130 r (b.bk 2 r) r) ?_)))))))
        obtain ⟨⟨f8,ey⟩,gr,aq⟩:=bs aq
        replace aq:=pi aq
        refine sGo r ?_
        have hc:=(sp_kit_next fu) (b.pr [0] [1,2,3,4,5] [0] r)  gr
        refine sc (ec cal57 r) hc ?_
        rintro _ ia ⟨rfl,hK⟩
        replace b:=b.cl [0] [1,2,3,4,5] r hK r
        try dsimp only [pick,nth,ca,na] at b
        refine sGo r (s (xEqlD r r) (s (xPkTB r r) (s (xAsB r) (n ?_))))
        exact f3 _ _ ⟨(decide (f8=0)),ey.l,ey.at_,⟨r,r,r,r,r,r,r,y⟩,(b.dp [0,2,3,4,5,6]),sm aq⟩
       rw [decide_eq_false f4]
       refine sNo r (sNo r (sNo r (sNo r (sNo r (sNo r (s (xPkFB r r) (s (xAsB r) (n ?_))))))))
       exact f3 _ _ ⟨false,cu,d5,⟨r,r,r,r,r,r,r,y⟩,b,sm aq⟩
      clear b
      rintro f w ⟨de,bG,cd,hf,b,fK⟩
      obtain ⟨jF,rfl⟩:=has_updL _ _ hf
      clear hf
      subst fK
      replace a:=gi a
      replace a:=pi a
      replace a:=pi a
      rcases iv a with ⟨dh,a⟩|⟨dh,a⟩
      ·refine wIfT (cb dh) (g (s (xMvS r) (s (mp r) ?_)))
       obtain ⟨⟨aj,am,ez⟩,gt,a⟩:=bs a
       replace a:=pi a
       replace a:=pi a
       have hc:=(sp_kit_expr fu) (b.pr [2,0,3,4,5] [1] [0,1,3,4,5] r) (b.le N) (b.le U) (b.le W) gt
       refine sc (ec cal83 r) hc ?_
       rintro _ ib ⟨cw,cx,rfl,hK⟩
       replace b:=b.cl [2,0,3,4,5] [1] r hK r
       try dsimp only [pick,nth,ca,na] at b
       refine sTo (aRowB b [[V aj.Op,V aj.Number,V aj.Var,T aj.Name,T aj.Field,Z cw aj.Args cx]] ([aj]:List Ge) (bs109_1_a r) r r (by decide) ⟨(GExpr.inn ⟨cw,cx,r,(b.dl 0 r)⟩),y⟩) ?_
       rintro _ ic ⟨fg,rfl,b⟩
       refine s (bd111_0_10 r r) ?_
       replace b:=b.frz 0 0 r r
       try dsimp only [List.eraseIdx] at b
       refine sTo (aRowB b [[V 7,V 0,V 0,T be,T be,V 0,V 0,sn,T be,V 0,.slice (ad fg) ([aj]:List Ge).length 1,sn,sn]] ([(⟨7,0,0,be,be,0,0,([]:List Ge),be,0,([aj]:List Ge),([]:List Gs),([]:List Gs)⟩:Gs)]:List Gs) (bs80_1_a r) r r (by decide) ⟨(GStmt.inn ⟨none,0,(ad fg),1,none,0,none,0,r,ln_,(b.dl 0 r),ln_,ln_⟩),y⟩) ?_
       rintro _ ie ⟨ig,rfl,b⟩
       obtain ⟨gu,fL,a⟩:=bs a
       refine sTo (aAppB b 6 10 r r u80_ ti111 r (by decide) (by decide) (Nat.le_refl _) r r (b.ysO 0 0 r r) fL) ?_
       rintro _ ih ⟨gv,gw,gx,rfl,b⟩
       refine s (xAsS r) (n (g (s (mi r) (s (xAddW r r) (s (xi r) (n ?_))))))
       exact cX n1 _ _ (Nat.lt_succ_self _) ⟨(wr (Q+1)),gu,gv,gw,gx,am.f,am.funcs,am.params,am.count,am.left,ez.l,ez.at_,am.scalars,e,h,t,am.points,j,m,u,am.arrays,o,p,v,⟨r,r,r,r,r,y⟩,(b.ad [6,1,2,3,4,5] [4,3,10,5,6,7]),a⟩
      replace dh:=nt dh
      refine wIfF (cb dh) (q ?_)
      obtain ⟨gy,a9,a⟩:=bs a
      refine wJd (fun f w=>∃ (df:Bool) (ce:List Int) (dg:Int),Has f [(0,Pt ah),(1,V x1),(2,V x2),(7,Z B M C),(8,V Q),(232,.bool df)]∧Bx w0 w jE G [.box E 132 #[Z x ce A,V dg],O w0.heap.size B C 111 Gs D,.box ah 135 #[Pt E,V a5,V a6,Z F S H,Z e I h,Z j J m,Z o K p,V Y,V (wr (a1 - 1))],O a4 e h 9 BA t,O ab j m 9 BA u,O ac o p 9 BA v] [.l x A ce,.l F H S,.els D M,.els t I,.els u J,.els v K]∧Ld.go (df,ce,dg)=gy) (fun ii ew=>?_) ?_
      ·unfold F_kit_stmts_J10 at a9
       refine g (s (mi r) (s (xEqlD r r) (s (xMvB r) ?_)))
       rcases iv a9 with ⟨f5,a9⟩|⟨f5,a9⟩
       ·rw [decide_eq_true f5]
        refine sGo r (s (mp r) (sGo r (s (xn r) (sGo r (s (f135_0 r) (sGo r (s (l130 r (b.bk 2 r) r) ?_)))))))
        obtain ⟨⟨gL,cg⟩,gz,a9⟩:=bs a9
        replace a9:=pi a9
        refine sGo r ?_
        have hc:=(sp_kit_next fu) (b.pr [0] [1,2,3,4,5] [0] r)  gz
        refine sc (ec cal57 r) hc ?_
        rintro _ ij ⟨rfl,hK⟩
        replace b:=b.cl [0] [1,2,3,4,5] r hK r
        try dsimp only [pick,nth,ca,na] at b
        refine sGo r (s (xEqlD r r) (s (xPkTB r r) (s (xMvB r) ?_)))
        rcases iv a9 with ⟨f6,a9⟩|⟨f6,a9⟩
        ·rw [decide_eq_true f6]
         refine sGo r (s (mi r) (sGo r (s (xLss r r) (s (xPkTB r r) (s (xAsB r) (n ?_))))))
         exact ew _ _ ⟨(decide (x1 < 4)),cg.l,cg.at_,⟨r,r,r,r,r,r,y⟩,(b.dp [0,2,3,4,5,6]),sm a9⟩
        rw [decide_eq_false f6]
        refine sNo r (sNo r (s (xPkFB r r) (s (xAsB r) (n ?_))))
        exact ew _ _ ⟨false,cg.l,cg.at_,⟨r,r,r,r,r,r,y⟩,(b.dp [0,2,3,4,5,6]),sm a9⟩
       rw [decide_eq_false f5]
       refine sNo r (sNo r (sNo r (sNo r (sNo r (sNo r (s (xPkFB r r) (s (xMvB r) (sNo r (sNo r (s (xPkFB r r) (s (xAsB r) (n ?_))))))))))))
       exact ew _ _ ⟨false,bG,cd,⟨r,r,r,r,r,r,y⟩,b,sm a9⟩
      clear b
      rintro f w ⟨df,ce,dg,hf,b,fM⟩
      obtain ⟨jF,rfl⟩:=has_updL _ _ hf
      clear hf
      subst fM
      replace a:=gi a
      replace a:=pi a
      replace a:=pi a
      rcases iv a with ⟨di,a⟩|⟨di,a⟩
      ·refine wIfT (cb di) (g (s (xMvS r) (s (mp r) ?_)))
       obtain ⟨⟨ak,gM,gN⟩,gA,a⟩:=bs a
       replace a:=pi a
       replace a:=pi a
       have hc:=(sp_kit_expr fu) (b.pr [2,0,3,4,5] [1] [0,1,3,4,5] r) (b.le N) (b.le U) (b.le W) gA
       refine sc (ec cal83 r) hc ?_
       rintro _ ik ⟨cy,cz,rfl,hK⟩
       replace b:=b.cl [2,0,3,4,5] [1] r hK r
       try dsimp only [pick,nth,ca,na] at b
       refine sTo (aRowB b [[V ak.Op,V ak.Number,V ak.Var,T ak.Name,T ak.Field,Z cy ak.Args cz]] ([ak]:List Ge) (bs109_1_a r) r r (by decide) ⟨(GExpr.inn ⟨cy,cz,r,(b.dl 0 r)⟩),y⟩) ?_
       rintro _ il ⟨fh,rfl,b⟩
       refine s (mp r) (s (mi r) (s (xAddW r r) ?_))
       obtain ⟨⟨eA,an,eB⟩,gB,a⟩:=bs a
       replace a:=pi a
       replace a:=pi a
       have hc:=H_kit_body (b.pr [1,2,3,4,5] [0,6] [2,3,4,5,6] r) (b.le N) (b.le U) (b.le W) gB
       refine sc (ec cal84 r) hc ?_
       rintro _ im ⟨cA,cB,fN,dj,dk,dm,dn,dq,dr,dt,du,dv,rfl,hK⟩
       have ch:=b.chg.size
       replace b:=b.cl [1,2,3,4,5] [0,6] r hK r
       try dsimp only [pick,nth,ca,na] at b
       replace b:=b.reb 0 w0.heap.size r ch
       try dsimp only [List.set] at b
       refine s (bd111_0_10_11 r r r) ?_
       replace b:=b.frz 6 6 r r
       try dsimp only [List.eraseIdx] at b
       replace b:=b.frz 0 1 r r
       try dsimp only [List.eraseIdx] at b
       refine sTo (aRowB b [[V 5,V 0,V 0,T be,T be,V 0,V 0,sn,T be,V 0,.slice (ad fh) ([ak]:List Ge).length 1,Z cA eA cB,sn]] ([(⟨5,0,0,be,be,0,0,([]:List Ge),be,0,([ak]:List Ge),eA,([]:List Gs)⟩:Gs)]:List Gs) (bs80_1_a r) r r (by decide) ⟨(GStmt.inn ⟨none,0,(ad fh),1,cA,cB,none,0,r,ln_,(b.dl 1 r),(b.dl 0 r),ln_⟩),y⟩) ?_
       rintro _ io ⟨ip,rfl,b⟩
       obtain ⟨gC,fO,a⟩:=bs a
       refine sTo (aAppB b 6 16 r r u80_ ti111 r (by decide) (by decide) (Nat.le_refl _) r r (b.ysO 0 0 r r) fO) ?_
       rintro _ iq ⟨gD,gE,gF,rfl,b⟩
       refine s (xAsS r) (n (g (s (mi r) (s (xAddW r r) (s (xi r) (n ?_))))))
       exact cX n1 _ _ (Nat.lt_succ_self _) ⟨(wr (Q+1)),gC,gD,gE,gF,an.f,an.funcs,an.params,an.count,an.left,eB.l,eB.at_,an.scalars,dj,dk,dm,an.points,dn,dq,dr,an.arrays,dt,du,dv,⟨r,r,r,r,r,y⟩,(b.ad [6,1,2,3,4,5] [4,3,16,5,6,7]),a⟩
      replace di:=nt di
      refine wIfF (cb di) (g (s (xMvS r) (s (mp r) ?_)))
      obtain ⟨⟨X,ao,eC⟩,gG,a⟩:=bs a
      replace a:=pi a
      replace a:=pi a
      have hc:=(sp_kit_assign fu) (b.pr [2,0,3,4,5] [1] [0,1,3,4,5] r) (b.le N) (b.le U) (b.le W) gG
      refine sc (ec cal88 r) hc ?_
      rintro _ ir ⟨cC,cD,cE,cF,cG,cH,cI,cJ,rfl,hK⟩
      replace b:=b.cl [2,0,3,4,5] [1] r hK r
      try dsimp only [pick,nth,ca,na] at b
      refine sTo (aRowB b [[V X.Kind,V X.Line,V X.Id,T X.Name,T X.Type_,V X.Len,V X.Var,Z cC X.Target cD,T X.Func,V X.Callee,Z cE X.Args cF,Z cG X.Body cH,Z cI X.Else cJ]] ([X]:List Gs) (bs80_1_a r) r r (by decide) ⟨(GStmt.inn ⟨cC,cD,cE,cF,cG,cH,cI,cJ,r,(b.dl 0 r),(b.dl 1 r),(b.dl 2 r),(b.dl 3 r)⟩),y⟩) ?_
      rintro _ it ⟨iu,rfl,b⟩
      obtain ⟨gH,fP,a⟩:=bs a
      refine sTo (aAppB b 6 12 r r u80_ ti111 r (by decide) (by decide) (Nat.le_refl _) r r (b.ysO 0 0 r r) fP) ?_
      rintro _ iw ⟨gI,gJ,gK,rfl,b⟩
      refine s (xAsS r) (n (g (s (mi r) (s (xAddW r r) (s (xi r) (n ?_))))))
      exact cX n1 _ _ (Nat.lt_succ_self _) ⟨(wr (Q+1)),gH,gI,gJ,gK,ao.f,ao.funcs,ao.params,ao.count,ao.left,eC.l,eC.at_,ao.scalars,e,h,t,ao.points,j,m,u,ao.arrays,o,p,v,⟨r,r,r,r,r,y⟩,(b.ad [6,1,2,3,4,5] [6,5,12,7,8,9]),a⟩
     replace h6:=nt h6
     refine wIfF (cb h6) (wEx ?_)
     exact fi _ _ ⟨Q,M,B,C,D,a5,a6,S,Y,a1,aC,aY,I,e,h,t,J,j,m,u,K,o,p,v,⟨r,y⟩,(b.ad [1,2,0,3,4,5] [1,2,3,4,5,6]),sm a⟩
    rw [decide_eq_false h4]
    refine sNo r (sNo r (sNo r (sNo r (sNo r (s (xPkFB r r) (n (wIfF r (wEx ?_))))))))
    exact fi _ _ ⟨Q,M,B,C,D,a5,a6,S,Y,a1,aC,aY,I,e,h,t,J,j,m,u,K,o,p,v,⟨r,y⟩,b,sm a⟩
   rw [decide_eq_false h3]
   refine sNo r (sNo r (sNo r (sNo r (sNo r (s (xPkFB r r) (s (xMvB r) (sNo r (sNo r (sNo r (sNo r (sNo r (s (xPkFB r r) (n ?_)))))))))))))
   refine wIfF r (wEx ?_)
   exact fi _ _ ⟨Q,M,B,C,D,a5,a6,S,Y,a1,aC,aY,I,e,h,t,J,j,m,u,K,o,p,v,⟨r,y⟩,b,sm a⟩
 clear b
 rintro f w ⟨Q,M,B,C,D,a5,a6,S,Y,a1,aC,aY,I,e,h,t,J,j,m,u,K,o,p,v,hf,b,hZ⟩
 obtain ⟨jF,rfl⟩:=has_updL _ _ hf
 clear hf
 subst hZ
 replace hM:=gi hM
 replace hM:=pi hM
 replace hM:=pi hM
 replace hM:=pi hM
 replace hM:=pi hM
 replace hM:=pi hM
 replace hM:=pi hM
 replace hM:=pi hM
 replace hM:=pi hM
 replace hM:=pi hM
 replace hM:=pi hM
 replace hM:=pi hM
 refine q (g (s (xMvS r) (s (xAsS r) (n (wRt ?_)))))
 obtain rfl:=sm hM
 refine resV1 r (rdT r) ?_
 exact pok (pok (⟨B,C,D,e,h,t,j,m,u,o,p,v,r,(b.dp [2,1,0,3,4,5])⟩))
theorem sps_kit_body (fu:Nat):Ct_kit_body (m_kit_body fu)∧Ct_kit_loop (m_kit_loop fu)∧Ct_kit_stmts (m_kit_stmts fu):=by
 induction fu with
 | zero=>exact ⟨by intro a b;intros;exact nn (by assumption),by intro a b;intros;exact nn (by assumption),by intro a b;intros;exact nn (by assumption)⟩
 | succ fu ih=>exact ⟨wk_kit_body fu (m_kit_stmts fu) (m_kit_body fu) (m_kit_loop fu) ih.2.2 ih.1 ih.2.1,wk_kit_loop fu (m_kit_stmts fu) (m_kit_body fu) (m_kit_loop fu) ih.2.2 ih.1 ih.2.1,wk_kit_stmts fu (m_kit_stmts fu) (m_kit_body fu) (m_kit_loop fu) ih.2.2 ih.1 ih.2.1⟩
theorem sp_kit_stmts (fu:Nat):Ct_kit_stmts (m_kit_stmts fu):=(sps_kit_body fu).2.2
def Ct_kit_Program (m:(List Int)→Option (GProgram)):Prop:=∀ {i:World} {k:Nat→Prop} {j:(List Int)} {a:Option Addr} {b:Nat} {h:GProgram},Pre i k [] [.l a b j]→m j=some h→
 Calls Try.prog 43 #[Z a j b] i (Ret fun v w=>∃ (c:OA)(d:Nat)(e:OA)(f:Nat),v=.agg #[Z c h.Records d,Z e h.Funcs f]∧Bx i w k (Gof []) [] [.l c d h.Records,.l e f h.Funcs])
def m_kit_Program_J1 (fu:Nat)(a:Int):Option (Ld (Int) (GProgram)):=
 if 0 < a then
  some (.go 6)
 else
  some (.go 10)
def m_kit_Program_J2 (fu:Nat)(a:(List Gs)) (b:Gm) (c:GTape):Option (Ld (List Gs × List Int × Int) (GProgram)):=
 if 0 < (b.scalars.length:Int) then
  (m_kit_next fu c 3).bind fun m=>
  pel m fun f d=>
  if 0 < f then
   (m_kit_next fu d (b.scalars.length:Int)).bind fun m=>
   pel m fun h e=>
   (ix b.scalars h).bind fun j=>
   (m_kit_variable fu j).bind fun i=>
   (app a ([(⟨6,0,0,be,be,0,0,([]:List Ge),be,0,([i]:List Ge),([]:List Gs),([]:List Gs)⟩:Gs)]:List Gs)).bind fun k=>
   some (.go (k,e.l,e.at_))
  else
   some (.go (a,d.l,d.at_))
 else
  some (.go (a,c.l,c.at_))
def m_kit_Program_L0 (fu:Nat)(d:Int)(e:Int)(b:Int)(c:Int):Nat→Int→(List Gn)→(List Int)→Int→Option (Ld (Int × List Gn × List Int × Int) (GProgram))
 | 0,_,_,_,_=>none
 | w+1,a,f,h,i=>
 if a < (wr (1+d)) then
  (ix ([2,e,b,c]:List Int) a).bind fun x=>
  (ix ([(⟨#[102]⟩:BA),(⟨#[103]⟩:BA),(⟨#[104]⟩:BA),(⟨#[107]⟩:BA)]:List BA) a).bind fun z=>
  (sl ([(⟨#[97]⟩:BA),(⟨#[98]⟩:BA),(⟨#[99]⟩:BA),(⟨#[100]⟩:BA)]:List BA) 0 x).bind fun v=>
  (app ([]:List BA) v).bind fun A=>
  (m_kit_Program_J1 fu a).bind fun D=>D.el (fun j=>
  (m_kit_stmts fu (⟨a,(wr (1+d)),([2,e,b,c]:List Int),A,([]:List BA),([]:List BA),0,22⟩:Gm) (⟨h,i⟩:GTape) 1 j).bind fun D=>
  pel D fun k D=>pel D fun l m=>
  (m_kit_Program_J2 fu k l m).bind fun D=>D.el (fun D=>
  pel D fun p D=>pel D fun t u=>
  (app p ([(⟨10,0,0,be,be,0,0,([]:List Ge),be,0,([]:List Ge),([]:List Gs),([]:List Gs)⟩:Gs)]:List Gs)).bind fun B=>
  (app f ([(⟨z,0,v,B⟩:Gn)]:List Gn)).bind fun C=>
  m_kit_Program_L0 fu d e b c w (wr (a+1)) C t u
  ) (fun o=>some (.out o))
  ) (fun o=>some (.out o))
 else
  some (.go (a,f,h,i))
def m_kit_Program (fu:Nat)(t:(List Int)):Option (GProgram):=
 (m_kit_next fu (⟨t,0⟩:GTape) 4).bind fun u=>
 pel u fun f h=>
 (m_kit_next fu h 3).bind fun u=>
 pel u fun i j=>
 (m_kit_next fu j 4).bind fun u=>
 pel u fun b c=>
 (m_kit_next fu c 5).bind fun u=>
 pel u fun d a=>
 (m_kit_Program_L0 fu f i b d fu 0 ([]:List Gn) a.l a.at_).bind fun u=>u.el (fun u=>
 pel u fun k u=>pel u fun e u=>pel u fun m p=>
 some (⟨([(⟨(⟨#[80]⟩:BA),([(⟨#[120]⟩:BA),(⟨#[121]⟩:BA)]:List BA)⟩:Gr)]:List Gr),e⟩:GProgram)
 ) (fun o=>some o)
theorem sp_kit_Program (fu:Nat):Ct_kit_Program (m_kit_Program fu):=by
 intro w0 dA x0 D E r0 hP R
 unfold m_kit_Program at R
 have a:=hP.bx
 clear hP
 generalize hG:Gof _=G at a ⊢
 refine cf Try.func43 r ?_
 refine wCut [(0,Z D x0 E)] ⟨r,y⟩ fun dB=>?_
 refine q (g (sTo (aNewB a (mAlloc ti26)) ?_))
 rintro _ w1 ⟨b1,rfl,a⟩
 refine n (q (g (s (xMvS r) (s (bd132_0 r) (sTo (aNewB a (mBox r)) ?_)))))
 rintro _ w2 ⟨b2,rfl,a⟩
 refine s (xAsP r) (n (q (g (sTo (aRowB a [[T (⟨#[120]⟩:BA)],[T (⟨#[121]⟩:BA)]] ([(⟨#[120]⟩:BA),(⟨#[121]⟩:BA)]:List BA) (bs70_2_a r r) r r (by decide) ⟨r,⟨r,y⟩⟩) ?_))))
 rintro _ w3 ⟨b3,rfl,a⟩
 refine s (bd127_0_1 r r) ?_
 replace a:=a.frz 0 0 r r
 try dsimp only [List.eraseIdx] at a
 refine sTo (aRowB a [[T (⟨#[80]⟩:BA),.slice (ad b3) ([(⟨#[120]⟩:BA),(⟨#[121]⟩:BA)]:List BA).length 2]] ([(⟨(⟨#[80]⟩:BA),([(⟨#[120]⟩:BA),(⟨#[121]⟩:BA)]:List BA)⟩:Gr)]:List Gr) (bs23_1_a r) r r (by decide) ⟨(GRecord.inn ⟨(ad b3),2,r,(a.dl 0 r)⟩),y⟩) ?_
 rintro _ w5 ⟨b5,rfl,a⟩
 refine s (bd26_0 r) (sTo (aNewB a (mAlloc ti26)) ?_)
 rintro _ w6 ⟨b6,rfl,a⟩
 refine sTs (tb a 0 [.slice (ad b5) ([(⟨(⟨#[80]⟩:BA),([(⟨#[120]⟩:BA),(⟨#[121]⟩:BA)]:List BA)⟩:Gr)]:List Gr).length 1,sn] r ti26 r r r r r (show _=#[.slice (ad b5) ([(⟨(⟨#[80]⟩:BA),([(⟨#[120]⟩:BA),(⟨#[121]⟩:BA)]:List BA)⟩:Gr)]:List Gr).length 1,sn] from r)) ?_
 intro w7 a
 try dsimp only [List.set] at a
 refine n (q (g (s (mp r) ?_)))
 obtain ⟨⟨S,bY⟩,h8,R⟩:=bs R
 replace R:=pi R
 have hc:=(sp_kit_next fu) (a.pr [2] [0,1,3] [2] r)  h8
 refine sc (ec cal57 r) hc ?_
 rintro _ w8 ⟨rfl,hK⟩
 replace a:=a.cl [2] [0,1,3] r hK r
 try dsimp only [pick,nth,ca,na] at a
 refine s (xAddW r r) (s (xi r) (n (q (g (s (mp r) ?_)))))
 obtain ⟨⟨F,bZ⟩,h9,R⟩:=bs R
 replace R:=pi R
 have hc:=(sp_kit_next fu) (a.pr [0] [1,2,3] [0] r)  h9
 refine sc (ec cal57 r) hc ?_
 rintro _ w9 ⟨rfl,hK⟩
 replace a:=a.cl [0] [1,2,3] r hK r
 try dsimp only [pick,nth,ca,na] at a
 refine s (mp r) ?_
 obtain ⟨⟨v,bw⟩,bz,R⟩:=bs R
 replace R:=pi R
 have hc:=(sp_kit_next fu) (a.pr [0] [1,2,3] [0] r)  bz
 refine sc (ec cal57 r) hc ?_
 rintro _ c4 ⟨rfl,hK⟩
 replace a:=a.cl [0] [1,2,3] r hK r
 try dsimp only [pick,nth,ca,na] at a
 refine s (mp r) ?_
 obtain ⟨⟨x,an⟩,bA,R⟩:=bs R
 replace R:=pi R
 have hc:=(sp_kit_next fu) (a.pr [0] [1,2,3] [0] r)  bA
 refine sc (ec cal57 r) hc ?_
 rintro _ c5 ⟨rfl,hK⟩
 replace a:=a.cl [0] [1,2,3] r hK r
 try dsimp only [pick,nth,ca,na] at a
 refine sTo (aRowB a [[V 2],[V F],[V v],[V x]] ([2,F,v,x]:List Int) (bs22_4_a r r r r) r r (by decide) ⟨r,⟨r,⟨r,⟨r,y⟩⟩⟩⟩) ?_
 rintro _ c6 ⟨W,rfl,a⟩
 refine s (xAsS r) (n (q (q (g (s (xi r) (n ?_))))))
 replace a:=a.frz 0 0 r r
 try dsimp only [List.eraseIdx] at a
 replace a:=a.owL Gn 82
 obtain ⟨bb,c,R⟩:=bs R
 refine wJd (fun f w=>∃ (A:Int)(p:List Gn) (e:OA)(j:Nat)(t:LV)(B:List Int) (H:Int),Has f [(2,Pt b1),(4,Pt b6)]∧Bx w0 w dA G [O w0.heap.size e j 82 Gn t,.box b2 132 #[Z D B E,V H],.box b6 26 #[.slice (ad b5) ([(⟨(⟨#[80]⟩:BA),([(⟨#[120]⟩:BA),(⟨#[121]⟩:BA)]:List BA)⟩:Gr)]:List Gr).length 1,Z e p j],O w0.heap.size (ad b5) 1 127 Gr [[T (⟨#[80]⟩:BA),.slice (ad b3) ([(⟨#[120]⟩:BA),(⟨#[121]⟩:BA)]:List BA).length 2]],.box b1 26 #[sn,sn]] [.l D E B,.els t p,.l (ad W) 4 ([2,F,v,x]:List Int),.els [[T (⟨#[80]⟩:BA),.slice (ad b3) ([(⟨#[120]⟩:BA),(⟨#[121]⟩:BA)]:List BA).length 2]] ([(⟨(⟨#[80]⟩:BA),([(⟨#[120]⟩:BA),(⟨#[121]⟩:BA)]:List BA)⟩:Gr)]:List Gr)]∧Ld.go (A,p,B,H)=bb) (fun c7 bc=>?_) ?_
 ·refine wBk (wLoopGd (fun dC f w=>∃ (A:Int)(p:List Gn) (e:OA)(j:Nat)(t:LV)(B:List Int) (H:Int),Has f [(2,Pt b1),(3,Pt b2),(4,Pt b6),(5,V (wr (1+S))),(6,.slice (ad W) ([2,F,v,x]:List Int).length 4),(7,V A)]∧Bx w0 w dA G [O w0.heap.size e j 82 Gn t,.box b2 132 #[Z D B E,V H],.box b6 26 #[.slice (ad b5) ([(⟨(⟨#[80]⟩:BA),([(⟨#[120]⟩:BA),(⟨#[121]⟩:BA)]:List BA)⟩:Gr)]:List Gr).length 1,Z e p j],O w0.heap.size (ad b5) 1 127 Gr [[T (⟨#[80]⟩:BA),.slice (ad b3) ([(⟨#[120]⟩:BA),(⟨#[121]⟩:BA)]:List BA).length 2]],.box b1 26 #[sn,sn]] [.l D E B,.els t p,.l (ad W) 4 ([2,F,v,x]:List Int),.els [[T (⟨#[80]⟩:BA),.slice (ad b3) ([(⟨#[120]⟩:BA),(⟨#[121]⟩:BA)]:List BA).length 2]] ([(⟨(⟨#[80]⟩:BA),([(⟨#[120]⟩:BA),(⟨#[121]⟩:BA)]:List BA)⟩:Gr)]:List Gr)]∧m_kit_Program_L0 fu S F v x dC A p B H=some bb) fu ⟨0,([]:List Gn),none,0,[],an.l,an.at_,⟨r,r,r,r,r,r,y⟩,(a.dp [2,0,1,6]),c⟩ ?_)
  clear a c
  rintro aL f w ⟨A,p,e,j,t,B,H,hf,a,c⟩ c8 bd
  obtain ⟨dB,rfl⟩:=has_updL _ _ hf
  clear hf
  cases aL with
  | zero=>exact nn c
  | succ aL=>
   rw [m_kit_Program_L0] at c
   refine q (q (g (s (mi r) (s (mi r) (s (xLss r r) (n ?_))))))
   rcases iv c with ⟨aM,c⟩|⟨aM,c⟩
   ·refine wIfT (bt aM) (wk (q (wBk (q (g (s (mp r) (s (mi r) (s (mi r) (s (xMvS r) (s (bd135_0_1_2_3_8 r r r r r) (sTo (aNewB a (mBox r)) ?_)))))))))))
    rintro _ c9 ⟨aG,rfl,a⟩
    refine s (xAsP r) (n (q ?_))
    obtain ⟨bB,aj,c⟩:=bs c
    obtain ⟨cc,bg,aj⟩:=ix_inv aj
    obtain ⟨m,C,c⟩:=bs c
    obtain ⟨cd,af,C⟩:=ix_inv C
    obtain ⟨o,bh,c⟩:=bs c
    obtain ⟨bC,a1,c0,Q,bD,L,ao⟩:=sl_inv bh
    obtain rfl:bC=0:=by omega
    have J:o.length=a1:=by rw [← ao,List.length_take,List.length_drop];omega
    refine wJd (fun f w=>∃ (a6:Nat)(I:Nat),Has f [(2,Pt b1),(3,Pt b2),(4,Pt b6),(5,V (wr (1+S))),(6,.slice (ad W) ([2,F,v,x]:List Int).length 4),(7,V A),(8,Pt aG),(9,Pt a6)]∧Bx w0 w dA G [.box aG 135 #[Pt b2,V A,V (wr (1+S)),.slice (ad W) ([2,F,v,x]:List Int).length 4,sn,sn,sn,V 0,V 22],O w0.heap.size e j 82 Gn t,.box b2 132 #[Z D B E,V H],.box b6 26 #[.slice (ad b5) ([(⟨(⟨#[80]⟩:BA),([(⟨#[120]⟩:BA),(⟨#[121]⟩:BA)]:List BA)⟩:Gr)]:List Gr).length 1,Z e p j],O w0.heap.size (ad b5) 1 127 Gr [[T (⟨#[80]⟩:BA),.slice (ad b3) ([(⟨#[120]⟩:BA),(⟨#[121]⟩:BA)]:List BA).length 2]],.box b1 26 #[sn,sn],O w0.heap.size (ad I) 4 9 BA [[T (⟨#[97]⟩:BA)],[T (⟨#[98]⟩:BA)],[T (⟨#[99]⟩:BA)],[T (⟨#[100]⟩:BA)]],.box a6 82 #[T m,V 0,.slice (ad I) o.length 4,sn]] [.l D E B,.els t p,.l (ad W) 4 ([2,F,v,x]:List Int),.els [[T (⟨#[80]⟩:BA),.slice (ad b3) ([(⟨#[120]⟩:BA),(⟨#[121]⟩:BA)]:List BA).length 2]] ([(⟨(⟨#[80]⟩:BA),([(⟨#[120]⟩:BA),(⟨#[121]⟩:BA)]:List BA)⟩:Gr)]:List Gr),.els [[T (⟨#[97]⟩:BA)],[T (⟨#[98]⟩:BA)],[T (⟨#[99]⟩:BA)],[T (⟨#[100]⟩:BA)]] ([(⟨#[97]⟩:BA),(⟨#[98]⟩:BA),(⟨#[99]⟩:BA),(⟨#[100]⟩:BA)]:List BA)]) (fun Jd hJd=>?_) ?_
    ·refine wDr1 a [] [2] [] (by kernel_rfl) ?_
     replace a:=a.drew
     have b:=(a.ad [] [2])
     refine pF 1 r (mi r) b (pF 5 r (xMvS r) b (pF 6 r (mi r) b (pF 7 r (xIdR u22_ ti3 r r bg (a.dl 2 r) aj) b (tU 8 r (fun _ hS=>xLoad u3_ r r ((elF (ds:=[V bB]) (hS.dl 0 r) aj (fun _ h=>h)) 0 _ r)) (sF b) ?_))))
     refine hList' 0 [4,11] (by kernel_rfl) (om_cons' ?_ (om_cons' ?_ (om_cons' ?_ om_nil')))
     ·refine oo r r (aRowB a [[T (⟨#[102]⟩:BA)],[T (⟨#[103]⟩:BA)],[T (⟨#[104]⟩:BA)],[T (⟨#[107]⟩:BA)]] ([(⟨#[102]⟩:BA),(⟨#[103]⟩:BA),(⟨#[104]⟩:BA),(⟨#[107]⟩:BA)]:List BA) (bs70_4_a r r r r) r r (by decide) ⟨r,⟨r,⟨r,⟨r,y⟩⟩⟩⟩) ?_
      rintro _ ce ⟨cg,rfl,a⟩
      have b:=(a.ad [] [3])
      refine ⟨(sF b),?_⟩
      refine pF 2 r (xIdR u70_ ti9 r r af (a.vw 0 0 r r) C) b ?_
      refine hList' 3 [4,11] (by kernel_rfl) (om_cons' ?_ (om_cons' ?_ (om_cons' ?_ om_nil')))
      ·have b:=(a.ad [] [3])
       refine oRun' r r (xLoad u9_ r r ((elF (ds:=[T m]) (a.vw 0 0 r r) C (fun _ h=>h)) 0 _ r)) (sF b) ?_
       refine hList' 4 [11] (by kernel_rfl) (om_cons' ?_ (om_cons' ?_ om_nil'))
       ·refine oo r r (aRowB a [[T (⟨#[97]⟩:BA)],[T (⟨#[98]⟩:BA)],[T (⟨#[99]⟩:BA)],[T (⟨#[100]⟩:BA)]] ([(⟨#[97]⟩:BA),(⟨#[98]⟩:BA),(⟨#[99]⟩:BA),(⟨#[100]⟩:BA)]:List BA) (bs70_4_a r r r r) r r (by decide) ⟨r,⟨r,⟨r,⟨r,y⟩⟩⟩⟩) ?_
        rintro _ ch ⟨I,rfl,a⟩
        have b:=(a.ad [] [4])
        refine ⟨(sF b),?_⟩
        refine tP 9 r (fun _=>show Yl _ _ _ _ _ _ _ _ _ (.slice (some ⟨I,0,none⟩) o.length 4) from (congrArg (fun z=>Value.slice (some ⟨I,0,none⟩) z 4) J).symm ▸ xSlcH a1 u70_ ti9 r r Q (Nat.le_trans L ((a.vw 0 0 r r)).cap)) (sF b) (pF 10 r (bd82_0_2 r r) b ?_)
        refine hO 11 (oo r r (aNewB a (mAlloc ti82)) ?_)
        rintro _ ci ⟨a6,rfl,a⟩
        have b:=(a.ad [] [4])
        refine ⟨(sF b),?_⟩
        refine hO 12 (os r r (tb a 0 [T m,V 0,.slice (ad I) o.length 4,sn] r ti82 r r r r r (show _=#[T m,V 0,.slice (ad I) o.length 4,sn] from r)) ?_)
        intro cj a
        try dsimp only [List.set] at a
        have b:=(a.ad [] [4])
        refine ⟨(sF b),?_⟩
        refine hD ?_
        exact hJd _ _ ⟨a6,I,⟨r,r,r,r,r,r,r,r,y⟩,(a.ad [3,4,5,6,7,8,1,0] [2,3,4,5,0])⟩
       refine oo r r (aNewB a (mAlloc ti82)) ?_
       rintro _ ck ⟨bE,rfl,a⟩
       have b:=(a.ad [] [3])
       refine ⟨(sF b),?_⟩
       refine hO 4 (oo r r (aRowB a [[T (⟨#[97]⟩:BA)],[T (⟨#[98]⟩:BA)],[T (⟨#[99]⟩:BA)],[T (⟨#[100]⟩:BA)]] ([(⟨#[97]⟩:BA),(⟨#[98]⟩:BA),(⟨#[99]⟩:BA),(⟨#[100]⟩:BA)]:List BA) (bs70_4_a r r r r) r r (by decide) ⟨r,⟨r,⟨r,⟨r,y⟩⟩⟩⟩) ?_)
       rintro _ cm ⟨ap,rfl,a⟩
       have b:=(a.ad [] [4])
       refine ⟨(sF b),?_⟩
       refine tP 9 r (fun _=>show Yl _ _ _ _ _ _ _ _ _ (.slice (some ⟨ap,0,none⟩) o.length 4) from (congrArg (fun z=>Value.slice (some ⟨ap,0,none⟩) z 4) J).symm ▸ xSlcH a1 u70_ ti9 r r Q (Nat.le_trans L ((a.vw 0 0 r r)).cap)) (sF b) (pF 10 r (bd82_0_2 r r) b ?_)
       refine hO 12 (os r r (tb a 1 [T m,V 0,.slice (ad ap) o.length 4,sn] r ti82 r r r r r (show _=#[T m,V 0,.slice (ad ap) o.length 4,sn] from r)) ?_)
       intro cn a
       try dsimp only [List.set] at a
       have b:=(a.ad [] [4])
       refine ⟨(sF b),?_⟩
       refine hD ?_
       exact hJd _ _ ⟨bE,ap,⟨r,r,r,r,r,r,r,r,y⟩,(a.ad [3,4,5,6,7,8,0,1] [2,3,4,5,0])⟩
      ·refine oo r r (aRowB a [[T (⟨#[97]⟩:BA)],[T (⟨#[98]⟩:BA)],[T (⟨#[99]⟩:BA)],[T (⟨#[100]⟩:BA)]] ([(⟨#[97]⟩:BA),(⟨#[98]⟩:BA),(⟨#[99]⟩:BA),(⟨#[100]⟩:BA)]:List BA) (bs70_4_a r r r r) r r (by decide) ⟨r,⟨r,⟨r,⟨r,y⟩⟩⟩⟩) ?_
       rintro _ co ⟨ag,rfl,a⟩
       have b:=(a.ad [] [4])
       refine ⟨(sF b),?_⟩
       refine tP 9 r (fun _=>show Yl _ _ _ _ _ _ _ _ _ (.slice (some ⟨ag,0,none⟩) o.length 4) from (congrArg (fun z=>Value.slice (some ⟨ag,0,none⟩) z 4) J).symm ▸ xSlcH a1 u70_ ti9 r r Q (Nat.le_trans L ((a.vw 0 0 r r)).cap)) (sF b) ?_
       refine hList' 3 [11] (by kernel_rfl) (om_cons' ?_ (om_cons' ?_ om_nil'))
       ·have b:=(a.ad [] [4])
        refine oRun' r r (xLoad u9_ r r ((elF (ds:=[T m]) (a.vw 1 1 r r) C (fun _ h=>h)) 0 _ r)) (sF b) (pF 10 r (bd82_0_2 r r) b ?_)
        refine hO 11 (oo r r (aNewB a (mAlloc ti82)) ?_)
        rintro _ cp ⟨bF,rfl,a⟩
        have b:=(a.ad [] [4])
        refine ⟨(sF b),?_⟩
        refine hO 12 (os r r (tb a 0 [T m,V 0,.slice (ad ag) o.length 4,sn] r ti82 r r r r r (show _=#[T m,V 0,.slice (ad ag) o.length 4,sn] from r)) ?_)
        intro cq a
        try dsimp only [List.set] at a
        have b:=(a.ad [] [4])
        refine ⟨(sF b),?_⟩
        refine hD ?_
        exact hJd _ _ ⟨bF,ag,⟨r,r,r,r,r,r,r,r,y⟩,(a.ad [3,4,5,6,7,8,1,0] [2,3,4,5,0])⟩
       refine oo r r (aNewB a (mAlloc ti82)) ?_
       rintro _ cr ⟨bG,rfl,a⟩
       have b:=(a.ad [] [4])
       refine ⟨(sF b),?_⟩
       refine hO 3 (oRun' r r (xLoad u9_ r r ((elF (ds:=[T m]) (a.vw 2 1 r r) C (fun _ h=>h)) 0 _ r)) (sF b) ?_)
       refine pF 10 r (bd82_0_2 r r) b ?_
       refine hO 12 (os r r (tb a 0 [T m,V 0,.slice (ad ag) o.length 4,sn] r ti82 r r r r r (show _=#[T m,V 0,.slice (ad ag) o.length 4,sn] from r)) ?_)
       intro ct a
       try dsimp only [List.set] at a
       have b:=(a.ad [] [4])
       refine ⟨(sF b),?_⟩
       refine hD ?_
       exact hJd _ _ ⟨bG,ag,⟨r,r,r,r,r,r,r,r,y⟩,(a.ad [3,4,5,6,7,8,1,0] [2,3,4,5,0])⟩
      refine oo r r (aNewB a (mAlloc ti82)) ?_
      rintro _ cu ⟨bi,rfl,a⟩
      have b:=(a.ad [] [3])
      refine ⟨(sF b),?_⟩
      refine hList' 3 [4] (by kernel_rfl) (om_cons' ?_ (om_cons' ?_ om_nil'))
      ·have b:=(a.ad [] [3])
       refine oRun' r r (xLoad u9_ r r ((elF (ds:=[T m]) (a.vw 1 0 r r) C (fun _ h=>h)) 0 _ r)) (sF b) ?_
       refine hO 4 (oo r r (aRowB a [[T (⟨#[97]⟩:BA)],[T (⟨#[98]⟩:BA)],[T (⟨#[99]⟩:BA)],[T (⟨#[100]⟩:BA)]] ([(⟨#[97]⟩:BA),(⟨#[98]⟩:BA),(⟨#[99]⟩:BA),(⟨#[100]⟩:BA)]:List BA) (bs70_4_a r r r r) r r (by decide) ⟨r,⟨r,⟨r,⟨r,y⟩⟩⟩⟩) ?_)
       rintro _ cv ⟨aq,rfl,a⟩
       have b:=(a.ad [] [4])
       refine ⟨(sF b),?_⟩
       refine tP 9 r (fun _=>show Yl _ _ _ _ _ _ _ _ _ (.slice (some ⟨aq,0,none⟩) o.length 4) from (congrArg (fun z=>Value.slice (some ⟨aq,0,none⟩) z 4) J).symm ▸ xSlcH a1 u70_ ti9 r r Q (Nat.le_trans L ((a.vw 0 0 r r)).cap)) (sF b) (pF 10 r (bd82_0_2 r r) b ?_)
       refine hO 12 (os r r (tb a 1 [T m,V 0,.slice (ad aq) o.length 4,sn] r ti82 r r r r r (show _=#[T m,V 0,.slice (ad aq) o.length 4,sn] from r)) ?_)
       intro cw a
       try dsimp only [List.set] at a
       have b:=(a.ad [] [4])
       refine ⟨(sF b),?_⟩
       refine hD ?_
       exact hJd _ _ ⟨bi,aq,⟨r,r,r,r,r,r,r,r,y⟩,(a.ad [3,4,5,6,7,8,0,1] [2,3,4,5,0])⟩
      refine oo r r (aRowB a [[T (⟨#[97]⟩:BA)],[T (⟨#[98]⟩:BA)],[T (⟨#[99]⟩:BA)],[T (⟨#[100]⟩:BA)]] ([(⟨#[97]⟩:BA),(⟨#[98]⟩:BA),(⟨#[99]⟩:BA),(⟨#[100]⟩:BA)]:List BA) (bs70_4_a r r r r) r r (by decide) ⟨r,⟨r,⟨r,⟨r,y⟩⟩⟩⟩) ?_
      rintro _ cx ⟨ar,rfl,a⟩
      have b:=(a.ad [] [4])
      refine ⟨(sF b),?_⟩
      refine tP 9 r (fun _=>show Yl _ _ _ _ _ _ _ _ _ (.slice (some ⟨ar,0,none⟩) o.length 4) from (congrArg (fun z=>Value.slice (some ⟨ar,0,none⟩) z 4) J).symm ▸ xSlcH a1 u70_ ti9 r r Q (Nat.le_trans L ((a.vw 0 0 r r)).cap)) (sF b) ?_
      refine hO 3 (oRun' r r (xLoad u9_ r r ((elF (ds:=[T m]) (a.vw 2 1 r r) C (fun _ h=>h)) 0 _ r)) (sF b) ?_)
      refine pF 10 r (bd82_0_2 r r) b ?_
      refine hO 12 (os r r (tb a 1 [T m,V 0,.slice (ad ar) o.length 4,sn] r ti82 r r r r r (show _=#[T m,V 0,.slice (ad ar) o.length 4,sn] from r)) ?_)
      intro cy a
      try dsimp only [List.set] at a
      have b:=(a.ad [] [4])
      refine ⟨(sF b),?_⟩
      refine hD ?_
      exact hJd _ _ ⟨bi,ar,⟨r,r,r,r,r,r,r,r,y⟩,(a.ad [3,4,5,6,7,8,0,1] [2,3,4,5,0])⟩
     ·refine oo r r (aRowB a [[T (⟨#[97]⟩:BA)],[T (⟨#[98]⟩:BA)],[T (⟨#[99]⟩:BA)],[T (⟨#[100]⟩:BA)]] ([(⟨#[97]⟩:BA),(⟨#[98]⟩:BA),(⟨#[99]⟩:BA),(⟨#[100]⟩:BA)]:List BA) (bs70_4_a r r r r) r r (by decide) ⟨r,⟨r,⟨r,⟨r,y⟩⟩⟩⟩) ?_
      rintro _ cz ⟨X,rfl,a⟩
      have b:=(a.ad [] [3])
      refine ⟨(sF b),?_⟩
      refine tP 9 r (fun _=>show Yl _ _ _ _ _ _ _ _ _ (.slice (some ⟨X,0,none⟩) o.length 4) from (congrArg (fun z=>Value.slice (some ⟨X,0,none⟩) z 4) J).symm ▸ xSlcH a1 u70_ ti9 r r Q (Nat.le_trans L ((a.vw 0 0 r r)).cap)) (sF b) ?_
      refine hList' 0 [11] (by kernel_rfl) (om_cons' ?_ (om_cons' ?_ om_nil'))
      ·refine oo r r (aRowB a [[T (⟨#[102]⟩:BA)],[T (⟨#[103]⟩:BA)],[T (⟨#[104]⟩:BA)],[T (⟨#[107]⟩:BA)]] ([(⟨#[102]⟩:BA),(⟨#[103]⟩:BA),(⟨#[104]⟩:BA),(⟨#[107]⟩:BA)]:List BA) (bs70_4_a r r r r) r r (by decide) ⟨r,⟨r,⟨r,⟨r,y⟩⟩⟩⟩) ?_
       rintro _ cA ⟨cB,rfl,a⟩
       have b:=(a.ad [] [4])
       refine ⟨(sF b),?_⟩
       refine pF 2 r (xIdR u70_ ti9 r r af (a.vw 0 0 r r) C) b ?_
       refine hList' 3 [11] (by kernel_rfl) (om_cons' ?_ (om_cons' ?_ om_nil'))
       ·have b:=(a.ad [] [4])
        refine oRun' r r (xLoad u9_ r r ((elF (ds:=[T m]) (a.vw 0 0 r r) C (fun _ h=>h)) 0 _ r)) (sF b) (pF 10 r (bd82_0_2 r r) b ?_)
        refine hO 11 (oo r r (aNewB a (mAlloc ti82)) ?_)
        rintro _ cC ⟨bH,rfl,a⟩
        have b:=(a.ad [] [4])
        refine ⟨(sF b),?_⟩
        refine hO 12 (os r r (tb a 0 [T m,V 0,.slice (ad X) o.length 4,sn] r ti82 r r r r r (show _=#[T m,V 0,.slice (ad X) o.length 4,sn] from r)) ?_)
        intro cD a
        try dsimp only [List.set] at a
        have b:=(a.ad [] [4])
        refine ⟨(sF b),?_⟩
        refine hD ?_
        exact hJd _ _ ⟨bH,X,⟨r,r,r,r,r,r,r,r,y⟩,(a.ad [3,4,5,6,7,8,2,0] [2,3,4,5,1])⟩
       refine oo r r (aNewB a (mAlloc ti82)) ?_
       rintro _ cE ⟨bI,rfl,a⟩
       have b:=(a.ad [] [4])
       refine ⟨(sF b),?_⟩
       refine hO 3 (oRun' r r (xLoad u9_ r r ((elF (ds:=[T m]) (a.vw 1 0 r r) C (fun _ h=>h)) 0 _ r)) (sF b) ?_)
       refine pF 10 r (bd82_0_2 r r) b ?_
       refine hO 12 (os r r (tb a 0 [T m,V 0,.slice (ad X) o.length 4,sn] r ti82 r r r r r (show _=#[T m,V 0,.slice (ad X) o.length 4,sn] from r)) ?_)
       intro cF a
       try dsimp only [List.set] at a
       have b:=(a.ad [] [4])
       refine ⟨(sF b),?_⟩
       refine hD ?_
       exact hJd _ _ ⟨bI,X,⟨r,r,r,r,r,r,r,r,y⟩,(a.ad [3,4,5,6,7,8,2,0] [2,3,4,5,1])⟩
      refine oo r r (aNewB a (mAlloc ti82)) ?_
      rintro _ cG ⟨bJ,rfl,a⟩
      have b:=(a.ad [] [3])
      refine ⟨(sF b),?_⟩
      refine hO 0 (oo r r (aRowB a [[T (⟨#[102]⟩:BA)],[T (⟨#[103]⟩:BA)],[T (⟨#[104]⟩:BA)],[T (⟨#[107]⟩:BA)]] ([(⟨#[102]⟩:BA),(⟨#[103]⟩:BA),(⟨#[104]⟩:BA),(⟨#[107]⟩:BA)]:List BA) (bs70_4_a r r r r) r r (by decide) ⟨r,⟨r,⟨r,⟨r,y⟩⟩⟩⟩) ?_)
      rintro _ cH ⟨cI,rfl,a⟩
      have b:=(a.ad [] [4])
      refine ⟨(sF b),?_⟩
      refine pF 2 r (xIdR u70_ ti9 r r af (a.vw 0 0 r r) C) b ?_
      refine hO 3 (oRun' r r (xLoad u9_ r r ((elF (ds:=[T m]) (a.vw 0 0 r r) C (fun _ h=>h)) 0 _ r)) (sF b) ?_)
      refine pF 10 r (bd82_0_2 r r) b ?_
      refine hO 12 (os r r (tb a 1 [T m,V 0,.slice (ad X) o.length 4,sn] r ti82 r r r r r (show _=#[T m,V 0,.slice (ad X) o.length 4,sn] from r)) ?_)
      intro cJ a
      try dsimp only [List.set] at a
      have b:=(a.ad [] [4])
      refine ⟨(sF b),?_⟩
      refine hD ?_
      exact hJd _ _ ⟨bJ,X,⟨r,r,r,r,r,r,r,r,y⟩,(a.ad [3,4,5,6,7,8,2,1] [2,3,4,5,1])⟩
     refine oo r r (aNewB a (mAlloc ti82)) ?_
     rintro _ cK ⟨aN,rfl,a⟩
     have b:=(a.ad [] [2])
     refine ⟨(sF b),?_⟩
     refine hList' 0 [4] (by kernel_rfl) (om_cons' ?_ (om_cons' ?_ om_nil'))
     ·refine oo r r (aRowB a [[T (⟨#[102]⟩:BA)],[T (⟨#[103]⟩:BA)],[T (⟨#[104]⟩:BA)],[T (⟨#[107]⟩:BA)]] ([(⟨#[102]⟩:BA),(⟨#[103]⟩:BA),(⟨#[104]⟩:BA),(⟨#[107]⟩:BA)]:List BA) (bs70_4_a r r r r) r r (by decide) ⟨r,⟨r,⟨r,⟨r,y⟩⟩⟩⟩) ?_
      rintro _ cL ⟨cM,rfl,a⟩
      have b:=(a.ad [] [3])
      refine ⟨(sF b),?_⟩
      refine pF 2 r (xIdR u70_ ti9 r r af (a.vw 0 0 r r) C) b ?_
      refine hList' 3 [4] (by kernel_rfl) (om_cons' ?_ (om_cons' ?_ om_nil'))
      ·have b:=(a.ad [] [3])
       refine oRun' r r (xLoad u9_ r r ((elF (ds:=[T m]) (a.vw 0 0 r r) C (fun _ h=>h)) 0 _ r)) (sF b) ?_
       refine hO 4 (oo r r (aRowB a [[T (⟨#[97]⟩:BA)],[T (⟨#[98]⟩:BA)],[T (⟨#[99]⟩:BA)],[T (⟨#[100]⟩:BA)]] ([(⟨#[97]⟩:BA),(⟨#[98]⟩:BA),(⟨#[99]⟩:BA),(⟨#[100]⟩:BA)]:List BA) (bs70_4_a r r r r) r r (by decide) ⟨r,⟨r,⟨r,⟨r,y⟩⟩⟩⟩) ?_)
       rintro _ cN ⟨au,rfl,a⟩
       have b:=(a.ad [] [4])
       refine ⟨(sF b),?_⟩
       refine tP 9 r (fun _=>show Yl _ _ _ _ _ _ _ _ _ (.slice (some ⟨au,0,none⟩) o.length 4) from (congrArg (fun z=>Value.slice (some ⟨au,0,none⟩) z 4) J).symm ▸ xSlcH a1 u70_ ti9 r r Q (Nat.le_trans L ((a.vw 0 0 r r)).cap)) (sF b) (pF 10 r (bd82_0_2 r r) b ?_)
       refine hO 12 (os r r (tb a 2 [T m,V 0,.slice (ad au) o.length 4,sn] r ti82 r r r r r (show _=#[T m,V 0,.slice (ad au) o.length 4,sn] from r)) ?_)
       intro cO a
       try dsimp only [List.set] at a
       have b:=(a.ad [] [4])
       refine ⟨(sF b),?_⟩
       refine hD ?_
       exact hJd _ _ ⟨aN,au,⟨r,r,r,r,r,r,r,r,y⟩,(a.ad [3,4,5,6,7,8,0,2] [2,3,4,5,0])⟩
      refine oo r r (aRowB a [[T (⟨#[97]⟩:BA)],[T (⟨#[98]⟩:BA)],[T (⟨#[99]⟩:BA)],[T (⟨#[100]⟩:BA)]] ([(⟨#[97]⟩:BA),(⟨#[98]⟩:BA),(⟨#[99]⟩:BA),(⟨#[100]⟩:BA)]:List BA) (bs70_4_a r r r r) r r (by decide) ⟨r,⟨r,⟨r,⟨r,y⟩⟩⟩⟩) ?_
      rintro _ cP ⟨av,rfl,a⟩
      have b:=(a.ad [] [4])
      refine ⟨(sF b),?_⟩
      refine tP 9 r (fun _=>show Yl _ _ _ _ _ _ _ _ _ (.slice (some ⟨av,0,none⟩) o.length 4) from (congrArg (fun z=>Value.slice (some ⟨av,0,none⟩) z 4) J).symm ▸ xSlcH a1 u70_ ti9 r r Q (Nat.le_trans L ((a.vw 0 0 r r)).cap)) (sF b) ?_
      refine hO 3 (oRun' r r (xLoad u9_ r r ((elF (ds:=[T m]) (a.vw 1 1 r r) C (fun _ h=>h)) 0 _ r)) (sF b) ?_)
      refine pF 10 r (bd82_0_2 r r) b ?_
      refine hO 12 (os r r (tb a 2 [T m,V 0,.slice (ad av) o.length 4,sn] r ti82 r r r r r (show _=#[T m,V 0,.slice (ad av) o.length 4,sn] from r)) ?_)
      intro cQ a
      try dsimp only [List.set] at a
      have b:=(a.ad [] [4])
      refine ⟨(sF b),?_⟩
      refine hD ?_
      exact hJd _ _ ⟨aN,av,⟨r,r,r,r,r,r,r,r,y⟩,(a.ad [3,4,5,6,7,8,0,2] [2,3,4,5,0])⟩
     refine oo r r (aRowB a [[T (⟨#[97]⟩:BA)],[T (⟨#[98]⟩:BA)],[T (⟨#[99]⟩:BA)],[T (⟨#[100]⟩:BA)]] ([(⟨#[97]⟩:BA),(⟨#[98]⟩:BA),(⟨#[99]⟩:BA),(⟨#[100]⟩:BA)]:List BA) (bs70_4_a r r r r) r r (by decide) ⟨r,⟨r,⟨r,⟨r,y⟩⟩⟩⟩) ?_
     rintro _ cR ⟨aw,rfl,a⟩
     have b:=(a.ad [] [3])
     refine ⟨(sF b),?_⟩
     refine tP 9 r (fun _=>show Yl _ _ _ _ _ _ _ _ _ (.slice (some ⟨aw,0,none⟩) o.length 4) from (congrArg (fun z=>Value.slice (some ⟨aw,0,none⟩) z 4) J).symm ▸ xSlcH a1 u70_ ti9 r r Q (Nat.le_trans L ((a.vw 0 0 r r)).cap)) (sF b) ?_
     refine hO 0 (oo r r (aRowB a [[T (⟨#[102]⟩:BA)],[T (⟨#[103]⟩:BA)],[T (⟨#[104]⟩:BA)],[T (⟨#[107]⟩:BA)]] ([(⟨#[102]⟩:BA),(⟨#[103]⟩:BA),(⟨#[104]⟩:BA),(⟨#[107]⟩:BA)]:List BA) (bs70_4_a r r r r) r r (by decide) ⟨r,⟨r,⟨r,⟨r,y⟩⟩⟩⟩) ?_)
     rintro _ cS ⟨cT,rfl,a⟩
     have b:=(a.ad [] [4])
     refine ⟨(sF b),?_⟩
     refine pF 2 r (xIdR u70_ ti9 r r af (a.vw 0 0 r r) C) b ?_
     refine hO 3 (oRun' r r (xLoad u9_ r r ((elF (ds:=[T m]) (a.vw 0 0 r r) C (fun _ h=>h)) 0 _ r)) (sF b) ?_)
     refine pF 10 r (bd82_0_2 r r) b ?_
     refine hO 12 (os r r (tb a 2 [T m,V 0,.slice (ad aw) o.length 4,sn] r ti82 r r r r r (show _=#[T m,V 0,.slice (ad aw) o.length 4,sn] from r)) ?_)
     intro cU a
     try dsimp only [List.set] at a
     have b:=(a.ad [] [4])
     refine ⟨(sF b),?_⟩
     refine hD ?_
     exact hJd _ _ ⟨aN,aw,⟨r,r,r,r,r,r,r,r,y⟩,(a.ad [3,4,5,6,7,8,1,2] [2,3,4,5,1])⟩
    clear a
    rintro f w ⟨a6,I,hf,a⟩
    obtain ⟨dB,rfl⟩:=has_updL _ _ hf
    clear hf
    refine q (g (s (mp r) (sTo (aRowB a [] ([]:List BA) (bs70_0_a) r r (by decide) y) ?_)))
    rintro _ cV ⟨cW,rfl,a⟩
    refine s (f82_2 r) (s (l70 r (a.bk 8 r) r) ?_)
    obtain ⟨aH,bj,c⟩:=bs c
    refine sTo (aAppB a 0 0 r r u70_ ti9 r (by decide) (by decide) (Nat.le_refl _) r r (a.ysP 7 5 r r L ao) bj) ?_
    rintro _ cX ⟨aI,aJ,bl,rfl,a⟩
    refine s (xn r) (s (f135_4 r) (sTs (tb a 1 [Z aI aH aJ] r ti70 r r r r r (show _=#[Pt b2,V A,V (wr (1+S)),.slice (ad W) ([2,F,v,x]:List Int).length 4,Z aI aH aJ,sn,sn,V 0,V 22] from r)) ?_))
    intro cY a
    try dsimp only [List.set] at a
    refine n (q (g (s (xi r) (n (q ?_)))))
    obtain ⟨bK,a2,c⟩:=bs c
    refine wJd (fun f w=>∃ (ai:Int),Has f [(2,Pt b1),(3,Pt b2),(4,Pt b6),(5,V (wr (1+S))),(6,.slice (ad W) ([2,F,v,x]:List Int).length 4),(7,V A),(8,Pt aG),(9,Pt a6),(10,V ai)]∧Bx w0 w dA G [O w0.heap.size aI aJ 9 BA bl,.box aG 135 #[Pt b2,V A,V (wr (1+S)),.slice (ad W) ([2,F,v,x]:List Int).length 4,Z aI aH aJ,sn,sn,V 0,V 22],O w0.heap.size e j 82 Gn t,.box b2 132 #[Z D B E,V H],.box b6 26 #[.slice (ad b5) ([(⟨(⟨#[80]⟩:BA),([(⟨#[120]⟩:BA),(⟨#[121]⟩:BA)]:List BA)⟩:Gr)]:List Gr).length 1,Z e p j],O w0.heap.size (ad b5) 1 127 Gr [[T (⟨#[80]⟩:BA),.slice (ad b3) ([(⟨#[120]⟩:BA),(⟨#[121]⟩:BA)]:List BA).length 2]],.box b1 26 #[sn,sn],O w0.heap.size (ad I) 4 9 BA [[T (⟨#[97]⟩:BA)],[T (⟨#[98]⟩:BA)],[T (⟨#[99]⟩:BA)],[T (⟨#[100]⟩:BA)]],.box a6 82 #[T m,V 0,.slice (ad I) o.length 4,sn]] [.els bl aH,.l D E B,.els t p,.l (ad W) 4 ([2,F,v,x]:List Int),.els [[T (⟨#[80]⟩:BA),.slice (ad b3) ([(⟨#[120]⟩:BA),(⟨#[121]⟩:BA)]:List BA).length 2]] ([(⟨(⟨#[80]⟩:BA),([(⟨#[120]⟩:BA),(⟨#[121]⟩:BA)]:List BA)⟩:Gr)]:List Gr),.els [[T (⟨#[97]⟩:BA)],[T (⟨#[98]⟩:BA)],[T (⟨#[99]⟩:BA)],[T (⟨#[100]⟩:BA)]] ([(⟨#[97]⟩:BA),(⟨#[98]⟩:BA),(⟨#[99]⟩:BA),(⟨#[100]⟩:BA)]:List BA)]∧Ld.go ai=bK) (fun cZ aK=>?_) ?_
    ·unfold m_kit_Program_J1 at a2
     refine q (g (s (mi r) (s (xGtr r r) (n ?_))))
     rcases iv a2 with ⟨aO,a2⟩|⟨aO,a2⟩
     ·refine wIfT (bt aO) (g (s (xi r) (n ?_)))
      exact aK _ _ ⟨6,⟨r,r,r,r,r,r,r,r,r,y⟩,a,sm a2⟩
     refine wIfF (bf aO) (wk ?_)
     exact aK _ _ ⟨10,⟨r,r,r,r,r,r,r,r,r,y⟩,a,sm a2⟩
    clear a
    rintro f w ⟨ai,hf,a,bm⟩
    obtain ⟨dB,rfl⟩:=has_updL _ _ hf
    clear hf
    subst bm
    replace c:=gi c
    refine q (g (s (mp r) (s (mi r) ?_)))
    replace a:=a.owL BA 9
    replace a:=a.owL BA 9
    obtain ⟨⟨a7,bL,ax⟩,bM,c⟩:=bs c
    replace c:=pi c
    replace c:=pi c
    have hc:=(sp_kit_stmts fu) (a.pr [3,5,2,1,0] [4,6,7,8,9,10] [3,5,2,1,0] r) a.chg.size a.chg.size a.chg.size bM
    refine sc (ec cal58 r) hc ?_
    rintro _ d0 ⟨M,N,a3,aP,aQ,aR,aS,aT,aU,aV,aW,aX,rfl,hK⟩
    have bN:=a.chg.size
    replace a:=a.cl [3,5,2,1,0] [4,6,7,8,9,10] r hK r
    try dsimp only [pick,nth,ca,na] at a
    replace a:=a.reb 0 w0.heap.size r bN
    try dsimp only [List.set] at a
    refine s (f82_3 r) (sTs (tb a 11 [Z M a7 N] r ti80 r r r r r (show _=#[T m,V 0,.slice (ad I) o.length 4,Z M a7 N] from r)) ?_)
    intro d1 a
    try dsimp only [List.set] at a
    refine n (q ?_)
    obtain ⟨bO,u,c⟩:=bs c
    refine wJd (fun f w=>∃ (a8:List Gs) (a9:OA)(aa:Nat)(ab:LV)(Y:List Int) (ac:Int),Has f [(2,Pt b1),(3,Pt b2),(4,Pt b6),(5,V (wr (1+S))),(6,.slice (ad W) ([2,F,v,x]:List Int).length 4),(7,V A),(9,Pt a6)]∧Bx w0 w dA G [O w0.heap.size a9 aa 111 Gs ab,.box b2 132 #[Z D Y E,V ac],O w0.heap.size e j 82 Gn t,.box b6 26 #[.slice (ad b5) ([(⟨(⟨#[80]⟩:BA),([(⟨#[120]⟩:BA),(⟨#[121]⟩:BA)]:List BA)⟩:Gr)]:List Gr).length 1,Z e p j],O w0.heap.size (ad b5) 1 127 Gr [[T (⟨#[80]⟩:BA),.slice (ad b3) ([(⟨#[120]⟩:BA),(⟨#[121]⟩:BA)]:List BA).length 2]],.box b1 26 #[sn,sn],O w0.heap.size (ad I) 4 9 BA [[T (⟨#[97]⟩:BA)],[T (⟨#[98]⟩:BA)],[T (⟨#[99]⟩:BA)],[T (⟨#[100]⟩:BA)]],.box a6 82 #[T m,V 0,.slice (ad I) o.length 4,Z a9 a8 aa]] [.l D E Y,.els ab a8,.els t p,.l (ad W) 4 ([2,F,v,x]:List Int),.els [[T (⟨#[80]⟩:BA),.slice (ad b3) ([(⟨#[120]⟩:BA),(⟨#[121]⟩:BA)]:List BA).length 2]] ([(⟨(⟨#[80]⟩:BA),([(⟨#[120]⟩:BA),(⟨#[121]⟩:BA)]:List BA)⟩:Gr)]:List Gr),.els [[T (⟨#[97]⟩:BA)],[T (⟨#[98]⟩:BA)],[T (⟨#[99]⟩:BA)],[T (⟨#[100]⟩:BA)]] ([(⟨#[97]⟩:BA),(⟨#[98]⟩:BA),(⟨#[99]⟩:BA),(⟨#[100]⟩:BA)]:List BA)]∧Ld.go (a8,Y,ac)=bO) (fun d2 ay=>?_) ?_
    ·unfold m_kit_Program_J2 at u
     refine q (g (s (mp r) (s (xn r) (s (f135_4 r) (s (l70 r (a.bk 1 r) r) (s (xLnR u70_ r) (s (xGtr r r) (s (xMvB r) ?_))))))))
     rcases iv u with ⟨aY,u⟩|⟨aY,u⟩
     ·rw [decide_eq_true aY]
      refine sGo r (s (mp r) ?_)
      obtain ⟨⟨bP,az⟩,bQ,u⟩:=bs u
      replace u:=pi u
      refine sGo r ?_
      have hc:=(sp_kit_next fu) (a.pr [2] [0,1,3,4,5,6,7,8,9,10,11] [1] r)  bQ
      refine sc (ec cal57 r) hc ?_
      rintro _ d3 ⟨rfl,hK⟩
      replace a:=a.cl [2] [0,1,3,4,5,6,7,8,9,10,11] r hK r
      try dsimp only [pick,nth,ca,na] at a
      refine sGo r (s (xGtr r r) (s (xPkTB r r) (n ?_)))
      rcases iv u with ⟨aZ,u⟩|⟨aZ,u⟩
      ·refine wIfT (bt aZ) (wDr a [2,3] [4] [2,3,11] [4] [21] (by kernel_rfl) ?_)
       replace a:=a.drew
       have b:=(a.ad [2,3] [4])
       have U:=(a.ad [2,3,11] [4])
       refine pL 0 r (f82_3 r) b U (tS 1 1 r (fun _ hS=>l80 r (hS.bk 2 r) r) (sl_ b U) (pL 2 r (mp r) b U (pL 3 r (xn r) b U (pL 4 r (f135_4 r) b U (tU 5 r (fun _ hS=>l70 r (hS.bk 0 r) r) (sl_ b U) (pL 6 r (mp r) b U (pL 7 r (mp r) b U (pL 8 r (xn r) b U (pL 9 r (f135_4 r) b U (tU 10 r (fun _ hS=>l70 r (hS.bk 0 r) r) (sl_ b U) (pL 11 r (xLnR u70_ r) b U ?_)))))))))))
       obtain ⟨⟨bR,aA⟩,bS,u⟩:=bs u
       replace u:=pi u
       have hc:=(sp_kit_next fu) (a.pr [0] [1,2,3,4,5,6,7,8,9,10,11] [0] r)  bS
       refine hO 12 (oc r r (ec cal57 r) hc ?_)
       rintro _ d4 ⟨rfl,hK⟩
       replace a:=a.cl [0] [1,2,3,4,5,6,7,8,9,10,11] r hK r
       try dsimp only [pick,nth,ca,na] at a
       have b:=(a.ad [2,3] [5])
       have U:=(a.ad [2,3,11] [5])
       refine ⟨(sl_ b U),?_⟩
       obtain ⟨bT,ak,u⟩:=bs u
       obtain ⟨d5,bn,ak⟩:=ix_inv ak
       refine pL 13 r (xIdR u70_ ti9 r r bn (a.vw 3 5 r r) ak) b U (tU 14 r (fun _ hS=>xLoad u9_ r r ((elF (ds:=[T bT]) (hS.vw 1 0 r r) ak (fun _ h=>h)) 0 _ r)) (sl_ b U) ?_)
       obtain ⟨K,bU,u⟩:=bs u
       have hc:=(sp_kit_variable fu) (a.pr [] [0,1,2,3,4,5,6,7,8,9,10,11] [] r)  bU
       refine hO 15 (oc r r (ec cal59 r) hc ?_)
       rintro _ d6 ⟨a4,a5,rfl,hK⟩
       replace a:=a.cl [] [0,1,2,3,4,5,6,7,8,9,10,11] r hK r
       try dsimp only [pick,nth,ca,na] at a
       have b:=(a.ad [2,3] [6])
       have U:=(a.ad [2,3,11] [6])
       refine ⟨(sl_ b U),?_⟩
       refine hO 16 (oo r r (aRowB a [[V K.Op,V K.Number,V K.Var,T K.Name,T K.Field,Z a4 K.Args a5]] ([K]:List Ge) (bs109_1_a r) r r (by decide) ⟨(GExpr.inn ⟨a4,a5,r,(a.dl 0 r)⟩),y⟩) ?_)
       rintro _ d7 ⟨bo,rfl,a⟩
       have b:=(a.ad [3,4] [7])
       have U:=(a.ad [3,4,12] [7])
       refine ⟨(sl_ b U),?_⟩
       refine pL 17 r (bd111_0_10 r r) b U ?_
       replace a:=a.frz 0 0 r r
       try dsimp only [List.eraseIdx] at a
       refine hO 18 (oo r r (aRowB a [[V 6,V 0,V 0,T be,T be,V 0,V 0,sn,T be,V 0,.slice (ad bo) ([K]:List Ge).length 1,sn,sn]] ([(⟨6,0,0,be,be,0,0,([]:List Ge),be,0,([K]:List Ge),([]:List Gs),([]:List Gs)⟩:Gs)]:List Gs) (bs80_1_a r) r r (by decide) ⟨(GStmt.inn ⟨none,0,(ad bo),1,none,0,none,0,r,ln_,(a.dl 0 r),ln_,ln_⟩),y⟩) ?_)
       rintro _ d8 ⟨d9,rfl,a⟩
       have b:=(a.ad [3,4] [8])
       have U:=(a.ad [3,4,12] [8])
       refine ⟨(sl_ b U),?_⟩
       obtain ⟨b0,bp,u⟩:=bs u
       refine hO 19 (oo r r (aAppB a 2 5 r r u80_ ti111 r (by decide) (by decide) (Nat.le_refl _) r r (a.ysO 0 0 r r) bp) ?_)
       rintro _ da ⟨b4,b7,bV,rfl,a⟩
       have b:=(a.ad [3,4] [8])
       have U:=(a.ad [3,4,12] [8])
       refine ⟨(sl_ b U),?_⟩
       refine pL 20 r (f82_3 r) b U ?_
       refine hO 21 (os r r (tb a 12 [Z b4 b0 b7] r ti80 r r r r r (show _=#[T m,V 0,.slice (ad I) o.length 4,Z b4 b0 b7] from r)) ?_)
       intro db a
       try dsimp only [List.set] at a
       have b:=(a.ad [3,4] [8])
       refine ⟨(sy 21 b),?_⟩
       refine hD ?_
       exact ay _ _ ⟨b0,b4,b7,bV,aA.l,aA.at_,⟨r,r,r,r,r,r,r,y⟩,(a.ad [2,1,7,8,9,10,11,12] [3,5,15,16,17,18]),sm u⟩
      refine wIfF (bf aZ) (wk ?_)
      exact ay _ _ ⟨a7,M,N,a3,az.l,az.at_,⟨r,r,r,r,r,r,r,y⟩,(a.ad [1,0,6,7,8,9,10,11] [0,1,11,12,13,14]),sm u⟩
     rw [decide_eq_false aY]
     refine sNo r (sNo r (sNo r (s (xPkFB r r) (n (wIfF r (wk ?_))))))
     exact ay _ _ ⟨a7,M,N,a3,ax.l,ax.at_,⟨r,r,r,r,r,r,r,y⟩,(a.ad [0,2,6,7,8,9,10,11] [1,0,10,11,12,13]),sm u⟩
    clear a
    rintro f w ⟨a8,a9,aa,ab,Y,ac,hf,a,bq⟩
    obtain ⟨dB,rfl⟩:=has_updL _ _ hf
    clear hf
    subst bq
    replace c:=gi c
    replace c:=pi c
    replace c:=pi c
    refine q (g (s (f82_3 r) (s (l80 r (a.bk 7 r) r) (s (bd111_0 r) (sTo (aRowB a [[V 10,V 0,V 0,T be,T be,V 0,V 0,sn,T be,V 0,sn,sn,sn]] ([(⟨10,0,0,be,be,0,0,([]:List Ge),be,0,([]:List Ge),([]:List Gs),([]:List Gs)⟩:Gs)]:List Gs) (bs80_1_a r) r r (by decide) ⟨(GStmt.inn ⟨none,0,none,0,none,0,none,0,r,ln_,ln_,ln_,ln_⟩),y⟩) ?_)))))
    rintro _ dc ⟨dd,rfl,a⟩
    obtain ⟨aB,br,c⟩:=bs c
    refine sTo (aAppB a 1 2 r r u80_ ti111 r (by decide) (by decide) (Nat.le_refl _) r r (a.ysO 0 0 r r) br) ?_
    rintro _ de ⟨aC,aD,df,rfl,a⟩
    refine s (f82_3 r) (sTs (tb a 8 [Z aC aB aD] r ti80 r r r r r (show _=#[T m,V 0,.slice (ad I) o.length 4,Z aC aB aD] from r)) ?_)
    intro dg a
    try dsimp only [List.set] at a
    refine n (g (s (f26_1 r) (s (l24 r (a.bk 4 r) r) (s (xLoadS [T m,V 0,.slice (ad I) o.length 4,Z aC aB aD] u82_ r ti82 r r (Cells.part (a.bk 8 r).cells (o2:=0) r)) ?_))))
    replace a:=a.frz 7 6 r r
    try dsimp only [List.eraseIdx] at a
    replace a:=a.dadd (d:=.l (ad I) 4 o) (by have dD:=(a.dl 0 r).head L;rw [ao] at dD;exact dD)
    replace a:=a.frz 1 4 r r
    try dsimp only [List.eraseIdx] at a
    refine sTo (aRowB a [[T m,V 0,.slice (ad I) o.length 4,Z aC aB aD]] ([(⟨m,0,o,aB⟩:Gn)]:List Gn) (bs24_1_a r) r r (by decide) ⟨(GFunc.inn ⟨(ad I),4,aC,aD,r,(a.dl 1 r),(a.dl 0 r)⟩),y⟩) ?_
    rintro _ di ⟨dj,rfl,a⟩
    obtain ⟨b8,bu,c⟩:=bs c
    refine sTo (aAppB a 3 6 r r u24_ ti82 r (by decide) (by decide) (Nat.le_refl _) r r (a.ysO 0 0 r r) bu) ?_
    rintro _ dk ⟨b9,ba,bW,rfl,a⟩
    refine s (f26_1 r) (sTs (tb a 4 [Z b9 b8 ba] r ti24 r r r r r (show _=#[.slice (ad b5) ([(⟨(⟨#[80]⟩:BA),([(⟨#[120]⟩:BA),(⟨#[121]⟩:BA)]:List BA)⟩:Gr)]:List Gr).length 1,Z b9 b8 ba] from r)) ?_)
    intro dm a
    try dsimp only [List.set] at a
    refine n (g (s (mi r) (s (xAddW r r) (s (xi r) (n ?_)))))
    exact bd aL _ _ (Nat.lt_succ_self _) ⟨(wr (A+1)),b8,b9,ba,bW,Y,ac,⟨r,r,r,r,r,r,y⟩,(a.ad [3,2,4,5,6] [5,6,7,8]),c⟩
   refine wIfF (bf aM) (wEx ?_)
   exact bc _ _ ⟨A,p,e,j,t,B,H,⟨r,r,y⟩,a,sm c⟩
 clear a
 rintro f w ⟨A,p,e,j,t,B,H,hf,a,bv⟩
 obtain ⟨dB,rfl⟩:=has_updL _ _ hf
 clear hf
 subst bv
 replace R:=gi R
 replace R:=pi R
 replace R:=pi R
 replace R:=pi R
 refine q (g (s (xLoadS [.slice (ad b5) ([(⟨(⟨#[80]⟩:BA),([(⟨#[120]⟩:BA),(⟨#[121]⟩:BA)]:List BA)⟩:Gr)]:List Gr).length 1,Z e p j] u26_ r ti26 r r (Cells.part (a.bk 2 r).cells (o2:=0) r)) (sTs (tb a 4 [.slice (ad b5) ([(⟨(⟨#[80]⟩:BA),([(⟨#[120]⟩:BA),(⟨#[121]⟩:BA)]:List BA)⟩:Gr)]:List Gr).length 1,Z e p j] r ti26 r r r r r (show _=#[.slice (ad b5) ([(⟨(⟨#[80]⟩:BA),([(⟨#[120]⟩:BA),(⟨#[121]⟩:BA)]:List BA)⟩:Gr)]:List Gr).length 1,Z e p j] from r)) ?_)))
 intro dn a
 try dsimp only [List.set] at a
 refine n (wRt ?_)
 replace a:=a.frz 3 3 r r
 try dsimp only [List.eraseIdx] at a
 replace a:=a.frz 0 2 r r
 try dsimp only [List.eraseIdx] at a
 obtain rfl:=sm R
 refine resV1 r (rdA r u26_ r ti26 r (a.bk 2 r)) ?_
 exact ⟨(ad b5),1,e,j,r,(a.ad [] [1,0])⟩
end
end Go.Proofs.Ytfglbdkfnphjgaa
