/- Contracts, printed by gen3.py. -/
import Derived.Test.YtfglbdkfnphjgaaZt
import Derived.Test.YtfglbdkfnphjgaaLa
set_option linter.unusedVariables false
set_option maxHeartbeats 12800000
set_option linter.unusedSimpArgs false
set_option maxRecDepth 4000
namespace Go.Proofs.Ytfglbdkfnphjgaa
open Go.RowKit Go.Fw
noncomputable section
def Kc (m:Gm→jR→Option (BA × Gm)):Prop:=∀ {G:World} {I:Nat→Prop} {B:Gm} {c:jR} {F:Nat} {d:Nat} {a:Option Addr} {b:Nat} {t:Option Addr} {u:Nat} {e:Option Addr} {h:Nat} {x:List (List Value)} {C:Nat} {i:Option Addr} {j:Nat} {z:List (List Value)} {D:Nat} {k:Option Addr} {o:Nat} {A:List (List Value)} {E:Nat} {R:BA × Gm},Pre G I [.box F 135 #[Pt d,V B.f,V B.e,Z t B.b u,Z e B.a h,Z i B.d j,Z k B.c o,V B.g,V B.h],.box d 132 #[Z a c.l b,V c.a],O C e h 9 BA x,O D i j 9 BA z,O E k o 9 BA A] [.l a b c.l,.l t u B.b,.els x B.a,.els z B.d,.els A B.c]→C≤G.heap.size→D≤G.heap.size→E≤G.heap.size→m B c=some R→
 Calls Try.prog 86 #[Pt F] G (rf fun v w=>iA R fun H p=>v=T H∧Bx G w I (lT [.box F 135 #[Pt d,V B.f,V B.e,Z t B.b u,Z e B.a h,Z i B.d j,Z k B.c o,V B.g,V B.h],.box d 132 #[Z a c.l b,V c.a],O C e h 9 BA x,O D i j 9 BA z,O E k o 9 BA A]) [.box F 135 #[Pt d,V p.f,V p.e,Z t p.b u,Z e p.a h,Z i p.d j,Z k p.c o,V p.g,V p.h],.box d 132 #[Z a c.l b,V c.a],O C e h 9 BA x,O D i j 9 BA z,O E k o 9 BA A] [.l a b c.l,.l t u p.b,.els x p.a,.els z p.d,.els A p.c])
def vQ (fu:Nat)(a:Gm) (c:jR):Option (BA × Gm):=
 (um fu (wr (a.g+1))).bind fun b=>
 (qw (⟨#[118]⟩:BA) b).bind fun d=>
 some (d,(⟨a.f,a.e,a.b,a.a,a.d,a.c,(wr (a.g+1)),a.h⟩:Gm))
theorem Bt (fu:Nat):Kc (vQ fu):=by
 intro S a0 a w F b o p t u c d x z e h A B j m C D R L H I J E
 unfold vQ at E
 have v:=L.bx
 clear L
 generalize U:lT _=G at v ⊢
 refine cf Try.func86 r (ma [(0,Pt F)] ⟨r,y⟩ fun a1=>q (g (s (mZ r) (n (q (g (s (mp r) (s (xn r) (s (Ep r) (s (l3 r (v.bk 0 r) r) (s (kN r r) (s (xn r) (s (Ep r) (lu (lW v 0 [V (wr (a.g+1))] r pJ r r) fun W v=>n (q (g (s (mp r) (s (xn r) (s (Ep r) (s (l3 r (v.bk 0 r) r) ?_))))))))))))))))))))
 obtain ⟨M,N,E⟩:=bs E
 have hc:=(Bc fu) (v.pr [] [0,1,2,3,4] [] r)  N
 refine sc (ec I4 r) hc ?_
 rintro _ X ⟨rfl,Q⟩
 replace v:=v.cn [] [0,1,2,3,4] Q
 obtain ⟨Y,K,E⟩:=bs E
 refine s (l7 r r K) (s (mZ r) (n (kP ?_)))
 obtain rfl:=sm E
 exact jC r (kT r) (lw (⟨r,v⟩))
abbrev vM:=lK→jR→Int→Option (jL × lK × jR)
abbrev su:=lK→jR→Int→Option (jL × lK × jR)
def zF (m:Gm→jR→Int→Option (Ge × Gm × jR)):Prop:=∀ {K:World} {M:Nat→Prop} {A:Gm} {B:jR} {L:Int} {I:Nat} {c:Nat} {a:Option Addr} {b:Nat} {p:Option Addr} {t:Nat} {d:Option Addr} {e:Nat} {u:List (List Value)} {C:Nat} {h:Option Addr} {i:Nat} {x:List (List Value)} {D:Nat} {j:Option Addr} {k:Nat} {z:List (List Value)} {E:Nat} {R:Ge × Gm × jR},Pre K M [.box I 135 #[Pt c,V A.f,V A.e,Z p A.b t,Z d A.a e,Z h A.d i,Z j A.c k,V A.g,V A.h],.box c 132 #[Z a B.l b,V B.a],O C d e 9 BA u,O D h i 9 BA x,O E j k 9 BA z] [.l a b B.l,.l p t A.b,.els u A.a,.els x A.d,.els z A.c]→C≤K.heap.size→D≤K.heap.size→E≤K.heap.size→m A B L=some R→
 Calls Try.prog 83 #[Pt I,V L] K (rf fun v w=>iA R fun J R=>iA R fun o F=>∃ (G:OA)(H:Nat),v=.agg #[V J.e,V J.d,V J.j,T J.a,T J.c,Z G J.b H]∧Bx K w M (lT [.box I 135 #[Pt c,V A.f,V A.e,Z p A.b t,Z d A.a e,Z h A.d i,Z j A.c k,V A.g,V A.h],.box c 132 #[Z a B.l b,V B.a],O C d e 9 BA u,O D h i 9 BA x,O E j k 9 BA z]) [.box I 135 #[Pt c,V o.f,V o.e,Z p o.b t,Z d o.a e,Z h o.d i,Z j o.c k,V o.g,V o.h],.box c 132 #[Z a F.l b,V F.a],O C d e 9 BA u,O D h i 9 BA x,O E j k 9 BA z] [.l G H J.b,.l a b F.l,.l p t o.b,.els u o.a,.els x o.d,.els z o.c])
def vO (m:Gm→jR→Int→Option (Ge × Gm × jR)):Prop:=∀ {K:World} {M:Nat→Prop} {A:Gm} {B:jR} {L:Int} {I:Nat} {c:Nat} {a:Option Addr} {b:Nat} {p:Option Addr} {t:Nat} {d:Option Addr} {e:Nat} {u:List (List Value)} {C:Nat} {h:Option Addr} {i:Nat} {x:List (List Value)} {D:Nat} {j:Option Addr} {k:Nat} {z:List (List Value)} {E:Nat} {R:Ge × Gm × jR},Pre K M [.box I 135 #[Pt c,V A.f,V A.e,Z p A.b t,Z d A.a e,Z h A.d i,Z j A.c k,V A.g,V A.h],.box c 132 #[Z a B.l b,V B.a],O C d e 9 BA u,O D h i 9 BA x,O E j k 9 BA z] [.l a b B.l,.l p t A.b,.els u A.a,.els x A.d,.els z A.c]→C≤K.heap.size→D≤K.heap.size→E≤K.heap.size→m A B L=some R→
 Calls Try.prog 110 #[Pt I,V L] K (rf fun v w=>iA R fun J R=>iA R fun o F=>∃ (G:OA)(H:Nat),v=.agg #[V J.e,V J.d,V J.j,T J.a,T J.c,Z G J.b H]∧Bx K w M (lT [.box I 135 #[Pt c,V A.f,V A.e,Z p A.b t,Z d A.a e,Z h A.d i,Z j A.c k,V A.g,V A.h],.box c 132 #[Z a B.l b,V B.a],O C d e 9 BA u,O D h i 9 BA x,O E j k 9 BA z]) [.box I 135 #[Pt c,V o.f,V o.e,Z p o.b t,Z d o.a e,Z h o.d i,Z j o.c k,V o.g,V o.h],.box c 132 #[Z a F.l b,V F.a],O C d e 9 BA u,O D h i 9 BA x,O E j k 9 BA z] [.l G H J.b,.l a b F.l,.l p t o.b,.els u o.a,.els x o.d,.els z o.c])
def zm (fu:Nat)(r_kit_expr:vM) (r_kit_element:su) (b:Int)(a:Int):Option (Ld (Bool) (Ge × Gm × jR)):=
 if 3≤b then
  some (.go true)
 else
  some (.go (decide (a < 3)))
def zq (fu:Nat)(r_kit_expr:vM) (r_kit_element:su) (b:Gm) (a:Int):Option (Ld (Bool) (Ge × Gm × jR)):=
 if a < 8 then
  some (.go (decide (0 < (b.a.length:Int))))
 else
  some (.go false)
def zk (fu:Nat)(r_kit_expr:vM) (r_kit_element:su) (b:Gm) (a:Int):Option (Ld (Bool) (Ge × Gm × jR)):=
 if a=8 then
  some (.go (decide (0 < (b.d.length:Int))))
 else
  some (.go false)
def zh (fu:Nat)(r_kit_expr:vM) (r_kit_element:su) (b:Gm) (a:Int):Option (Ld (Bool) (Ge × Gm × jR)):=
 if a=9 then
  some (.go (decide (0 < (b.c.length:Int))))
 else
  some (.go false)
def Ar (fu:Nat)(r_kit_expr:vM) (r_kit_element:su) (c:Gm) (J:jR) (K:Int):Option (Ge × Gm × jR):=
 (kM fu J 16).bind fun W=>
 iA W fun b a=>
 (zm fu r_kit_expr r_kit_element K b).bind fun W=>W.el (fun L=>
 if L=true then
  (ym fu a).bind fun W=>
  iA W fun M N=>
  (uz fu M).bind fun P=>
  some (P,c,N)
 else
  (zq fu r_kit_expr r_kit_element c b).bind fun W=>W.el (fun Q=>
  if Q=true then
   (kM fu a (c.a.length:Int)).bind fun W=>
   iA W fun d e=>
   (ix c.a d).bind fun R=>
   (oO fu R).bind fun f=>
   some (f,c,e)
  else
   (zk fu r_kit_expr r_kit_element c b).bind fun W=>W.el (fun h=>
   if h=true then
    (kM fu a (c.d.length:Int)).bind fun W=>
    iA W fun i j=>
    (ix c.d i).bind fun S=>
    (kM fu j 2).bind fun W=>
    iA W fun k l=>
    (ix ([(⟨#[120]⟩:BA),(⟨#[121]⟩:BA)]:List BA) k).bind fun U=>
    some ((⟨2,0,0,S,U,([]:List Ge)⟩:Ge),c,l)
   else
    (zh fu r_kit_expr r_kit_element c b).bind fun W=>W.el (fun m=>
    if m=true then
     (r_kit_element c a (wr (K+1))).bind fun W=>
     iA W fun p W=>iA W fun t u=>
     some (p,t,u)
    else
     if b=10 then
      (kM fu a 2).bind fun W=>
      iA W fun v w=>
      (r_kit_expr c w (wr (K+1))).bind fun W=>
      iA W fun x W=>iA W fun z A=>
      some ((⟨(wr (4+v)),0,0,be,be,([x]:List Ge)⟩:Ge),z,A)
     else
      (kM fu a 12).bind fun W=>
      iA W fun B C=>
      (r_kit_expr c C (wr (K+1))).bind fun W=>
      iA W fun D W=>iA W fun E F=>
      (r_kit_expr E F (wr (K+1))).bind fun W=>
      iA W fun G W=>iA W fun H I=>
      some ((⟨(wr (6+B)),0,0,be,be,([D,G]:List Ge)⟩:Ge),H,I)
    ) (fun o=>some o)
   ) (fun o=>some o)
  ) (fun o=>some o)
 ) (fun o=>some o)
def wI (fu:Nat)(r_kit_expr:vM) (r_kit_element:su) (m:Gm) (e:jR) (p:Int):Option (Ge × Gm × jR):=
 (kM fu e (m.c.length:Int)).bind fun t=>
 iA t fun f h=>
 (ix m.c f).bind fun o=>
 (kM fu h 3).bind fun t=>
 iA t fun i a=>
 if 0 < i then
  (kM fu a 3).bind fun t=>
  iA t fun j k=>
  (uz fu j).bind fun l=>
  some ((⟨3,0,0,o,be,([l]:List Ge)⟩:Ge),m,k)
 else
  (r_kit_expr m a p).bind fun t=>
  iA t fun b t=>iA t fun c d=>
  some ((⟨3,0,0,o,be,([b]:List Ge)⟩:Ge),c,d)
def wu:Nat→(Gm→jR→Int→Option (Ge × Gm × jR)) × (Gm→jR→Int→Option (Ge × Gm × jR))
 | 0=>((fun _ _ _=>none),(fun _ _ _=>none))
 | fu+1=>(Ar fu ((wu fu).1) ((wu fu).2),wI fu ((wu fu).1) ((wu fu).2))
def mR (fu:Nat):=(wu fu).1
def nP (fu:Nat):=(wu fu).2
theorem Lx (fu:Nat)(r_kit_expr:vM) (r_kit_element:su) (H_kit_expr:zF r_kit_expr) (H_kit_element:vO r_kit_element):zF (Ar fu r_kit_expr r_kit_element):=by
 intro w0 co j aC x1 a7 p m o D E t u F U v x H W z A I X R hP a4 a5 a6 c
 unfold Ar at c
 have a:=hP.bx
 clear hP
 generalize hG:lT _=G at a ⊢
 refine cf Try.func83 r (ma [(0,Pt a7),(1,V x1)] ⟨r,r,y⟩ fun cp=>q (g (tL a (ko jT) fun w1 b1 a=>n (q (g (s (mp r) (s (xn r) (s (qm r) (s (yE r (a.bk 1 r) r) ?_)))))))))
 obtain ⟨ak,N,h2,c⟩:=lV c
 have hc:=(kr fu) (a.pr [2] [0,1,3,4,5] [0] r)  h2
 refine sc (ec pG r) hc ?_
 rintro _ w2 ⟨rfl,S⟩
 replace a:=a.cn [2] [0,1,3,4,5] S
 refine s (xi r) (n (q (nZ (q ?_))))
 obtain ⟨Y3,ap,c⟩:=bs c
 refine oC (fun f w=>∃ (ar:Bool),Has f [(0,Pt a7),(1,V x1),(4,Pt b1),(5,V ak),(13,.bool ar)]∧Bx w0 w co G [.box p 132 #[Z m N.l o,V N.a],.box b1 138 #[V 0,V 0,V 0,T be,T be,sn],.box a7 135 #[Pt p,V j.f,V j.e,Z D j.b E,Z t j.a u,Z v j.d x,Z z j.c A,V j.g,V j.h],O U t u 9 BA F,O W v x 9 BA H,O X z A 9 BA I] [.l m o N.l,.l D E j.b,.els F j.a,.els H j.d,.els I j.c]∧Ld.go ar=Y3) (fun J3 aP=>?_) ?_
 ·unfold zm at ap
  refine g (s (mi r) (s (Bi r r) (s (jZ r) ?_)))
  rcases iv ap with ⟨h4,ap⟩|⟨h4,ap⟩
  ·rw [decide_eq_true h4]
   exact jB r (jB r (s (jN r r) (s (jU r) (n (aP _ _ ⟨true,⟨r,r,r,r,r,y⟩,(a.dp [0,2,3,4,5]),sm ap⟩)))))
  rw [decide_eq_false h4]
  exact jQ r (s (mi r) (jQ r (s (qB r r) (s (jX r r) (s (jU r) (n (aP _ _ ⟨(decide (ak < 3)),⟨r,r,r,r,r,y⟩,(a.dp [0,2,3,4,5]),sm ap⟩)))))))
 clear a
 rintro f w ⟨ar,hf,a,aY⟩
 obtain ⟨cp,rfl⟩:=gP _ _ hf
 clear hf
 subst aY
 replace c:=gi c
 rcases iv c with ⟨h5,c⟩|⟨h5,c⟩
 ·refine jH (cb h5) (q (g (s (mp r) (s (xn r) (s (qm r) (s (yE r (a.bk 2 r) r) ?_))))))
  obtain ⟨bA,bB,h6,c⟩:=lV c
  have hc:=(Hu fu) (a.pr [0] [1,2,3,4,5] [0] r)  h6
  refine sc (ec Rq r) hc ?_
  rintro _ w6 ⟨rfl,S⟩
  replace a:=a.cn [0] [1,2,3,4,5] S
  obtain ⟨Q,h7,c⟩:=bs c
  have hc:=(tC fu) (a.pr [] [0,1,2,3,4,5] [] r)  h7
  refine sc (ec Dh r) hc ?_
  rintro _ w7 ⟨a8,a9,rfl,S⟩
  replace a:=a.cn [] [0,1,2,3,4,5] S
  refine lu (nD a 1 [V Q.e,V Q.d,V Q.j,T Q.a,T Q.c,Z a8 Q.b a9] r jT r r) fun w8 a=>n (kP ?_)
  obtain rfl:=sm c
  exact jC r (uN r mo r jT r (a.bk 1 r)) (lw (lw (⟨a8,a9,r,(a.ad [2,0,3,4,5] [0,1,3,4,5,6])⟩)))
 replace h5:=nt h5
 refine jI (cb h5) (q ?_)
 obtain ⟨Y9,aq,c⟩:=bs c
 refine oC (fun f w=>∃ (au:Bool),Has f [(0,Pt a7),(1,V x1),(4,Pt b1),(5,V ak),(26,.bool au)]∧Bx w0 w co G [.box p 132 #[Z m N.l o,V N.a],.box b1 138 #[V 0,V 0,V 0,T be,T be,sn],.box a7 135 #[Pt p,V j.f,V j.e,Z D j.b E,Z t j.a u,Z v j.d x,Z z j.c A,V j.g,V j.h],O U t u 9 BA F,O W v x 9 BA H,O X z A 9 BA I] [.l m o N.l,.l D E j.b,.els F j.a,.els H j.d,.els I j.c]∧Ld.go au=Y9) (fun J9 aR=>?_) ?_
 ·unfold zq at aq
  refine g (s (mi r) (s (qB r r) (s (jZ r) ?_)))
  rcases iv aq with ⟨aG,aq⟩|⟨aG,aq⟩
  ·rw [decide_eq_true aG]
   exact jQ r (s (mp r) (jQ r (s (xn r) (jQ r (s (nL r) (jQ r (s (yF r (a.bk 2 r) r) (jQ r (s (lg kL r) (jQ r (s (vG r r) (s (jN r r) (s (jU r) (n (aR _ _ ⟨(decide (0 < (j.a.length:Int))),⟨r,r,r,r,r,y⟩,a,sm aq⟩)))))))))))))))
  rw [decide_eq_false aG]
  exact jB r (jB r (jB r (jB r (jB r (jB r (s (jX r r) (s (jU r) (n (aR _ _ ⟨false,⟨r,r,r,r,r,y⟩,a,sm aq⟩)))))))))
 clear a
 rintro f w ⟨au,hf,a,aZ⟩
 obtain ⟨cp,rfl⟩:=gP _ _ hf
 clear hf
 subst aZ
 replace c:=gi c
 rcases iv c with ⟨av,c⟩|⟨av,c⟩
 ·refine jH (cb av) (q (oJ a [2,3] [2] [] (by kernel_rfl) ?_))
  replace a:=a.drew
  have e:=(a.ad [2,3] [2])
  refine pF 0 r (mp r) e (pF 1 r (xn r) e (pF 2 r (nL r) e (uF 3 r (fun hS=>yF r (hS.bk 0 r) r) e (pF 4 r (mp r) e (pF 5 r (xn r) e (pF 6 r (qm r) e (uF 7 r (fun hS=>yE r (hS.bk 0 r) r) e (pF 8 r (mp r) e (pF 9 r (xn r) e (pF 10 r (nL r) e (uF 11 r (fun hS=>yF r (hS.bk 0 r) r) e (pF 12 r (lg kL r) e ?_))))))))))))
  obtain ⟨b0,b2,b3,c⟩:=lV c
  have hc:=(kr fu) (a.pr [0] [1,2,3,4,5] [0] r)  b3
  refine hO 13 (oc r r (ec pG r) hc ?_)
  rintro _ bH ⟨rfl,S⟩
  replace a:=a.cn [0] [1,2,3,4,5] S
  have e:=(a.ad [2,3] [3])
  refine ⟨(sF e),?_⟩
  obtain ⟨b4,ao,c⟩:=bs c
  obtain ⟨bI,aS,ao⟩:=kG ao
  refine pF 14 r (kZ kL pV r r aS (a.vw 3 3 r r) ao) e (tU 15 r (fun _ hS=>kz rH r r ((vo (ds:=[T b4]) (hS.vw 1 0 r r) ao (fun _ h=>h)) 0 _ r)) (sF e) ?_)
  obtain ⟨B,b5,c⟩:=bs c
  have hc:=(ql fu) (a.pr [] [0,1,2,3,4,5] [] r)  b5
  refine hO 16 (oc r r (ec ER r) hc ?_)
  rintro _ bJ ⟨Y,a0,rfl,S⟩
  replace a:=a.cn [] [0,1,2,3,4,5] S
  have e:=(a.ad [2,3] [4])
  refine ⟨(sF e),(hO 17 (os r r (nD a 1 [V B.e,V B.d,V B.j,T B.a,T B.c,Z Y B.b a0] r jT r r) fun bK a=>?_))⟩
  have e:=(a.ad [2,3] [4])
  refine ⟨(sF e),(hD (kP ?_))⟩
  obtain rfl:=sm c
  exact jC r (uN r mo r jT r (a.bk 1 r)) (lw (lw (⟨Y,a0,r,(a.ad [2,0,3,4,5] [0,1,3,4,5,6])⟩)))
 replace av:=nt av
 refine jI (cb av) (q ?_)
 obtain ⟨b6,ab,c⟩:=bs c
 refine oC (fun f w=>∃ (al:Bool),Has f [(0,Pt a7),(1,V x1),(4,Pt b1),(5,V ak),(54,.bool al)]∧Bx w0 w co G [.box p 132 #[Z m N.l o,V N.a],.box b1 138 #[V 0,V 0,V 0,T be,T be,sn],.box a7 135 #[Pt p,V j.f,V j.e,Z D j.b E,Z t j.a u,Z v j.d x,Z z j.c A,V j.g,V j.h],O U t u 9 BA F,O W v x 9 BA H,O X z A 9 BA I] [.l m o N.l,.l D E j.b,.els F j.a,.els H j.d,.els I j.c]∧Ld.go al=b6) (fun bL aD=>?_) ?_
 ·unfold zk at ab
  refine g (s (mi r) (s (kK r r) (s (jZ r) ?_)))
  rcases iv ab with ⟨aH,ab⟩|⟨aH,ab⟩
  ·rw [decide_eq_true aH]
   exact jQ r (s (mp r) (jQ r (s (xn r) (jQ r (s (rE r) (jQ r (s (yF r (a.bk 2 r) r) (jQ r (s (lg kL r) (jQ r (s (vG r r) (s (jN r r) (s (jU r) (n (aD _ _ ⟨(decide (0 < (j.d.length:Int))),⟨r,r,r,r,r,y⟩,a,sm ab⟩)))))))))))))))
  rw [decide_eq_false aH]
  exact jB r (jB r (jB r (jB r (jB r (jB r (s (jX r r) (s (jU r) (n (aD _ _ ⟨false,⟨r,r,r,r,r,y⟩,a,sm ab⟩)))))))))
 clear a
 rintro f w ⟨al,hf,a,aT⟩
 obtain ⟨cp,rfl⟩:=gP _ _ hf
 clear hf
 subst aT
 replace c:=gi c
 rcases iv c with ⟨aw,c⟩|⟨aw,c⟩
 ·refine jH (cb aw) (q ?_)
  obtain ⟨b7,b8,aU,c⟩:=lV c
  obtain ⟨aj,ac,c⟩:=bs c
  obtain ⟨bM,aE,ac⟩:=kG ac
  obtain ⟨b9,am,aI,c⟩:=lV c
  obtain ⟨aa,a3,c⟩:=bs c
  obtain ⟨bN,ax,a3⟩:=kG a3
  refine oC (fun f w=>Has f [(4,Pt b1)]∧Bx w0 w co G [.box p 132 #[Z m am.l o,V am.a],.box b1 138 #[V 2,V 0,V 0,T aj,T aa,sn],.box a7 135 #[Pt p,V j.f,V j.e,Z D j.b E,Z t j.a u,Z v j.d x,Z z j.c A,V j.g,V j.h],O U t u 9 BA F,O W v x 9 BA H,O X z A 9 BA I] [.l D E j.b,.els F j.a,.els H j.d,.els I j.c,.l m o am.l]) (fun Jd hJd=>?_) ?_
  ·refine oJ a [2,4] [3] [] (by kernel_rfl) ?_
   replace a:=a.drew
   have e:=(a.ad [2,4] [3])
   refine pF 0 r (mp r) e (pF 1 r (xn r) e (pF 2 r (rE r) e (uF 3 r (fun hS=>yF r (hS.bk 0 r) r) e (pF 4 r (mp r) e (pF 5 r (xn r) e (pF 6 r (qm r) e (uF 7 r (fun hS=>yE r (hS.bk 0 r) r) e (pF 8 r (mp r) e (pF 9 r (xn r) e (pF 10 r (rE r) e (uF 11 r (fun hS=>yF r (hS.bk 0 r) r) e (pF 12 r (lg kL r) e (pF 17 r (mp r) e (pF 18 r (xn r) e (pF 19 r (qm r) e (uF 20 r (fun hS=>yE r (hS.bk 0 r) r) e (nI 13 [16] (by kernel_rfl) (jS ?_ (jS ?_ lX)))))))))))))))))))
   ·have hc:=(kr fu) (a.pr [0] [1,2,3,4,5] [0] r)  aU
    refine oc r r (ec pG r) hc ?_
    rintro _ ba ⟨rfl,S⟩
    replace a:=a.cn [0] [1,2,3,4,5] S
    have e:=(a.ad [2,4] [4])
    refine ⟨(sF e),(pF 14 r (kZ kL pV r r aE (a.vw 4 4 r r) ac) e (tU 15 r (fun _ hS=>kz rH r r ((vo (ds:=[T aj]) (hS.vw 1 0 r r) ac (fun _ h=>h)) 0 _ r)) (sF e) (nI 16 [21] (by kernel_rfl) (jS ?_ (jS ?_ lX)))))⟩
    ·refine oo r r (jV a [[T (⟨#[120]⟩:BA)],[T (⟨#[121]⟩:BA)]] ([(⟨#[120]⟩:BA),(⟨#[121]⟩:BA)]:List BA) (wF r r) r r (by decide) ⟨r,⟨r,y⟩⟩) ?_
     rintro _ bO ⟨bP,rfl,a⟩
     have e:=(a.ad [3,5] [5])
     refine ⟨(sF e),?_⟩
     have hc:=(kr fu) (a.pr [1] [0,2,3,4,5,6] [1] r)  aI
     refine hO 21 (oc r r (ec pG r) hc ?_)
     rintro _ aV ⟨rfl,S⟩
     replace a:=a.cn [1] [0,2,3,4,5,6] S
     have e:=(a.ad [3,5] [6])
     refine ⟨(sF e),(pF 22 r (kZ kL pV r r ax (a.vw 1 1 r r) a3) e (hO 23 (vI r r (kz rH r r ((vo (ds:=[T aa]) (a.vw 1 1 r r) a3 (fun _ h=>h)) 0 _ r)) (sF e) (pF 24 r (vK r r r) e (hO 25 (os r r (nD a 2 [V 2,V 0,V 0,T aj,T aa,sn] r jT r r) fun bQ a=>?_))))))⟩
     have e:=(a.ad [3,5] [6])
     exact ⟨(sF e),(hD (hJd _ _ ⟨⟨r,y⟩,(a.ad [0,2,3,4,5,6] [4,5,6,7,0])⟩))⟩
    have hc:=(kr fu) (a.pr [0] [1,2,3,4,5] [0] r)  aI
    refine oc r r (ec pG r) hc ?_
    rintro _ aV ⟨rfl,S⟩
    replace a:=a.cn [0] [1,2,3,4,5] S
    have e:=(a.ad [2,4] [5])
    refine ⟨(sF e),(hO 16 (oo r r (jV a [[T (⟨#[120]⟩:BA)],[T (⟨#[121]⟩:BA)]] ([(⟨#[120]⟩:BA),(⟨#[121]⟩:BA)]:List BA) (wF r r) r r (by decide) ⟨r,⟨r,y⟩⟩) ?_))⟩
    rintro _ bR ⟨bS,rfl,a⟩
    have e:=(a.ad [3,5] [6])
    refine ⟨(sF e),(pF 22 r (kZ kL pV r r ax (a.vw 0 0 r r) a3) e (hO 23 (vI r r (kz rH r r ((vo (ds:=[T aa]) (a.vw 0 0 r r) a3 (fun _ h=>h)) 0 _ r)) (sF e) (pF 24 r (vK r r r) e (hO 25 (os r r (nD a 2 [V 2,V 0,V 0,T aj,T aa,sn] r jT r r) fun bT a=>?_))))))⟩
    have e:=(a.ad [3,5] [6])
    exact ⟨(sF e),(hD (hJd _ _ ⟨⟨r,y⟩,(a.ad [1,2,3,4,5,6] [4,5,6,7,1])⟩))⟩
   refine oo r r (jV a [[T (⟨#[120]⟩:BA)],[T (⟨#[121]⟩:BA)]] ([(⟨#[120]⟩:BA),(⟨#[121]⟩:BA)]:List BA) (wF r r) r r (by decide) ⟨r,⟨r,y⟩⟩) ?_
   rintro _ bU ⟨bV,rfl,a⟩
   have e:=(a.ad [3,5] [4])
   refine ⟨(sF e),?_⟩
   have hc:=(kr fu) (a.pr [1] [0,2,3,4,5,6] [1] r)  aU
   refine hO 13 (oc r r (ec pG r) hc ?_)
   rintro _ ba ⟨rfl,S⟩
   replace a:=a.cn [1] [0,2,3,4,5,6] S
   have e:=(a.ad [3,5] [5])
   refine ⟨(sF e),(pF 14 r (kZ kL pV r r aE (a.vw 5 5 r r) ac) e (tU 15 r (fun _ hS=>kz rH r r ((vo (ds:=[T aj]) (hS.vw 1 0 r r) ac (fun _ h=>h)) 0 _ r)) (sF e) ?_))⟩
   have hc:=(kr fu) (a.pr [0] [1,2,3,4,5,6] [0] r)  aI
   refine hO 21 (oc r r (ec pG r) hc ?_)
   rintro _ aV ⟨rfl,S⟩
   replace a:=a.cn [0] [1,2,3,4,5,6] S
   have e:=(a.ad [3,5] [6])
   refine ⟨(sF e),(pF 22 r (kZ kL pV r r ax (a.vw 1 2 r r) a3) e (hO 23 (vI r r (kz rH r r ((vo (ds:=[T aa]) (a.vw 1 2 r r) a3 (fun _ h=>h)) 0 _ r)) (sF e) (pF 24 r (vK r r r) e (hO 25 (os r r (nD a 2 [V 2,V 0,V 0,T aj,T aa,sn] r jT r r) fun bW a=>?_))))))⟩
   have e:=(a.ad [3,5] [6])
   exact ⟨(sF e),(hD (hJd _ _ ⟨⟨r,y⟩,(a.ad [0,2,3,4,5,6] [4,5,6,7,0])⟩))⟩
  clear a
  rintro f w ⟨hf,a⟩
  obtain ⟨cp,rfl⟩:=gP _ _ hf
  clear hf
  refine kP ?_
  replace a:=a.ku (d:=.l none 0 ([]:List Ge)) oP
  obtain rfl:=sm c
  exact jC r (uN r mo r jT r (a.bk 1 r)) (lw (lw (⟨none,0,r,(a.ad [2,0,3,4,5] [0,5,1,2,3,4])⟩)))
 replace aw:=nt aw
 refine jI (cb aw) (q ?_)
 obtain ⟨bb,ae,c⟩:=bs c
 refine oC (fun f w=>∃ (an:Bool),Has f [(0,Pt a7),(1,V x1),(4,Pt b1),(5,V ak),(90,.bool an)]∧Bx w0 w co G [.box p 132 #[Z m N.l o,V N.a],.box b1 138 #[V 0,V 0,V 0,T be,T be,sn],.box a7 135 #[Pt p,V j.f,V j.e,Z D j.b E,Z t j.a u,Z v j.d x,Z z j.c A,V j.g,V j.h],O U t u 9 BA F,O W v x 9 BA H,O X z A 9 BA I] [.l m o N.l,.l D E j.b,.els F j.a,.els H j.d,.els I j.c]∧Ld.go an=bb) (fun bX aF=>?_) ?_
 ·unfold zh at ae
  refine g (s (mi r) (s (kK r r) (s (jZ r) ?_)))
  rcases iv ae with ⟨aJ,ae⟩|⟨aJ,ae⟩
  ·rw [decide_eq_true aJ]
   exact jQ r (s (mp r) (jQ r (s (xn r) (jQ r (s (tJ r) (jQ r (s (yF r (a.bk 2 r) r) (jQ r (s (lg kL r) (jQ r (s (vG r r) (s (jN r r) (s (jU r) (n (aF _ _ ⟨(decide (0 < (j.c.length:Int))),⟨r,r,r,r,r,y⟩,a,sm ae⟩)))))))))))))))
  rw [decide_eq_false aJ]
  exact jB r (jB r (jB r (jB r (jB r (jB r (s (jX r r) (s (jU r) (n (aF _ _ ⟨false,⟨r,r,r,r,r,y⟩,a,sm ae⟩)))))))))
 clear a
 rintro f w ⟨an,hf,a,aW⟩
 obtain ⟨cp,rfl⟩:=gP _ _ hf
 clear hf
 subst aW
 replace c:=gi c
 rcases iv c with ⟨ay,c⟩|⟨ay,c⟩
 ·refine jH (cb ay) (q (g (s (mp r) (s (mi r) (s (kN r r) ?_)))))
  obtain ⟨C,bc,bd,bg,c⟩:=qG c
  have hc:=H_kit_element (a.pr [2,0,3,4,5] [1] [0,1,2,3,4] r) (a.le a4) (a.le a5) (a.le a6) bg
  refine sc (ec Pw r) hc ?_
  rintro _ bY ⟨a1,a2,rfl,S⟩
  replace a:=a.cn [2,0,3,4,5] [1] S
  refine lu (nD a 5 [V C.e,V C.d,V C.j,T C.a,T C.c,Z a1 C.b a2] r jT r r) fun bZ a=>n (kP ?_)
  obtain rfl:=sm c
  exact jC r (uN r mo r jT r (a.bk 5 r)) (lw (lw (⟨a1,a2,r,(a.ad [0,1,2,3,4] [0,1,2,3,4,5])⟩)))
 replace ay:=nt ay
 refine jI (cb ay) (q (g (s (mi r) (s (kK r r) (s (jU r) (n ?_))))))
 rcases iv c with ⟨aK,c⟩|⟨aK,c⟩
 ·refine jH (bt aK) (q (g (s (mp r) (s (xn r) (s (qm r) (s (yE r (a.bk 2 r) r) ?_))))))
  obtain ⟨az,bh,bi,c⟩:=lV c
  have hc:=(kr fu) (a.pr [0] [1,2,3,4,5] [0] r)  bi
  refine sc (ec pG r) hc ?_
  rintro _ c0 ⟨rfl,S⟩
  replace a:=a.cn [0] [1,2,3,4,5] S
  refine s (kN r r) (s (mp r) (s (mi r) (s (kN r r) ?_)))
  obtain ⟨L,bj,bl,bm,c⟩:=qG c
  have hc:=H_kit_expr (a.pr [2,0,3,4,5] [1] [0,2,3,4,5] r) (a.le a4) (a.le a5) (a.le a6) bm
  refine sc (ec Bg r) hc ?_
  rintro _ c1 ⟨af,ag,rfl,S⟩
  replace a:=a.cn [2,0,3,4,5] [1] S
  refine qF (jV a [[V L.e,V L.d,V L.j,T L.a,T L.c,Z af L.b ag]] ([L]:List Ge) (kX r) r r (by decide) ⟨(jL.tQ ⟨af,ag,r,(a.dl 0 r)⟩),y⟩) ?_
  rintro _ c2 ⟨aL,rfl,a⟩
  refine s (vD r r) (lu (nD a 6 [V (wr (4+az)),V 0,V 0,T be,T be,.slice (ad aL) ([L]:List Ge).length 1] r jT r r) fun c3 a=>n (kP ?_))
  replace a:=a.fz 0 0 r r
  obtain rfl:=sm c
  exact jC r (uN r mo r jT r (a.bk 5 r)) (lw (lw (⟨(ad aL),1,r,(a.ad [0,1,2,3,4] [0,2,3,4,5,6])⟩)))
 refine jI (bf aK) (wk (q (g (s (mp r) (s (xn r) (s (qm r) (s (yE r (a.bk 2 r) r) ?_)))))))
 obtain ⟨aA,bn,bo,c⟩:=lV c
 have hc:=(kr fu) (a.pr [0] [1,2,3,4,5] [0] r)  bo
 refine sc (ec pG r) hc ?_
 rintro _ c4 ⟨rfl,S⟩
 replace a:=a.cn [0] [1,2,3,4,5] S
 refine s (kN r r) (s (xi r) (n (q (g (s (mp r) (s (mi r) (s (kN r r) ?_)))))))
 obtain ⟨b,bp,bq,br,c⟩:=qG c
 have hc:=H_kit_expr (a.pr [2,0,3,4,5] [1] [0,2,3,4,5] r) (a.le a4) (a.le a5) (a.le a6) br
 refine sc (ec Bg r) hc ?_
 rintro _ c5 ⟨J,K,rfl,S⟩
 replace a:=a.cn [2,0,3,4,5] [1] S
 refine tL a (ko jT) fun c6 c7 a=>lu (nD a 0 [V b.e,V b.d,V b.j,T b.a,T b.c,Z J b.b K] r jT r r) fun c8 a=>n (q (oJ a [0] [] [] (by kernel_rfl) ?_))
 replace a:=a.drew
 have e:=(a.ad [0] [])
 refine pF 0 r (mi r) e (uF 1 r (fun hS=>mE [V b.e,V b.d,V b.j,T b.a,T b.c,Z J b.b K] mo jT r (hS.bk 0 r)) e (pF 2 r (mp r) e (pF 3 r (mi r) e (pF 4 r (kN r r) e ?_))))
 obtain ⟨M,bu,bv,bw,c⟩:=qG c
 have hc:=H_kit_expr (a.pr [1,2,3,4,5] [0,6] [1,2,3,4,5] r) (a.le a4) (a.le a5) (a.le a6) bw
 refine hO 5 (oc r r (ec Bg r) hc ?_)
 rintro _ c9 ⟨ah,ai,rfl,S⟩
 replace a:=a.cn [1,2,3,4,5] [0,6] S
 have e:=(a.ad [5] [])
 refine ⟨(sF e),(hO 6 (oo r r (jV a [[V b.e,V b.d,V b.j,T b.a,T b.c,Z J b.b K],[V M.e,V M.d,V M.j,T M.a,T M.c,Z ah M.b ai]] ([b,M]:List Ge) (xz r r) r r (by decide) ⟨(jL.tQ ⟨J,K,r,(a.dl 6 r)⟩),⟨(jL.tQ ⟨ah,ai,r,(a.dl 0 r)⟩),y⟩⟩) ?_))⟩
 rintro _ cc ⟨aM,rfl,a⟩
 have e:=(a.ad [6] [])
 refine ⟨(sF e),(pF 7 r (vD r r) e (hO 8 (os r r (nD a 7 [V (wr (6+aA)),V 0,V 0,T be,T be,.slice (ad aM) ([b,M]:List Ge).length 2] r jT r r) fun cd a=>?_)))⟩
 have e:=(a.ad [6] [])
 refine ⟨(sF e),(hD (kP ?_))⟩
 replace a:=a.fz 0 0 r r
 obtain rfl:=sm c
 exact jC r (uN r mo r jT r (a.bk 6 r)) (lw (lw (⟨(ad aM),2,r,(a.ad [0,1,2,3,4] [0,2,3,4,5,6])⟩)))
theorem GM (fu:Nat)(r_kit_expr:vM) (r_kit_element:su) (H_kit_expr:zF r_kit_expr) (H_kit_element:vO r_kit_element):vO (wI fu r_kit_expr r_kit_element):=by
 intro w0 aA J K x1 a0 t u v L M w x N Q z A S U B C W X R hP D E F d
 unfold wI at d
 have a:=hP.bx
 clear hP
 generalize hG:lT _=G at a ⊢
 refine cf Try.func110 r (ma [(0,Pt a0),(1,V x1)] ⟨r,r,y⟩ fun aB=>q (g (tL a (ko jT) fun w1 b1 a=>n (q (oJ a [1,5] [4] [] (by kernel_rfl) ?_)))))
 replace a:=a.drew
 have m:=(a.ad [1,5] [4])
 refine pF 0 r (mp r) m (pF 1 r (xn r) m (pF 2 r (tJ r) m (uF 3 r (fun hS=>yF r (hS.bk 0 r) r) m (pF 4 r (mp r) m (pF 5 r (xn r) m (pF 6 r (qm r) m (uF 7 r (fun hS=>yE r (hS.bk 0 r) r) m (pF 8 r (mp r) m (pF 9 r (xn r) m (pF 10 r (tJ r) m (uF 11 r (fun hS=>yF r (hS.bk 0 r) r) m (pF 12 r (lg kL r) m ?_))))))))))))
 obtain ⟨a9,aa,h2,d⟩:=lV d
 have hc:=(kr fu) (a.pr [2] [0,1,3,4,5] [0] r)  h2
 refine hO 13 (oc r r (ec pG r) hc ?_)
 rintro _ w2 ⟨rfl,H⟩
 replace a:=a.cn [2] [0,1,3,4,5] H
 have m:=(a.ad [2,5] [5])
 refine ⟨(sF m),?_⟩
 obtain ⟨e3,I,d⟩:=bs d
 obtain ⟨k3,a2,I⟩:=kG I
 refine pF 14 r (kZ kL pV r r a2 (a.vw 5 5 r r) I) m (tU 15 r (fun _ hS=>kz rH r r ((vo (ds:=[T e3]) (hS.vw 1 0 r r) I (fun _ h=>h)) 0 _ r)) (sF m) (pF 16 r (mZ r) m (hD (q (q (g (s (mp r) (s (xn r) (s (qm r) (s (yE r (a.bk 2 r) r) ?_))))))))))
 obtain ⟨ab,ac,h4,d⟩:=lV d
 have hc:=(kr fu) (a.pr [0] [1,2,3,4,5] [0] r)  h4
 refine sc (ec pG r) hc ?_
 rintro _ w4 ⟨rfl,H⟩
 replace a:=a.cn [0] [1,2,3,4,5] H
 refine s (vG r r) (n ?_)
 rcases iv d with ⟨h5,d⟩|⟨h5,d⟩
 ·refine jH (bt h5) (q (g (s (lc r) (s (mp r) (s (xn r) (s (qm r) (s (yE r (a.bk 2 r) r) ?_)))))))
  obtain ⟨ae,af,h6,d⟩:=lV d
  have hc:=(kr fu) (a.pr [0] [1,2,3,4,5] [0] r)  h6
  refine sc (ec pG r) hc ?_
  rintro _ w6 ⟨rfl,H⟩
  replace a:=a.cn [0] [1,2,3,4,5] H
  obtain ⟨c,h7,d⟩:=bs d
  have hc:=(tC fu) (a.pr [] [0,1,2,3,4,5] [] r)  h7
  refine sc (ec Dh r) hc ?_
  rintro _ w7 ⟨o,p,rfl,H⟩
  replace a:=a.cn [] [0,1,2,3,4,5] H
  refine qF (jV a [[V c.e,V c.d,V c.j,T c.a,T c.c,Z o c.b p]] ([c]:List Ge) (kX r) r r (by decide) ⟨(jL.tQ ⟨o,p,r,(a.dl 0 r)⟩),y⟩) ?_
  rintro _ w8 ⟨b8,rfl,a⟩
  refine s (Cn r r r) (lu (nD a 2 [V 3,V 0,V 0,T e3,T be,.slice (ad b8) ([c]:List Ge).length 1] r jT r r) fun w9 a=>n (kP ?_))
  replace a:=a.fz 0 0 r r
  obtain rfl:=sm d
  exact jC r (uN r mo r jT r (a.bk 1 r)) (lw (lw (⟨(ad b8),1,r,(a.ad [2,0,3,4,5] [0,2,6,7,8,9])⟩)))
 refine jI (bf h5) (wk (q (g (s (lc r) (s (mp r) (s (mi r) ?_))))))
 obtain ⟨b,a5,a6,a7,d⟩:=qG d
 have hc:=H_kit_expr (a.pr [2,0,3,4,5] [1] [0,3,4,5,6] r) (a.le D) (a.le E) (a.le F) a7
 refine sc (ec Bg r) hc ?_
 rintro _ al ⟨e,j,rfl,H⟩
 replace a:=a.cn [2,0,3,4,5] [1] H
 refine qF (jV a [[V b.e,V b.d,V b.j,T b.a,T b.c,Z e b.b j]] ([b]:List Ge) (kX r) r r (by decide) ⟨(jL.tQ ⟨e,j,r,(a.dl 0 r)⟩),y⟩) ?_
 rintro _ am ⟨Y,rfl,a⟩
 refine s (Cn r r r) (lu (nD a 6 [V 3,V 0,V 0,T e3,T be,.slice (ad Y) ([b]:List Ge).length 1] r jT r r) fun an a=>n (kP ?_))
 replace a:=a.fz 0 0 r r
 obtain rfl:=sm d
 exact jC r (uN r mo r jT r (a.bk 5 r)) (lw (lw (⟨(ad Y),1,r,(a.ad [0,1,2,3,4] [0,2,3,4,5,6])⟩)))
theorem DX (fu:Nat):zF (mR fu)∧vO (nP fu):=by
 induction fu with
 | zero=>exact ⟨by intro a b;intros;exact nn (by assumption),by intro a b;intros;exact nn (by assumption)⟩
 | succ fu ih=>exact ⟨Lx fu (mR fu) (nP fu) ih.1 ih.2,GM fu (mR fu) (nP fu) ih.1 ih.2⟩
theorem ut (fu:Nat):zF (mR fu):=(DX fu).1
theorem GI (fu:Nat):vO (nP fu):=(DX fu).2
def KN (m:Gm→jR→Gs→Option (Bool × Gm × jR × Gs)):Prop:=∀ {w0:World} {a4:Nat→Prop} {I:Gm} {J:jR} {d:Gs} {a0:Nat} {e:Nat} {a:Option Addr} {b:Nat} {u:Option Addr} {x:Nat} {h:Option Addr} {i:Nat} {z:List (List Value)} {K:Nat} {j:Option Addr} {k:Nat} {A:List (List Value)} {L:Nat} {o:Option Addr} {p:Nat} {B:List (List Value)} {M:Nat} {a1:Nat} {C:Option Addr} {D:Nat} {N:Option Addr} {P:Nat} {S:List (List Value)} {Q:Nat} {E:Option Addr} {F:Nat} {G:Option Addr} {H:Nat} {R:Bool × Gm × jR × Gs},Pre w0 a4 [.box a0 135 #[Pt e,V I.f,V I.e,Z u I.b x,Z h I.a i,Z j I.d k,Z o I.c p,V I.g,V I.h],.box e 132 #[Z a J.l b,V J.a],O K h i 9 BA z,O L j k 9 BA A,O M o p 9 BA B,.box a1 111 #[V d.e,V d.c,V d.n,T d.a,T d.g,V d.m,V d.j,Z C d.d D,T d.k,V d.h,Z N d.b P,Z E d.f F,Z G d.i H],O Q N P 138 Ge S] [.l a b J.l,.l u x I.b,.els z I.a,.els A I.d,.els B I.c,.l C D d.d,.els S d.b,.l E F d.f,.l G H d.i]→K≤w0.heap.size→L≤w0.heap.size→M≤w0.heap.size→Q≤w0.heap.size→m I J d=some R→
 Calls Try.prog 87 #[Pt a0,Pt a1] w0 (rf fun v w=>iA R fun r0 R=>iA R fun t R=>iA R fun U c=>∃ (W:OA)(X:Nat)(Y:LV),v=.bool r0∧Bx w0 w a4 (lT [.box a0 135 #[Pt e,V I.f,V I.e,Z u I.b x,Z h I.a i,Z j I.d k,Z o I.c p,V I.g,V I.h],.box e 132 #[Z a J.l b,V J.a],O K h i 9 BA z,O L j k 9 BA A,O M o p 9 BA B,.box a1 111 #[V d.e,V d.c,V d.n,T d.a,T d.g,V d.m,V d.j,Z C d.d D,T d.k,V d.h,Z N d.b P,Z E d.f F,Z G d.i H],O Q N P 138 Ge S]) [.box a0 135 #[Pt e,V t.f,V t.e,Z u t.b x,Z h t.a i,Z j t.d k,Z o t.c p,V t.g,V t.h],.box e 132 #[Z a U.l b,V U.a],O K h i 9 BA z,O L j k 9 BA A,O M o p 9 BA B,.box a1 111 #[V c.e,V c.c,V c.n,T c.a,T c.g,V c.m,V c.j,Z C c.d D,T c.k,V c.h,Z W c.b X,Z E c.f F,Z G c.i H],O Q W X 138 Ge Y] [.l a b U.l,.l u x t.b,.els z t.a,.els A t.d,.els B t.c,.l C D c.d,.els Y c.b,.l E F c.f,.l G H c.i])
def zl (fu:Nat)(e:Gm) (a:jR) (k:Gs):Option (Ld (Int × List Int × Int) (Bool × Gm × jR × Gs)):=
 if (wr (e.f+1)) < e.e then
  (kM fu a (wr (e.e - (wr (e.f+1))))).bind fun m=>
  iA m fun h b=>
  some (.go ((wr ((wr (e.f+1))+h)),b.l,b.a))
 else
  (kM fu a 4).bind fun m=>
  iA m fun i c=>
  if i≠3 then
   some (.out (false,e,c,k))
  else
   (kM fu c e.e).bind fun m=>
   iA m fun j d=>
   some (.go (j,d.l,d.a))
def vB (fu:Nat)(v:Int):Nat→Int→Int→Int→(List Int)→Int→Int→(List Int)→Int→(List BA)→(List BA)→(List BA)→(List Ge)→Option (Ld (Int × Int × Int × List Int × Int × Int × List Int × Int × List BA × List BA × List BA × List Ge) (Bool × Gm × jR × Gs))
 | 0,_,_,_,_,_,_,_,_,_,_,_,_=>none
 | z+1,c,i,j,d,k,m,o,p,t,e,h,b=>
 (ix d v).bind fun A=>
 if c < A then
  (mR fu (⟨i,j,d,t,e,h,k,m⟩:Gm) (⟨o,p⟩:jR) 2).bind fun D=>
  iA D fun w D=>iA D fun a u=>
  (app b ([(⟨0,0,0,(⟨#[]⟩:BA),(⟨#[]⟩:BA),([]:List Ge)⟩:Ge)]:List Ge)).bind fun x=>
  (ix x (b.length:Int)).bind fun C=>
  (st x (b.length:Int) w).bind fun B=>
  vB fu v z (wr (c+1)) a.f a.e a.b a.g a.h u.l u.a a.a a.d a.c B
 else
  some (.go (c,i,j,d,k,m,o,p,t,e,h,b))
def yL (fu:Nat)(b:Gm) (v:jR) (a:Gs):Option (Bool × Gm × jR × Gs):=
 (zl fu b v a).bind fun B=>B.el (fun B=>
 iA B fun h B=>iA B fun w x=>
 (ix ([(⟨#[102]⟩:BA),(⟨#[103]⟩:BA),(⟨#[104]⟩:BA),(⟨#[107]⟩:BA)]:List BA) h).bind fun A=>
 (vB fu h fu 0 b.f b.e b.b b.g b.h w x b.a b.d b.c a.b).bind fun B=>B.el (fun B=>
 iA B fun z B=>iA B fun i B=>iA B fun j B=>iA B fun k B=>iA B fun l B=>iA B fun m B=>iA B fun p B=>iA B fun t B=>iA B fun u B=>iA B fun c B=>iA B fun d e=>
 some (true,(⟨i,j,k,u,c,d,l,m⟩:Gm),(⟨p,t⟩:jR),(⟨a.e,a.c,a.n,a.a,a.g,a.m,a.j,a.d,A,a.h,e,a.f,a.i⟩:Gs))
 ) (fun o=>some o)
 ) (fun o=>some o)
theorem E5 (fu:Nat):KN (yL fu):=by
 intro w0 c0 x0 aM c ay L t u a2 a3 M N a4 an Q S a5 ao U W a6 ap az v x ai aj aq ar z A B C R hP aC aD aE aF hM
 unfold yL at hM
 have b:=hP.bx
 clear hP
 generalize hG:lT _=G at b ⊢
 refine cf Try.func87 r (ma [(0,Pt ay),(1,Pt az)] ⟨r,r,y⟩ fun c1=>q (g (s (jU r) (n (q (g (s (mp r) (s (xn r) (s (Si r) (s (l3 r (b.bk 0 r) r) (s (kN r r) (s (xi r) (n (q ?_))))))))))))))
 obtain ⟨Y1,K,hM⟩:=bs hM
 refine oC (fun f w=>∃ (aw:Int)(aA:List Int) (aG:Int),Has f [(0,Pt ay),(1,Pt az),(5,V aw)]∧Bx w0 w c0 G [.box ay 135 #[Pt L,V x0.f,V x0.e,Z a2 x0.b a3,Z M x0.a N,Z Q x0.d S,Z U x0.c W,V x0.g,V x0.h],.box L 132 #[Z t aA u,V aG],O an M N 9 BA a4,O ao Q S 9 BA a5,O ap U W 9 BA a6,.box az 111 #[V c.e,V c.c,V c.n,T c.a,T c.g,V c.m,V c.j,Z v c.d x,T c.k,V c.h,Z ai c.b aj,Z z c.f A,Z B c.i C],O ar ai aj 138 Ge aq] [.l t u aA,.l a2 a3 x0.b,.els a4 x0.a,.els a5 x0.d,.els a6 x0.c,.l v x c.d,.els aq c.b,.l z A c.f,.l B C c.i]∧Ld.go (aw,aA,aG)=Y1) (fun J1 b2=>?_) ?_
 ·unfold zl at K
  refine q (g (s (mi r) (s (mp r) (s (xn r) (s (Mh r) (s (l3 r (b.bk 0 r) r) (s (qB r r) (n ?_))))))))
  rcases iv K with ⟨h2,K⟩|⟨h2,K⟩
  ·refine jH (bt h2) (oJ b [0] [] [] (by kernel_rfl) ?_)
   replace b:=b.drew
   have p:=(b.ad [0] [])
   refine pF 0 r (mi r) p (pF 1 r (mp r) p (pF 2 r (xn r) p (pF 3 r (qm r) p (uF 4 r (fun hS=>yE r (hS.bk 0 r) r) p (pF 5 r (mp r) p (pF 6 r (xn r) p (pF 7 r (Mh r) p (uF 8 r (fun hS=>l3 r (hS.bk 0 r) r) p (pF 9 r (mi r) p (pF 10 r (xU r r) p ?_))))))))))
   obtain ⟨b3,aN,h3,K⟩:=lV K
   have hc:=(kr fu) (b.pr [1] [0,2,3,4,5,6] [0] r)  h3
   refine hO 11 (oc r r (ec pG r) hc ?_)
   rintro _ w3 ⟨rfl,hK⟩
   replace b:=b.cn [1] [0,2,3,4,5,6] hK
   have p:=(b.ad [1] [])
   exact ⟨(sF p),(pF 12 r (kN r r) p (pF 13 r (xi r) p (hD (b2 _ _ ⟨(wr ((wr (x0.f+1))+b3)),aN.l,aN.a,⟨r,r,r,y⟩,(b.ad [1,0,2,3,4,5,6] [0,2,3,4,5,6,7,8,9]),sm K⟩))))⟩
  refine jI (bf h2) (q (q (g (s (mp r) (s (xn r) (s (qm r) (s (yE r (b.bk 0 r) r) ?_)))))))
  obtain ⟨bv,bw,h4,K⟩:=lV K
  have hc:=(kr fu) (b.pr [1] [0,2,3,4,5,6] [0] r)  h4
  refine sc (ec pG r) hc ?_
  rintro _ w4 ⟨rfl,hK⟩
  replace b:=b.cn [1] [0,2,3,4,5,6] hK
  refine s (mI r r) (n ?_)
  rcases iv K with ⟨h5,K⟩|⟨h5,K⟩
  ·refine jH (bt h5) (q (g (s (jU r) (n (kP ?_)))))
   obtain rfl:=sm K
   replace hM:=oi hM
   obtain rfl:=sm hM
   exact jC r (kT r) (lw (lw (lw (⟨ai,aj,aq,r,(b.ad [1,0,2,3,4,5,6] [0,2,3,4,5,6,7,8,9])⟩))))
  refine jI (bf h5) (wk (oJ b [1] [] [] (by kernel_rfl) ?_))
  replace b:=b.drew
  have p:=(b.ad [1] [])
  refine pF 0 r (mp r) p (pF 1 r (xn r) p (pF 2 r (qm r) p (uF 3 r (fun hS=>yE r (hS.bk 0 r) r) p (pF 4 r (mp r) p (pF 5 r (xn r) p (pF 6 r (Mh r) p (uF 7 r (fun hS=>l3 r (hS.bk 0 r) r) p ?_)))))))
  obtain ⟨b4,aO,h6,K⟩:=lV K
  have hc:=(kr fu) (b.pr [0] [1,2,3,4,5,6] [0] r)  h6
  refine hO 8 (oc r r (ec pG r) hc ?_)
  rintro _ w6 ⟨rfl,hK⟩
  replace b:=b.cn [0] [1,2,3,4,5,6] hK
  have p:=(b.ad [1] [])
  exact ⟨(sF p),(pF 9 r (xi r) p (hD (b2 _ _ ⟨b4,aO.l,aO.a,⟨r,r,r,y⟩,(b.ad [1,0,2,3,4,5,6] [0,3,4,5,6,7,8,9,10]),sm K⟩)))⟩
 clear b
 rintro f w ⟨aw,aA,aG,hf,b,bl⟩
 obtain ⟨c1,rfl⟩:=gP _ _ hf
 clear hf
 subst bl
 replace hM:=gi hM
 replace hM:=Ak hM
 refine q (g (s (mp r) (qF (jV b [[T (⟨#[102]⟩:BA)],[T (⟨#[103]⟩:BA)],[T (⟨#[104]⟩:BA)],[T (⟨#[107]⟩:BA)]] ([(⟨#[102]⟩:BA),(⟨#[103]⟩:BA),(⟨#[104]⟩:BA),(⟨#[107]⟩:BA)]:List BA) (sS r r r r) r r (by decide) ⟨r,⟨r,⟨r,⟨r,y⟩⟩⟩⟩) ?_)))
 rintro _ w7 ⟨b7,rfl,b⟩
 refine s (mi r) ?_
 obtain ⟨e8,aL,hM⟩:=bs hM
 obtain ⟨k8,bm,aL⟩:=kG aL
 refine s (kZ kL pV r r bm (b.vw 0 0 r r) aL) (s (kz rH r r ((vo (ds:=[T e8]) (b.vw 0 0 r r) aL (fun _ h=>h)) 0 _ r)) (s (xn r) (s (Ai r) (lu (lW b 6 [T e8] r pV r r) fun w9 b=>n (q (q (g (s (xi r) (n ?_)))))))))
 obtain ⟨b5,o,hM⟩:=bs hM
 refine oC (fun f w=>∃ (a7:Int)(aa:Int)(ab:Int)(X:List Int) (ac:Int)(ae:Int)(Y:List Int) (af:Int)(a0:List BA) (H:List BA) (I:List BA) (J:List Ge) (D:OA)(E:Nat)(F:LV),Has f []∧Bx w0 w c0 G [.box ay 135 #[Pt L,V aa,V ab,Z a2 X a3,Z M a0 N,Z Q H S,Z U I W,V ac,V ae],.box L 132 #[Z t Y u,V af],O an M N 9 BA a4,O ao Q S 9 BA a5,O ap U W 9 BA a6,.box az 111 #[V c.e,V c.c,V c.n,T c.a,T c.g,V c.m,V c.j,Z v c.d x,T e8,V c.h,Z D J E,Z z c.f A,Z B c.i C],O ar D E 138 Ge F] [.l a2 a3 X,.l t u Y,.els a4 a0,.els a5 H,.els a6 I,.l v x c.d,.els F J,.l z A c.f,.l B C c.i]∧Ld.go (a7,aa,ab,X,ac,ae,Y,af,a0,H,I,J)=b5) (fun bG b6=>?_) ?_
 ·refine nZ (kH (fun c2 f w=>∃ (a7:Int)(aa:Int)(ab:Int)(X:List Int) (ac:Int)(ae:Int)(Y:List Int) (af:Int)(a0:List BA) (H:List BA) (I:List BA) (J:List Ge) (D:OA)(E:Nat)(F:LV),Has f [(0,Pt ay),(1,Pt az),(5,V aw),(6,V a7)]∧Bx w0 w c0 G [.box ay 135 #[Pt L,V aa,V ab,Z a2 X a3,Z M a0 N,Z Q H S,Z U I W,V ac,V ae],.box L 132 #[Z t Y u,V af],O an M N 9 BA a4,O ao Q S 9 BA a5,O ap U W 9 BA a6,.box az 111 #[V c.e,V c.c,V c.n,T c.a,T c.g,V c.m,V c.j,Z v c.d x,T e8,V c.h,Z D J E,Z z c.f A,Z B c.i C],O ar D E 138 Ge F] [.l a2 a3 X,.l t u Y,.els a4 a0,.els a5 H,.els a6 I,.l v x c.d,.els F J,.l z A c.f,.l B C c.i]∧vB fu aw c2 a7 aa ab X ac ae Y af a0 H I J=some b5) fu ⟨0,x0.f,x0.e,x0.b,x0.g,x0.h,aA,aG,x0.a,x0.d,x0.c,c.b,ai,aj,aq,⟨r,r,r,r,y⟩,(b.ad [1,2,3,4,5,6,7] [2,1,3,4,5,6,7,8,9]),o⟩ ?_)
  clear b o
  rintro aT f w ⟨a7,aa,ab,X,ac,ae,Y,af,a0,H,I,J,D,E,F,hf,b,o⟩ bH b8
  obtain ⟨c1,rfl⟩:=gP _ _ hf
  clear hf
  cases aT with
  | zero=>exact nn o
  | succ aT=>
   rw [vB] at o
   refine q (q (g (s (mi r) (s (mp r) (s (xn r) (s (Sy r) (s (Ko r (b.bk 0 r) r) (s (mi r) ?_))))))))
   obtain ⟨bn,aH,o⟩:=bs o
   obtain ⟨bI,b9,aH⟩:=kG aH
   refine s (kZ vE pJ r r b9 (b.dl 0 r) aH) (s (kz EU r r ((vo (ds:=[V bn]) (b.dl 0 r) aH (fun _ h=>h)) 0 _ r)) (s (qB r r) (n ?_)))
   rcases iv o with ⟨aU,o⟩|⟨aU,o⟩
   ·refine jH (bt aU) (wk (q (nZ ?_)))
    obtain ⟨a,m,au,ba,o⟩:=qG o
    obtain ⟨aB,aP,o⟩:=bs o
    obtain ⟨bb,ax,o⟩:=bs o
    obtain ⟨aI,aQ,ax⟩:=kG ax
    obtain ⟨av,ah,o⟩:=bs o
    obtain ⟨bo,bz,_,ah⟩:=A7 ah
    obtain rfl:aI=bo:=by omega
    refine oC (fun f w=>∃ (a8:OA)(a9:Nat)(am:LV),Has f [(0,Pt ay),(1,Pt az),(5,V aw),(6,V a7)]∧Bx w0 w c0 G [.box ay 135 #[Pt L,V m.f,V m.e,Z a2 m.b a3,Z M m.a N,Z Q m.d S,Z U m.c W,V m.g,V m.h],.box L 132 #[Z t au.l u,V au.a],O an M N 9 BA a4,O ao Q S 9 BA a5,O ap U W 9 BA a6,.box az 111 #[V c.e,V c.c,V c.n,T c.a,T c.g,V c.m,V c.j,Z v c.d x,T e8,V c.h,Z a8 av a9,Z z c.f A,Z B c.i C],O ar a8 a9 138 Ge am] [.els a4 m.a,.els a5 m.d,.els a6 m.c,.l v x c.d,.els am av,.l z A c.f,.l B C c.i,.l a2 a3 m.b,.l t u au.l]) (fun Jd hJd=>?_) ?_
    ·refine Fa b [] [] [5] [] [13] (by kernel_rfl) ?_
     replace b:=b.drew
     have p:=(b.ad [] [])
     have hu:=(b.ad [5] [])
     refine pL 0 r (mp r) p hu (pL 1 r (xn r) p hu (pL 2 r (qD r) p hu (tS 1 3 r (fun _ hS=>xe r (hS.bk 0 r) r) (mH p hu) (pL 4 r (mp r) p hu (pL 6 r (lg qJ r) p hu (nI 5 [7] (by kernel_rfl) (jS ?_ (jS ?_ lX))))))))
     ·have hc:=(ut fu) (b.pr [0,1,2,3,4] [5,6] [1,0,2,3,4] r) (b.le aC) (b.le aD) (b.le aE) ba
      refine oc r r (ec Bg r) hc ?_
      rintro _ bp ⟨e,j,rfl,hK⟩
      replace b:=b.cn [0,1,2,3,4] [5,6] hK
      have p:=(b.ad [] [])
      have hu:=(b.ad [5] [])
      refine ⟨(mH p hu),(hO 7 (oo r r (jV b [[V 0,V 0,V 0,T (⟨#[]⟩:BA),T (⟨#[]⟩:BA),sn]] ([(⟨0,0,0,(⟨#[]⟩:BA),(⟨#[]⟩:BA),([]:List Ge)⟩:Ge)]:List Ge) (kX r) r r (by decide) ⟨(jL.tQ ⟨none,0,r,oP⟩),y⟩) ?_))⟩
      rintro _ bJ ⟨bK,rfl,b⟩
      have p:=(b.ad [] [])
      have hu:=(b.ad [6] [])
      refine ⟨(mH p hu),(hO 8 (oo r r (kS b 7 13 r r qJ jT r (by decide) (by decide) aF r r (b.AJ 0 0 r r) aP) ?_))⟩
      rintro _ bq ⟨a8,a9,br,rfl,b⟩
      have p:=(b.ad [] [])
      have hu:=(b.ad [6] [])
      refine ⟨(mH p hu),?_⟩
      obtain ⟨bA,aR,bc⟩:=(b.de 13 rfl).get ax
      obtain ⟨aV,aW,rfl,aX⟩:=jL.out bc
      replace b:=b.ku (d:=.l aV aW bb.b) aX
      refine pL 9 r (kZ qJ jT r r aQ (b.vw 7 14 r r) ax) p hu (pL 11 r (xn r) p hu (pL 12 r (qD r) p hu (nI 10 [13] (by kernel_rfl) (jS ?_ (jS ?_ lX)))))
      ·refine os r r (Hy b 7 14 aI 0 [V a.e,V a.d,V a.j,T a.a,T a.c,Z e a.b j] r r aR jT r r r r r (show _=[V a.e,V a.d,V a.j,T a.a,T a.c,Z e a.b j] from r) (jL.tQ ⟨e,j,r,(b.dl 2 r)⟩) ah) ?_
       rintro aY ⟨am,b⟩
       try dsimp only [List.set] at b
       have ag:aB.length=av.length:=by rw [← ah,List.length_set]
       try dsimp only [Z] at b
       try rw [ag] at b
       try dsimp only [Z]
       try rw [ag]
       have p:=(b.ad [] [])
       have hu:=(b.ad [6] [])
       refine ⟨(mH p hu),(hO 13 (os r r (lW b 6 [Z a8 av a9] r uk r r) fun bL b=>?_))⟩
       have p:=(b.ad [] [])
       exact ⟨(sy 13 p),(hD (hJd _ _ ⟨a8,a9,am,⟨r,r,r,r,y⟩,(b.ad [1,2,3,4,5,6,7] [5,6,7,13,14,15,16,4,3])⟩))⟩
      refine os r r (lW b 6 [Z a8 aB a9] r uk r r) fun bM b=>?_
      have p:=(b.ad [] [])
      refine ⟨(sy 13 p),(hO 10 (os r r (Hy b 7 14 aI 0 [V a.e,V a.d,V a.j,T a.a,T a.c,Z e a.b j] r r aR jT r r r r r (show _=[V a.e,V a.d,V a.j,T a.a,T a.c,Z e a.b j] from r) (jL.tQ ⟨e,j,r,(b.dl 2 r)⟩) ah) ?_))⟩
      rintro aY ⟨am,b⟩
      try dsimp only [List.set] at b
      have ag:aB.length=av.length:=by rw [← ah,List.length_set]
      try dsimp only [Z] at b
      try rw [ag] at b
      try dsimp only [Z]
      try rw [ag]
      have p:=(b.ad [] [])
      exact ⟨(sy 13 p),(hD (hJd _ _ ⟨a8,a9,am,⟨r,r,r,r,y⟩,(b.ad [1,2,3,4,5,6,7] [5,6,7,13,14,15,16,4,3])⟩))⟩
     refine oo r r (jV b [[V 0,V 0,V 0,T (⟨#[]⟩:BA),T (⟨#[]⟩:BA),sn]] ([(⟨0,0,0,(⟨#[]⟩:BA),(⟨#[]⟩:BA),([]:List Ge)⟩:Ge)]:List Ge) (kX r) r r (by decide) ⟨(jL.tQ ⟨none,0,r,oP⟩),y⟩) ?_
     rintro _ bN ⟨bO,rfl,b⟩
     have p:=(b.ad [] [])
     have hu:=(b.ad [6] [])
     refine ⟨(mH p hu),?_⟩
     have hc:=(ut fu) (b.pr [1,2,3,4,5] [0,6,7] [2,1,3,4,5] r) (b.le aC) (b.le aD) (b.le aE) ba
     refine hO 5 (oc r r (ec Bg r) hc ?_)
     rintro _ bp ⟨e,j,rfl,hK⟩
     replace b:=b.cn [1,2,3,4,5] [0,6,7] hK
     have p:=(b.ad [] [])
     have hu:=(b.ad [6] [])
     refine ⟨(mH p hu),(hO 8 (oo r r (kS b 7 13 r r qJ jT r (by decide) (by decide) aF r r (b.AJ 5 6 r r) aP) ?_))⟩
     rintro _ bq ⟨a8,a9,br,rfl,b⟩
     have p:=(b.ad [] [])
     have hu:=(b.ad [6] [])
     refine ⟨(mH p hu),?_⟩
     obtain ⟨bB,aS,bd⟩:=(b.de 13 rfl).get ax
     obtain ⟨aZ,b0,rfl,b1⟩:=jL.out bd
     replace b:=b.ku (d:=.l aZ b0 bb.b) b1
     refine pL 9 r (kZ qJ jT r r aQ (b.vw 7 14 r r) ax) p hu (pL 11 r (xn r) p hu (pL 12 r (qD r) p hu (nI 10 [13] (by kernel_rfl) (jS ?_ (jS ?_ lX)))))
     ·refine os r r (Hy b 7 14 aI 0 [V a.e,V a.d,V a.j,T a.a,T a.c,Z e a.b j] r r aS jT r r r r r (show _=[V a.e,V a.d,V a.j,T a.a,T a.c,Z e a.b j] from r) (jL.tQ ⟨e,j,r,(b.dl 1 r)⟩) ah) ?_
      rintro aY ⟨am,b⟩
      try dsimp only [List.set] at b
      have ag:aB.length=av.length:=by rw [← ah,List.length_set]
      try dsimp only [Z] at b
      try rw [ag] at b
      try dsimp only [Z]
      try rw [ag]
      have p:=(b.ad [] [])
      have hu:=(b.ad [6] [])
      refine ⟨(mH p hu),(hO 13 (os r r (lW b 6 [Z a8 av a9] r uk r r) fun bP b=>?_))⟩
      have p:=(b.ad [] [])
      exact ⟨(sy 13 p),(hD (hJd _ _ ⟨a8,a9,am,⟨r,r,r,r,y⟩,(b.ad [0,1,2,3,4,6,7] [4,5,6,13,14,15,16,3,2])⟩))⟩
     refine os r r (lW b 6 [Z a8 aB a9] r uk r r) fun bQ b=>?_
     have p:=(b.ad [] [])
     refine ⟨(sy 13 p),(hO 10 (os r r (Hy b 7 14 aI 0 [V a.e,V a.d,V a.j,T a.a,T a.c,Z e a.b j] r r aS jT r r r r r (show _=[V a.e,V a.d,V a.j,T a.a,T a.c,Z e a.b j] from r) (jL.tQ ⟨e,j,r,(b.dl 1 r)⟩) ah) ?_))⟩
     rintro aY ⟨am,b⟩
     try dsimp only [List.set] at b
     have ag:aB.length=av.length:=by rw [← ah,List.length_set]
     try dsimp only [Z] at b
     try rw [ag] at b
     try dsimp only [Z]
     try rw [ag]
     have p:=(b.ad [] [])
     exact ⟨(sy 13 p),(hD (hJd _ _ ⟨a8,a9,am,⟨r,r,r,r,y⟩,(b.ad [0,1,2,3,4,6,7] [4,5,6,13,14,15,16,3,2])⟩))⟩
    clear b
    rintro f w ⟨a8,a9,am,hf,b⟩
    obtain ⟨c1,rfl⟩:=gP _ _ hf
    clear hf
    exact g (s (mi r) (s (kN r r) (s (xi r) (n (b8 aT _ _ (Nat.lt_succ_self _) ⟨(wr (a7+1)),m.f,m.e,m.b,m.g,m.h,au.l,au.a,m.a,m.d,m.c,av,a8,a9,am,⟨r,r,r,r,y⟩,(b.dp [7,8,0,1,2,3,4,5,6]),o⟩)))))
   exact jI (bf aU) (uW (b6 _ _ ⟨a7,aa,ab,X,ac,ae,Y,af,a0,H,I,J,D,E,F,y,b,sm o⟩))
 clear b
 rintro f w ⟨a7,aa,ab,X,ac,ae,Y,af,a0,H,I,J,D,E,F,hf,b,bg⟩
 obtain ⟨c1,rfl⟩:=gP _ _ hf
 clear hf
 subst bg
 replace hM:=gi hM
 replace hM:=Ak (mf (mf (mf hM)))
 refine q (g (s (jU r) (n (kP ?_))))
 obtain rfl:=sm hM
 exact jC r (kT r) (lw (lw (lw (⟨D,E,F,r,(b.dp [1,0,2,3,4,5,6,7,8])⟩))))
def FZ (m:Gm→jR→Option (Gs × Gm × jR)):Prop:=∀ {w0:World} {a5:Nat→Prop} {i:Gm} {j:jR} {a3:Nat} {c:Nat} {a:Option Addr} {b:Nat} {e:Option Addr} {h:Nat} {k:Option Addr} {o:Nat} {D:List (List Value)} {p:Nat} {t:Option Addr} {u:Nat} {E:List (List Value)} {x:Nat} {z:Option Addr} {A:Nat} {F:List (List Value)} {B:Nat} {R:Gs × Gm × jR},Pre w0 a5 [.box a3 135 #[Pt c,V i.f,V i.e,Z e i.b h,Z k i.a o,Z t i.d u,Z z i.c A,V i.g,V i.h],.box c 132 #[Z a j.l b,V j.a],O p k o 9 BA D,O x t u 9 BA E,O B z A 9 BA F] [.l a b j.l,.l e h i.b,.els D i.a,.els E i.d,.els F i.c]→p≤w0.heap.size→x≤w0.heap.size→B≤w0.heap.size→m i j=some R→
 Calls Try.prog 82 #[Pt a3] w0 (rf fun v w=>iA R fun C R=>iA R fun d G=>∃ (S:OA)(U:Nat)(W:OA)(X:Nat)(Y:OA)(a0:Nat)(a1:OA)(a2:Nat)(H:OA)(I:Nat)(J:LV)(K:OA)(L:Nat)(M:LV)(N:OA)(P:Nat)(Q:LV),v=.agg #[V C.e,V C.c,V C.n,T C.a,T C.g,V C.m,V C.j,Z S C.d U,T C.k,V C.h,Z W C.b X,Z Y C.f a0,Z a1 C.i a2]∧Bx w0 w a5 (lT [.box a3 135 #[Pt c,V i.f,V i.e,Z e i.b h,Z k i.a o,Z t i.d u,Z z i.c A,V i.g,V i.h],.box c 132 #[Z a j.l b,V j.a],O p k o 9 BA D,O x t u 9 BA E,O B z A 9 BA F]) [.box a3 135 #[Pt c,V d.f,V d.e,Z e d.b h,Z H d.a I,Z K d.d L,Z N d.c P,V d.g,V d.h],.box c 132 #[Z a G.l b,V G.a],O p H I 9 BA J,O x K L 9 BA M,O B N P 9 BA Q] [.l S U C.d,.l W X C.b,.l Y a0 C.f,.l a1 a2 C.i,.l a b G.l,.l e h d.b,.els J d.a,.els M d.d,.els Q d.c])
def wO (fu:Nat)(j:Gm) (d:jR):Option (Gs × Gm × jR):=
 (vQ fu j d).bind fun l=>
 iA l fun b a=>
 (kM fu d 5).bind fun l=>
 iA l fun e c=>
 if e=3 then
  (app a.d ([b]:List BA)).bind fun k=>
  some ((⟨1,0,0,b,(⟨#[80]⟩:BA),0,0,([]:List Ge),be,0,([]:List Ge),([]:List Gs),([]:List Gs)⟩:Gs),(⟨a.f,a.e,a.b,a.a,k,a.c,a.g,a.h⟩:Gm),c)
 else
  if e=4 then
   (app a.c ([b]:List BA)).bind fun h=>
   some ((⟨1,0,0,b,be,3,0,([]:List Ge),be,0,([]:List Ge),([]:List Gs),([]:List Gs)⟩:Gs),(⟨a.f,a.e,a.b,a.a,a.d,h,a.g,a.h⟩:Gm),c)
  else
   (app a.a ([b]:List BA)).bind fun i=>
   some ((⟨1,0,0,b,be,0,0,([]:List Ge),be,0,([]:List Ge),([]:List Gs),([]:List Gs)⟩:Gs),(⟨a.f,a.e,a.b,i,a.d,a.c,a.g,a.h⟩:Gm),c)
theorem GX (fu:Nat):FZ (wO fu):=by
 intro w0 aL J K Y w H I x z j m A L o p B M t u C N R hP D E F v
 unfold wO at v
 have a:=hP.bx
 clear hP
 generalize hG:lT _=G at a ⊢
 refine cf Try.func82 r (ma [(0,Pt Y)] ⟨r,y⟩ fun aM=>q (g (tL a (ko jP) fun w1 b1 a=>n (q (g (s (mp r) ?_))))))
 obtain ⟨c,b,h2,v⟩:=lV v
 have hc:=(Bt fu) (a.pr [1,2,3,4,5] [0] [0,1,2,3,4] r) (a.le D) (a.le E) (a.le F) h2
 refine sc (ec Oc r) hc ?_
 rintro _ w2 ⟨rfl,hK⟩
 replace a:=a.cn [1,2,3,4,5] [0] hK
 refine s (IG r r) (tL a (ko jP) fun w3 b3 a=>lu (nD a 0 [V 1,V 0,V 0,T c,T be,V 0,V 0,sn,T be,V 0,sn,sn,sn] r jP r r) fun w4 a=>n (q (q (g (s (mp r) (s (xn r) (s (qm r) (s (yE r (a.bk 1 r) r) ?_))))))))
 obtain ⟨ac,ae,h5,v⟩:=lV v
 have hc:=(kr fu) (a.pr [2] [0,1,3,4,5,6] [5] r)  h5
 refine sc (ec pG r) hc ?_
 rintro _ w5 ⟨rfl,hK⟩
 replace a:=a.cn [2] [0,1,3,4,5,6] hK
 refine n (nZ (q (g (s (kK r r) (s (jU r) (n ?_))))))
 rcases iv v with ⟨h6,v⟩|⟨h6,v⟩
 ·refine jH (bt h6) (q (g (s (BH r) (lu (lW a 1 [T (⟨#[80]⟩:BA)] r pV r r) fun w7 a=>n (Fa a [1] [] [1,2] [] [11] (by kernel_rfl) ?_)))))
  replace a:=a.drew
  have e:=(a.ad [1] [])
  have h:=(a.ad [1,2] [])
  refine pL 0 r (mp r) e h (pL 1 r (mp r) e h (pL 2 r (xn r) e h (pL 3 r (rE r) e h (tS 1 4 r (fun _ hS=>yF r (hS.bk 1 r) r) (mH e h) (pL 5 r (xu r) e h (tU 6 r (fun _ hS=>l9 r (hS.bk 0 r) r) (mH e h) (hO 7 (oo r r (jV a [[T c]] ([c]:List BA) (AA r) r r (by decide) ⟨r,y⟩) ?_))))))))
  rintro _ w8 ⟨b8,rfl,a⟩
  have e:=(a.ad [2] [])
  have h:=(a.ad [2,3] [])
  refine ⟨(mH e h),?_⟩
  obtain ⟨r9,a6,v⟩:=bs v
  refine hO 8 (oo r r (kS a 5 5 r r kL pV r (by decide) (by decide) E r r (a.AJ 0 0 r r) a6) ?_)
  rintro _ w9 ⟨A9,C9,Q9,rfl,a⟩
  have e:=(a.ad [2] [])
  have h:=(a.ad [2,3] [])
  refine ⟨(mH e h),(pL 9 r (xn r) e h (pL 10 r (rE r) e h (hO 11 (os r r (lW a 3 [Z A9 r9 C9] r pO r r) fun ak a=>?_))))⟩
  have e:=(a.ad [2] [])
  refine ⟨(sy 11 e),(hD (q (g (s (mE [V 1,V 0,V 0,T c,T (⟨#[80]⟩:BA),V 0,V 0,sn,T be,V 0,sn,sn,sn] lG jP r (a.bk 2 r)) (lu (nD a 7 [V 1,V 0,V 0,T c,T (⟨#[80]⟩:BA),V 0,V 0,sn,T be,V 0,sn,sn,sn] r jP r r) fun al a=>n (kP ?_))))))⟩
  replace a:=a.ku (d:=.l none 0 ([]:List Ge)) oP
  replace a:=a.ku (d:=.l none 0 ([]:List Ge)) oP
  replace a:=a.ku (d:=.l none 0 ([]:List Gs)) oP
  replace a:=a.ku (d:=.l none 0 ([]:List Gs)) oP
  obtain rfl:=sm v
  exact jC r (uN r lG r jP r (a.bk 7 r)) (lw (lw (⟨none,0,none,0,none,0,none,0,j,m,A,A9,C9,Q9,t,u,C,r,(a.ad [3,1,4,5,6] [3,2,1,0,5,7,8,9,10])⟩)))
 refine jI (bf h6) (q (g (s (kK r r) (s (jU r) (n ?_)))))
 rcases iv v with ⟨Q,v⟩|⟨Q,v⟩
 ·refine jH (bt Q) (q (g (s (zN r) (lu (lW a 1 [V 3] r pJ r r) fun am a=>n (Fa a [1] [] [1,2] [] [11] (by kernel_rfl) ?_)))))
  replace a:=a.drew
  have e:=(a.ad [1] [])
  have h:=(a.ad [1,2] [])
  refine pL 0 r (mp r) e h (pL 1 r (mp r) e h (pL 2 r (xn r) e h (pL 3 r (tJ r) e h (tS 1 4 r (fun _ hS=>yF r (hS.bk 1 r) r) (mH e h) (pL 5 r (xu r) e h (tU 6 r (fun _ hS=>l9 r (hS.bk 0 r) r) (mH e h) (hO 7 (oo r r (jV a [[T c]] ([c]:List BA) (AA r) r r (by decide) ⟨r,y⟩) ?_))))))))
  rintro _ an ⟨ao,rfl,a⟩
  have e:=(a.ad [2] [])
  have h:=(a.ad [2,3] [])
  refine ⟨(mH e h),?_⟩
  obtain ⟨a0,a1,v⟩:=bs v
  refine hO 8 (oo r r (kS a 6 6 r r kL pV r (by decide) (by decide) F r r (a.AJ 0 0 r r) a1) ?_)
  rintro _ ap ⟨S,U,a9,rfl,a⟩
  have e:=(a.ad [2] [])
  have h:=(a.ad [2,3] [])
  refine ⟨(mH e h),(pL 9 r (xn r) e h (pL 10 r (tJ r) e h (hO 11 (os r r (lW a 3 [Z S a0 U] r pO r r) fun aq a=>?_))))⟩
  have e:=(a.ad [2] [])
  refine ⟨(sy 11 e),(hD (q (g (s (mE [V 1,V 0,V 0,T c,T be,V 3,V 0,sn,T be,V 0,sn,sn,sn] lG jP r (a.bk 2 r)) (lu (nD a 7 [V 1,V 0,V 0,T c,T be,V 3,V 0,sn,T be,V 0,sn,sn,sn] r jP r r) fun ar a=>n (kP ?_))))))⟩
  replace a:=a.ku (d:=.l none 0 ([]:List Ge)) oP
  replace a:=a.ku (d:=.l none 0 ([]:List Ge)) oP
  replace a:=a.ku (d:=.l none 0 ([]:List Gs)) oP
  replace a:=a.ku (d:=.l none 0 ([]:List Gs)) oP
  obtain rfl:=sm v
  exact jC r (uN r lG r jP r (a.bk 7 r)) (lw (lw (⟨none,0,none,0,none,0,none,0,j,m,A,o,p,B,S,U,a9,r,(a.ad [3,1,4,5,6] [3,2,1,0,5,7,8,9,10])⟩)))
 refine jI (bf Q) (Fa a [1] [] [1,2] [] [11] (by kernel_rfl) ?_)
 replace a:=a.drew
 have e:=(a.ad [1] [])
 have h:=(a.ad [1,2] [])
 refine pL 0 r (mp r) e h (pL 1 r (mp r) e h (pL 2 r (xn r) e h (pL 3 r (nL r) e h (tS 1 4 r (fun _ hS=>yF r (hS.bk 1 r) r) (mH e h) (pL 5 r (xu r) e h (tU 6 r (fun _ hS=>l9 r (hS.bk 0 r) r) (mH e h) (hO 7 (oo r r (jV a [[T c]] ([c]:List BA) (AA r) r r (by decide) ⟨r,y⟩) ?_))))))))
 rintro _ au ⟨av,rfl,a⟩
 have e:=(a.ad [2] [])
 have h:=(a.ad [2,3] [])
 refine ⟨(mH e h),?_⟩
 obtain ⟨a2,a3,v⟩:=bs v
 refine hO 8 (oo r r (kS a 4 4 r r kL pV r (by decide) (by decide) D r r (a.AJ 0 0 r r) a3) ?_)
 rintro _ aw ⟨W,X,aa,rfl,a⟩
 have e:=(a.ad [2] [])
 have h:=(a.ad [2,3] [])
 refine ⟨(mH e h),(pL 9 r (xn r) e h (pL 10 r (nL r) e h (hO 11 (os r r (lW a 3 [Z W a2 X] r pO r r) fun ax a=>?_))))⟩
 have e:=(a.ad [2] [])
 refine ⟨(sy 11 e),(hD (q (g (s (mE [V 1,V 0,V 0,T c,T be,V 0,V 0,sn,T be,V 0,sn,sn,sn] lG jP r (a.bk 2 r)) (lu (nD a 7 [V 1,V 0,V 0,T c,T be,V 0,V 0,sn,T be,V 0,sn,sn,sn] r jP r r) fun ay a=>n (kP ?_))))))⟩
 replace a:=a.ku (d:=.l none 0 ([]:List Ge)) oP
 replace a:=a.ku (d:=.l none 0 ([]:List Ge)) oP
 replace a:=a.ku (d:=.l none 0 ([]:List Gs)) oP
 replace a:=a.ku (d:=.l none 0 ([]:List Gs)) oP
 obtain rfl:=sm v
 exact jC r (uN r lG r jP r (a.bk 7 r)) (lw (lw (⟨none,0,none,0,none,0,none,0,W,X,aa,o,p,B,t,u,C,r,(a.ad [3,1,4,5,6] [3,2,1,0,5,7,8,9,10])⟩)))
def Ij (m:Gm→jR→Option (Gs × Gm × jR)):Prop:=∀ {S:World} {U:Nat→Prop} {A:Gm} {B:jR} {Q:Nat} {c:Nat} {a:Option Addr} {b:Nat} {p:Option Addr} {t:Nat} {d:Option Addr} {e:Nat} {u:List (List Value)} {C:Nat} {h:Option Addr} {i:Nat} {x:List (List Value)} {D:Nat} {j:Option Addr} {k:Nat} {z:List (List Value)} {E:Nat} {R:Gs × Gm × jR},Pre S U [.box Q 135 #[Pt c,V A.f,V A.e,Z p A.b t,Z d A.a e,Z h A.d i,Z j A.c k,V A.g,V A.h],.box c 132 #[Z a B.l b,V B.a],O C d e 9 BA u,O D h i 9 BA x,O E j k 9 BA z] [.l a b B.l,.l p t A.b,.els u A.a,.els x A.d,.els z A.c]→C≤S.heap.size→D≤S.heap.size→E≤S.heap.size→m A B=some R→
 Calls Try.prog 88 #[Pt Q] S (rf fun v w=>iA R fun F R=>iA R fun o G=>∃ (H:OA)(I:Nat)(J:OA)(K:Nat)(L:OA)(M:Nat)(N:OA)(P:Nat),v=.agg #[V F.e,V F.c,V F.n,T F.a,T F.g,V F.m,V F.j,Z H F.d I,T F.k,V F.h,Z J F.b K,Z L F.f M,Z N F.i P]∧Bx S w U (lT [.box Q 135 #[Pt c,V A.f,V A.e,Z p A.b t,Z d A.a e,Z h A.d i,Z j A.c k,V A.g,V A.h],.box c 132 #[Z a B.l b,V B.a],O C d e 9 BA u,O D h i 9 BA x,O E j k 9 BA z]) [.box Q 135 #[Pt c,V o.f,V o.e,Z p o.b t,Z d o.a e,Z h o.d i,Z j o.c k,V o.g,V o.h],.box c 132 #[Z a G.l b,V G.a],O C d e 9 BA u,O D h i 9 BA x,O E j k 9 BA z] [.l H I F.d,.l J K F.b,.l L M F.f,.l N P F.i,.l a b G.l,.l p t o.b,.els u o.a,.els x o.d,.els z o.c])
def wV (fu:Nat)(h:Gm) (p:Int)(d:jR):Option (Ld (List Ge × List Int × Int × Int × Int × Int × BA × BA × Int × Int × List Ge × BA × Int × List Gs × List Gs × Int × Int × List Int × Int × Int × List BA × List BA × List BA) (Gs × Gm × jR)):=
 if p < 2 then
  (yL fu h d (⟨3,0,0,be,be,0,0,([]:List Ge),be,0,([]:List Ge),([]:List Gs),([]:List Gs)⟩:Gs)).bind fun u=>
  iA u fun i u=>iA u fun b u=>iA u fun c a=>
  if i=true then
   if 0 < (b.a.length:Int) then
    (kM fu c 4).bind fun u=>
    iA u fun j e=>
    if 0 < j then
     (kM fu e (b.a.length:Int)).bind fun u=>
     iA u fun k m=>
     (ix b.a k).bind fun t=>
     (oO fu t).bind fun o=>
     some (.out ((⟨a.e,a.c,a.n,a.a,a.g,a.m,a.j,([o]:List Ge),a.k,a.h,a.b,a.f,a.i⟩:Gs),b,m))
    else
     some (.out (a,b,e))
   else
    some (.out (a,b,c))
  else
   some (.go (a.b,c.l,c.a,a.e,a.c,a.n,a.a,a.g,a.m,a.j,a.d,a.k,a.h,a.f,a.i,b.f,b.e,b.b,b.g,b.h,b.a,b.d,b.c))
 else
  some (.go (([]:List Ge),d.l,d.a,3,0,0,be,be,0,0,([]:List Ge),be,0,([]:List Gs),([]:List Gs),h.f,h.e,h.b,h.g,h.h,h.a,h.d,h.c))
def wX (fu:Nat)(b:Int)(a:List BA):Option (Ld (Bool) (Gs × Gm × jR)):=
 if b=6 then
  some (.go (decide (0 < (a.length:Int))))
 else
  some (.go false)
def wW (fu:Nat)(b:Int)(a:List BA):Option (Ld (Bool) (Gs × Gm × jR)):=
 if b=7 then
  some (.go (decide (0 < (a.length:Int))))
 else
  some (.go false)
def wZ (fu:Nat)(w:Int)(m:List Int) (p:Int)(e:Int)(h:Int)(i:List Int) (j:Int)(k:Int)(b:List BA) (c:List BA) (d:List BA):Option (Ld (List Ge × List Int × Int × Int × Int × List Int × Int × Int × List BA × List BA × List BA) (Gs × Gm × jR)):=
 (wX fu w c).bind fun M=>M.el (fun x=>
 if x=true then
  (kM fu (⟨m,p⟩:jR) (c.length:Int)).bind fun M=>
  iA M fun z A=>
  (ix c z).bind fun J=>
  (kM fu A 2).bind fun M=>
  iA M fun B t=>
  (ix ([(⟨#[120]⟩:BA),(⟨#[121]⟩:BA)]:List BA) B).bind fun K=>
  some (.go (([(⟨2,0,0,J,K,([]:List Ge)⟩:Ge)]:List Ge),t.l,t.a,e,h,i,j,k,b,c,d))
 else
  (wW fu w d).bind fun M=>M.el (fun C=>
  if C=true then
   (nP fu (⟨e,h,i,b,c,d,j,k⟩:Gm) (⟨m,p⟩:jR) 1).bind fun M=>
   iA M fun D M=>iA M fun a u=>
   some (.go (([D]:List Ge),u.l,u.a,a.f,a.e,a.b,a.g,a.h,a.a,a.d,a.c))
  else
   if 0 < (b.length:Int) then
    (kM fu (⟨m,p⟩:jR) (b.length:Int)).bind fun M=>
    iA M fun E v=>
    (ix b E).bind fun L=>
    (oO fu L).bind fun F=>
    some (.go (([F]:List Ge),v.l,v.a,e,h,i,j,k,b,c,d))
   else
    (mR fu (⟨e,h,i,b,c,d,j,k⟩:Gm) (⟨m,p⟩:jR) 0).bind fun M=>
    iA M fun G M=>iA M fun H I=>
    some (.out ((⟨9,0,0,be,be,0,0,([]:List Ge),be,0,([G]:List Ge),([]:List Gs),([]:List Gs)⟩:Gs),H,I))
  ) (fun o=>some (.out o))
 ) (fun o=>some (.out o))
def xR (fu:Nat)(Y:Gm) (E:jR):Option (Gs × Gm × jR):=
 (kM fu E 8).bind fun a0=>
 iA a0 fun c F=>
 (wV fu Y c F).bind fun a0=>a0.el (fun a0=>
 iA a0 fun P a0=>iA a0 fun G a0=>iA a0 fun H a0=>iA a0 fun Q a0=>iA a0 fun R a0=>iA a0 fun S a0=>iA a0 fun U a0=>iA a0 fun W a0=>iA a0 fun X a0=>iA a0 fun I a0=>iA a0 fun J a0=>iA a0 fun K a0=>iA a0 fun L a0=>iA a0 fun M a0=>iA a0 fun N a0=>iA a0 fun d a0=>iA a0 fun e a0=>iA a0 fun f a0=>iA a0 fun h a0=>iA a0 fun i a0=>iA a0 fun j a0=>iA a0 fun k l=>
 (wZ fu c G H d e f h i j k l).bind fun a0=>a0.el (fun a0=>
 iA a0 fun m a0=>iA a0 fun p a0=>iA a0 fun t a0=>iA a0 fun u a0=>iA a0 fun v a0=>iA a0 fun w a0=>iA a0 fun x a0=>iA a0 fun z a0=>iA a0 fun A a0=>iA a0 fun a b=>
 (mR fu (⟨u,v,w,A,a,b,x,z⟩:Gm) (⟨p,t⟩:jR) 0).bind fun a0=>
 iA a0 fun B a0=>iA a0 fun C D=>
 some ((⟨2,0,0,be,be,0,0,m,be,0,([B]:List Ge),([]:List Gs),([]:List Gs)⟩:Gs),C,D)
 ) (fun o=>some o)
 ) (fun o=>some o)
theorem Ib (fu:Nat):Ij (xR fu):=by
 intro w0 du x0 bC al B t u N Q C D S ab E F U ac H I W ae R hP am an ao o
 unfold xR at o
 have b:=hP.bx
 clear hP
 generalize hG:lT _=G at b ⊢
 refine cf Try.func88 r ?_
 refine ma [(0,Pt al)] ⟨r,y⟩ fun dv=>?_
 refine q (g (tL b (ko jP) fun w1 b1 b=>?_))
 refine n (q (g (s (Eb r) (tL b (ko jP) fun w2 b2 b=>?_))))
 refine lu (nD b 0 [V 3,V 0,V 0,T be,T be,V 0,V 0,sn,T be,V 0,sn,sn,sn] r jP r r) fun w3 b=>?_
 refine n (q (g (s (mp r) (s (xn r) (s (qm r) (s (yE r (b.bk 2 r) r) ?_))))))
 obtain ⟨bD,bE,h4,o⟩:=lV o
 have hc:=(kr fu) (b.pr [3] [0,1,2,4,5,6] [0] r)  h4
 refine sc (ec pG r) hc ?_
 rintro _ w4 ⟨rfl,hK⟩
 replace b:=b.cn [3] [0,1,2,4,5,6] hK
 refine s (xi r) (n (q ?_))
 replace b:=b.BQ Ge 138
 obtain ⟨Y6,p,o⟩:=bs o
 refine oC (fun f w=>∃ (b9:List Ge) (aT:OA)(aU:Nat)(aV:LV)(aj:List Int) (aQ:Int)(bg:Int)(bh:Int)(bi:Int)(bj:BA) (bl:BA) (bm:Int)(aW:Int)(aD:List Ge) (aE:OA)(aF:Nat)(aX:BA) (aY:Int)(aG:List Gs) (aH:OA)(aI:Nat)(aJ:List Gs) (aK:OA)(aL:Nat)(a3:Int)(a4:Int)(J:List Int) (a5:Int)(a6:Int)(K:List BA) (z:List BA) (A:List BA),Has f [(0,Pt al),(2,Pt b1),(3,Pt b2),(4,V bD)]∧Bx w0 w du G [O w0.heap.size aT aU 138 Ge aV,.box B 132 #[Z t aj u,V aQ],.box b2 111 #[V bg,V bh,V bi,T bj,T bl,V bm,V aW,Z aE aD aF,T aX,V aY,Z aT b9 aU,Z aH aG aI,Z aK aJ aL],.box b1 111 #[V 0,V 0,V 0,T be,T be,V 0,V 0,sn,T be,V 0,sn,sn,sn],.box al 135 #[Pt B,V a3,V a4,Z N J Q,Z C K D,Z E z F,Z H A I,V a5,V a6],O ab C D 9 BA S,O ac E F 9 BA U,O ae H I 9 BA W] [.l t u aj,.l aE aF aD,.l aH aI aG,.l aK aL aJ,.l N Q J,.els aV b9,.els S K,.els U z,.els W A]∧Ld.go (b9,aj,aQ,bg,bh,bi,bj,bl,bm,aW,aD,aX,aY,aG,aJ,a3,a4,J,a5,a6,K,z,A)=Y6) (fun J6 bT=>?_) ?_
 ·unfold wV at p
  refine q (g (s (mi r) (s (qB r r) (s (jZ r) ?_))))
  rcases iv p with ⟨h7,p⟩|⟨h7,p⟩
  ·rw [decide_eq_true h7]
   refine jQ r (s (mp r) ?_)
   replace b:=b.ku (d:=.l none 0 ([]:List Ge)) oP
   replace b:=b.ku (d:=.l none 0 ([]:List Gs)) oP
   replace b:=b.ku (d:=.l none 0 ([]:List Gs)) oP
   obtain ⟨c2,a7,bn,a,c3,p⟩:=Ur p
   refine jQ r ?_
   have hc:=(E5 fu) (b.pr [4,1,5,6,7,2,0] [3] [4,6,7,8,9,2,3,1,0] r) (b.le am) (b.le an) (b.le ao) b.rX.size c3
   refine sc (ec Rc r) hc ?_
   rintro _ cE ⟨e,j,aZ,rfl,hK⟩
   replace b:=b.cn [4,1,5,6,7,2,0] [3] hK
   refine s (jN r r) (n ?_)
   rcases iv p with ⟨bo,p⟩|⟨bo,p⟩
   ·refine jH (cb bo) (q (q (g (s (mp r) (s (xn r) (s (nL r) (s (yF r (b.bk 0 r) r) (s (lg kL r) (s (vG r r) (s (jZ r) ?_))))))))))
    rcases iv p with ⟨bI,p⟩|⟨bI,p⟩
    ·rw [decide_eq_true bI]
     refine jQ r (s (mp r) (jQ r (s (xn r) (jQ r (s (qm r) (jQ r (s (yE r (b.bk 0 r) r) ?_)))))))
     obtain ⟨c4,c5,c6,p⟩:=lV p
     refine jQ r ?_
     have hc:=(kr fu) (b.pr [1] [0,2,3,4,5,6,7] [0] r)  c6
     refine sc (ec pG r) hc ?_
     rintro _ cF ⟨rfl,hK⟩
     replace b:=b.cn [1] [0,2,3,4,5,6,7] hK
     refine jQ r (s (vG r r) (s (jN r r) (n ?_)))
     rcases iv p with ⟨bJ,p⟩|⟨bJ,p⟩
     ·refine jH (bt bJ) (oJ b [1,2] [3] [] (by kernel_rfl) ?_)
      replace b:=b.drew
      have m:=(b.ad [1,2] [3])
      refine pF 0 r (mp r) m (pF 1 r (xn r) m (pF 2 r (nL r) m (uF 3 r (fun hS=>yF r (hS.bk 0 r) r) m (pF 4 r (mp r) m (pF 5 r (xn r) m (pF 6 r (qm r) m (uF 7 r (fun hS=>yE r (hS.bk 0 r) r) m (pF 8 r (mp r) m (pF 9 r (xn r) m (pF 10 r (nL r) m (uF 11 r (fun hS=>yF r (hS.bk 0 r) r) m (pF 12 r (lg kL r) m ?_))))))))))))
      obtain ⟨c7,c8,c9,p⟩:=lV p
      have hc:=(kr fu) (b.pr [0] [1,2,3,4,5,6,7] [0] r)  c9
      refine hO 13 (oc r r (ec pG r) hc ?_)
      rintro _ cG ⟨rfl,hK⟩
      replace b:=b.cn [0] [1,2,3,4,5,6,7] hK
      have m:=(b.ad [1,2] [4])
      refine ⟨(sF m),?_⟩
      obtain ⟨cc,ba,p⟩:=bs p
      obtain ⟨cH,bU,ba⟩:=kG ba
      refine pF 14 r (kZ kL pV r r bU (b.vw 2 4 r r) ba) m (tU 15 r (fun _ hS=>kz rH r r ((vo (ds:=[T cc]) (hS.vw 1 0 r r) ba (fun _ h=>h)) 0 _ r)) (sF m) ?_)
      obtain ⟨L,cd,p⟩:=bs p
      have hc:=(ql fu) (b.pr [] [0,1,2,3,4,5,6,7] [] r)  cd
      refine hO 16 (oc r r (ec ER r) hc ?_)
      rintro _ cI ⟨au,av,rfl,hK⟩
      replace b:=b.cn [] [0,1,2,3,4,5,6,7] hK
      have m:=(b.ad [1,2] [5])
      refine ⟨(sF m),?_⟩
      refine hO 17 (oo r r (jV b [[V L.e,V L.d,V L.j,T L.a,T L.c,Z au L.b av]] ([L]:List Ge) (kX r) r r (by decide) ⟨(jL.tQ ⟨au,av,r,(b.dl 0 r)⟩),y⟩) ?_)
      rintro _ cJ ⟨bc,rfl,b⟩
      have m:=(b.ad [2,3] [6])
      refine ⟨(sF m),?_⟩
      refine pF 18 r (uA r) m ?_
      refine hO 19 (os r r (lW b 6 [.slice (ad bc) ([L]:List Ge).length 1] r uk r r) fun cK b=>?_)
      have m:=(b.ad [2,3] [6])
      refine ⟨(sF m),?_⟩
      refine hD (q (g (s (mE [V a.e,V a.c,V a.n,T a.a,T a.g,V a.m,V a.j,.slice (ad bc) ([L]:List Ge).length 1,T a.k,V a.h,Z e a.b j,Z none a.f 0,Z none a.i 0] lG jP r (b.bk 6 r)) (lu (nD b 8 [V a.e,V a.c,V a.n,T a.a,T a.g,V a.m,V a.j,.slice (ad bc) ([L]:List Ge).length 1,T a.k,V a.h,Z e a.b j,Z none a.f 0,Z none a.i 0] r jP r r) fun cL b=>?_))))
      refine n (kP ?_)
      replace b:=b.fz 0 0 r r
      replace b:=b.fz 6 10 r r
      obtain rfl:=sm p
      replace o:=oi o
      obtain rfl:=sm o
      refine jC r (uN r lG r jP r (b.bk 6 r)) ?_
      exact lw (lw (⟨(ad bc),1,e,j,none,0,none,0,r,(b.ad [1,0,2,3,4] [1,0,11,12,3,6,7,8,9])⟩))
     refine jI (bf bJ) (wk (q (g (s (mE [V a.e,V a.c,V a.n,T a.a,T a.g,V a.m,V a.j,Z none a.d 0,T a.k,V a.h,Z e a.b j,Z none a.f 0,Z none a.i 0] lG jP r (b.bk 5 r)) (lu (nD b 7 [V a.e,V a.c,V a.n,T a.a,T a.g,V a.m,V a.j,Z none a.d 0,T a.k,V a.h,Z e a.b j,Z none a.f 0,Z none a.i 0] r jP r r) fun cM b=>?_)))))
     refine n (kP ?_)
     replace b:=b.fz 6 7 r r
     obtain rfl:=sm p
     replace o:=oi o
     obtain rfl:=sm o
     refine jC r (uN r lG r jP r (b.bk 6 r)) ?_
     exact lw (lw (⟨none,0,e,j,none,0,none,0,r,(b.ad [1,0,2,3,4] [7,0,8,9,1,3,4,5,6])⟩))
    rw [decide_eq_false bI]
    refine jB r (jB r (jB r (jB r (jB r (jB r (s (jX r r) (n (jI r (wk (q (g (s (mE [V a.e,V a.c,V a.n,T a.a,T a.g,V a.m,V a.j,Z none a.d 0,T a.k,V a.h,Z e a.b j,Z none a.f 0,Z none a.i 0] lG jP r (b.bk 5 r)) (lu (nD b 7 [V a.e,V a.c,V a.n,T a.a,T a.g,V a.m,V a.j,Z none a.d 0,T a.k,V a.h,Z e a.b j,Z none a.f 0,Z none a.i 0] r jP r r) fun cN b=>?_)))))))))))))
    refine n (kP ?_)
    replace b:=b.fz 6 6 r r
    obtain rfl:=sm p
    replace o:=oi o
    obtain rfl:=sm o
    refine jC r (uN r lG r jP r (b.bk 6 r)) ?_
    exact lw (lw (⟨none,0,e,j,none,0,none,0,r,(b.ad [0,1,2,3,4] [6,0,7,8,1,2,3,4,5])⟩))
   replace bo:=nt bo
   refine jI (cb bo) (wk ?_)
   exact bT _ _ ⟨a.b,e,j,aZ,bn.l,bn.a,a.e,a.c,a.n,a.a,a.g,a.m,a.j,a.d,none,0,a.k,a.h,a.f,none,0,a.i,none,0,a7.f,a7.e,a7.b,a7.g,a7.h,a7.a,a7.d,a7.c,⟨r,r,r,r,y⟩,(b.ad [6,1,5,7,0,2,3,4] [0,5,7,8,1,6,2,3,4]),sm p⟩
  rw [decide_eq_false h7]
  refine jB r (jB r (s (jX r r) (n (jI r (wk ?_)))))
  replace b:=b.ku (d:=.l none 0 ([]:List Ge)) oP
  replace b:=b.ku (d:=.l none 0 ([]:List Gs)) oP
  replace b:=b.ku (d:=.l none 0 ([]:List Gs)) oP
  exact bT _ _ ⟨([]:List Ge),none,0,[],bE.l,bE.a,3,0,0,be,be,0,0,([]:List Ge),none,0,be,0,([]:List Gs),none,0,([]:List Gs),none,0,x0.f,x0.e,x0.b,x0.g,x0.h,x0.a,x0.d,x0.c,⟨r,r,r,r,y⟩,(b.dp [4,2,1,0,6,3,7,8,9]),sm p⟩
 clear b
 rintro f w ⟨b9,aT,aU,aV,aj,aQ,bg,bh,bi,bj,bl,bm,aW,aD,aE,aF,aX,aY,aG,aH,aI,aJ,aK,aL,a3,a4,J,a5,a6,K,z,A,hf,b,cg⟩
 obtain ⟨dv,rfl⟩:=gP _ _ hf
 clear hf
 subst cg
 replace o:=gi o
 replace o:=pi (mf (mf (mf (mf (mf (mf (mf o)))))))
 refine q (g (s (Eb r) (lu (nD b 2 [V 2,V 0,V 0,T be,T be,V 0,V 0,sn,T be,V 0,sn,sn,sn] r jP r r) fun cO b=>?_)))
 refine n (q ?_)
 replace b:=b.BQ Ge 138
 obtain ⟨ch,c,o⟩:=bs o
 refine oC (fun f w=>∃ (a8:List Ge) (X:OA)(Y:Nat)(aM:LV)(aN:List Int) (b0:Int)(b3:Int)(b4:Int)(aO:List Int) (b5:Int)(b6:Int)(aP:List BA) (ap:List BA) (aq:List BA),Has f [(0,Pt al),(2,Pt b1),(3,Pt b2)]∧Bx w0 w du G [O w0.heap.size X Y 138 Ge aM,.box B 132 #[Z t aN u,V b0],.box b2 111 #[V 2,V 0,V 0,T be,T be,V 0,V 0,Z X a8 Y,T be,V 0,sn,sn,sn],.box b1 111 #[V 0,V 0,V 0,T be,T be,V 0,V 0,sn,T be,V 0,sn,sn,sn],.box al 135 #[Pt B,V b3,V b4,Z N aO Q,Z C aP D,Z E ap F,Z H aq I,V b5,V b6],O ab C D 9 BA S,O ac E F 9 BA U,O ae H I 9 BA W] [.l t u aN,.l N Q aO,.els aM a8,.els S aP,.els U ap,.els W aq]∧Ld.go (a8,aN,b0,b3,b4,aO,b5,b6,aP,ap,aq)=ch) (fun cP bp=>?_) ?_
 ·unfold wZ at c
  refine nZ (q ?_)
  obtain ⟨ci,aw,c⟩:=bs c
  refine oC (fun f w=>∃ (b7:Bool),Has f [(0,Pt al),(2,Pt b1),(3,Pt b2),(4,V bD),(56,.bool b7)]∧Bx w0 w du G [O w0.heap.size none 0 138 Ge [],.box B 132 #[Z t aj u,V aQ],.box b2 111 #[V 2,V 0,V 0,T be,T be,V 0,V 0,.slice none ([]:List Ge).length 0,T be,V 0,sn,sn,sn],.box b1 111 #[V 0,V 0,V 0,T be,T be,V 0,V 0,sn,T be,V 0,sn,sn,sn],.box al 135 #[Pt B,V a3,V a4,Z N J Q,Z C K D,Z E z F,Z H A I,V a5,V a6],O ab C D 9 BA S,O ac E F 9 BA U,O ae H I 9 BA W] [.els [] ([]:List Ge),.l t u aj,.l N Q J,.els S K,.els U z,.els W A]∧Ld.go b7=ci) (fun cQ bF=>?_) ?_
  ·unfold wX at aw
   refine g (s (mi r) (s (kK r r) (s (jZ r) ?_)))
   rcases iv aw with ⟨bK,aw⟩|⟨bK,aw⟩
   ·rw [decide_eq_true bK]
    refine jQ r (s (mp r) (jQ r (s (xn r) (jQ r (s (rE r) (jQ r (s (yF r (b.bk 5 r) r) (jQ r (s (lg kL r) (jQ r (s (vG r r) (s (jN r r) (s (jU r) ?_)))))))))))))
    refine n ?_
    exact bF _ _ ⟨(decide (0 < (z.length:Int))),⟨r,r,r,r,r,y⟩,(b.ad [0,2,3,4,5,6,7,8] [0,1,5,7,8,9]),sm aw⟩
   rw [decide_eq_false bK]
   refine jB r (jB r (jB r (jB r (jB r (jB r (s (jX r r) (s (jU r) (n ?_))))))))
   exact bF _ _ ⟨false,⟨r,r,r,r,r,y⟩,(b.ad [0,2,3,4,5,6,7,8] [0,1,5,7,8,9]),sm aw⟩
  clear b
  rintro f w ⟨b7,hf,b,bV⟩
  obtain ⟨dv,rfl⟩:=gP _ _ hf
  clear hf
  subst bV
  replace c:=gi c
  rcases iv c with ⟨bq,c⟩|⟨bq,c⟩
  ·refine jH (cb bq) ?_
   obtain ⟨cj,ck,bW,c⟩:=lV c
   obtain ⟨a1,ax,c⟩:=bs c
   obtain ⟨cR,bG,ax⟩:=kG ax
   obtain ⟨cm,ar,bL,c⟩:=lV c
   obtain ⟨a0,ak,c⟩:=bs c
   obtain ⟨cS,br,ak⟩:=kG ak
   refine oC (fun f w=>∃ (aR:Nat),Has f [(0,Pt al),(2,Pt b1),(3,Pt b2)]∧Bx w0 w du G [.box B 132 #[Z t ar.l u,V ar.a],.box b2 111 #[V 2,V 0,V 0,T be,T be,V 0,V 0,.slice (ad aR) ([(⟨2,0,0,a1,a0,([]:List Ge)⟩:Ge)]:List Ge).length 1,T be,V 0,sn,sn,sn],.box b1 111 #[V 0,V 0,V 0,T be,T be,V 0,V 0,sn,T be,V 0,sn,sn,sn],.box al 135 #[Pt B,V a3,V a4,Z N J Q,Z C K D,Z E z F,Z H A I,V a5,V a6],O ab C D 9 BA S,O ac E F 9 BA U,O ae H I 9 BA W,O w0.heap.size (ad aR) 1 138 Ge [[V 2,V 0,V 0,T a1,T a0,sn]]] [.l N Q J,.els S K,.els U z,.els W A,.els [[V 2,V 0,V 0,T a1,T a0,sn]] ([(⟨2,0,0,a1,a0,([]:List Ge)⟩:Ge)]:List Ge),.l t u ar.l]) (fun Jd hJd=>?_) ?_
   ·refine oJ b [4,6] [4] [] (by kernel_rfl) ?_
    replace b:=b.drew
    have m:=(b.ad [4,6] [4])
    refine pF 0 r (mp r) m (pF 1 r (xn r) m (pF 2 r (rE r) m (uF 3 r (fun hS=>yF r (hS.bk 0 r) r) m (pF 4 r (mp r) m (pF 5 r (xn r) m (pF 6 r (qm r) m (uF 7 r (fun hS=>yE r (hS.bk 0 r) r) m (pF 8 r (mp r) m (pF 9 r (xn r) m (pF 10 r (rE r) m (uF 11 r (fun hS=>yF r (hS.bk 0 r) r) m (pF 12 r (lg kL r) m (pF 17 r (mp r) m ?_)))))))))))))
    refine pF 18 r (xn r) m (pF 19 r (qm r) m (uF 20 r (fun hS=>yE r (hS.bk 0 r) r) m ?_))
    refine nI 13 [16] (by kernel_rfl) (jS ?_ (jS ?_ lX))
    ·have hc:=(kr fu) (b.pr [1] [0,2,3,4,5,6,7] [1] r)  bW
     refine oc r r (ec pG r) hc ?_
     rintro _ cn ⟨rfl,hK⟩
     replace b:=b.cn [1] [0,2,3,4,5,6,7] hK
     have m:=(b.ad [4,6] [5])
     refine ⟨(sF m),?_⟩
     refine pF 14 r (kZ kL pV r r bG (b.vw 6 5 r r) ax) m (tU 15 r (fun _ hS=>kz rH r r ((vo (ds:=[T a1]) (hS.vw 1 0 r r) ax (fun _ h=>h)) 0 _ r)) (sF m) ?_)
     refine nI 16 [21] (by kernel_rfl) (jS ?_ (jS ?_ lX))
     ·refine oo r r (jV b [[T (⟨#[120]⟩:BA)],[T (⟨#[121]⟩:BA)]] ([(⟨#[120]⟩:BA),(⟨#[121]⟩:BA)]:List BA) (wF r r) r r (by decide) ⟨r,⟨r,y⟩⟩) ?_
      rintro _ cT ⟨cU,rfl,b⟩
      have m:=(b.ad [5,7] [6])
      refine ⟨(sF m),?_⟩
      have hc:=(kr fu) (b.pr [1] [0,2,3,4,5,6,7,8] [1] r)  bL
      refine hO 21 (oc r r (ec pG r) hc ?_)
      rintro _ bX ⟨rfl,hK⟩
      replace b:=b.cn [1] [0,2,3,4,5,6,7,8] hK
      have m:=(b.ad [5,7] [7])
      refine ⟨(sF m),?_⟩
      refine pF 22 r (kZ kL pV r r br (b.vw 1 1 r r) ak) m ?_
      refine hO 23 (vI r r (kz rH r r ((vo (ds:=[T a0]) (b.vw 1 1 r r) ak (fun _ h=>h)) 0 _ r)) (sF m) ?_)
      refine pF 24 r (vK r r r) m ?_
      refine hO 25 (oo r r (jV b [[V 2,V 0,V 0,T a1,T a0,sn]] ([(⟨2,0,0,a1,a0,([]:List Ge)⟩:Ge)]:List Ge) (kX r) r r (by decide) ⟨(jL.tQ ⟨none,0,r,oP⟩),y⟩) ?_)
      rintro _ cV ⟨aR,rfl,b⟩
      have m:=(b.ad [6,8] [8])
      refine ⟨(sF m),?_⟩
      refine pF 26 r (uA r) m ?_
      refine hO 27 (os r r (lW b 4 [.slice (ad aR) ([(⟨2,0,0,a1,a0,([]:List Ge)⟩:Ge)]:List Ge).length 1] r uk r r) fun cW b=>?_)
      have m:=(b.ad [6,8] [8])
      refine ⟨(sF m),?_⟩
      refine hD ?_
      exact hJd _ _ ⟨aR,⟨r,r,r,y⟩,(b.ad [1,4,5,6,7,8,9,0] [6,7,8,9,0,1])⟩
     have hc:=(kr fu) (b.pr [0] [1,2,3,4,5,6,7] [0] r)  bL
     refine oc r r (ec pG r) hc ?_
     rintro _ bX ⟨rfl,hK⟩
     replace b:=b.cn [0] [1,2,3,4,5,6,7] hK
     have m:=(b.ad [4,6] [6])
     refine ⟨(sF m),?_⟩
     refine hO 16 (oo r r (jV b [[T (⟨#[120]⟩:BA)],[T (⟨#[121]⟩:BA)]] ([(⟨#[120]⟩:BA),(⟨#[121]⟩:BA)]:List BA) (wF r r) r r (by decide) ⟨r,⟨r,y⟩⟩) ?_)
     rintro _ cX ⟨cY,rfl,b⟩
     have m:=(b.ad [5,7] [7])
     refine ⟨(sF m),?_⟩
     refine pF 22 r (kZ kL pV r r br (b.vw 0 0 r r) ak) m ?_
     refine hO 23 (vI r r (kz rH r r ((vo (ds:=[T a0]) (b.vw 0 0 r r) ak (fun _ h=>h)) 0 _ r)) (sF m) ?_)
     refine pF 24 r (vK r r r) m ?_
     refine hO 25 (oo r r (jV b [[V 2,V 0,V 0,T a1,T a0,sn]] ([(⟨2,0,0,a1,a0,([]:List Ge)⟩:Ge)]:List Ge) (kX r) r r (by decide) ⟨(jL.tQ ⟨none,0,r,oP⟩),y⟩) ?_)
     rintro _ cZ ⟨bM,rfl,b⟩
     have m:=(b.ad [6,8] [8])
     refine ⟨(sF m),?_⟩
     refine pF 26 r (uA r) m ?_
     refine hO 27 (os r r (lW b 4 [.slice (ad bM) ([(⟨2,0,0,a1,a0,([]:List Ge)⟩:Ge)]:List Ge).length 1] r uk r r) fun d0 b=>?_)
     have m:=(b.ad [6,8] [8])
     refine ⟨(sF m),?_⟩
     refine hD ?_
     exact hJd _ _ ⟨bM,⟨r,r,r,y⟩,(b.ad [2,4,5,6,7,8,9,0] [6,7,8,9,0,2])⟩
    refine oo r r (jV b [[T (⟨#[120]⟩:BA)],[T (⟨#[121]⟩:BA)]] ([(⟨#[120]⟩:BA),(⟨#[121]⟩:BA)]:List BA) (wF r r) r r (by decide) ⟨r,⟨r,y⟩⟩) ?_
    rintro _ d1 ⟨d2,rfl,b⟩
    have m:=(b.ad [5,7] [5])
    refine ⟨(sF m),?_⟩
    have hc:=(kr fu) (b.pr [2] [0,1,3,4,5,6,7,8] [2] r)  bW
    refine hO 13 (oc r r (ec pG r) hc ?_)
    rintro _ cn ⟨rfl,hK⟩
    replace b:=b.cn [2] [0,1,3,4,5,6,7,8] hK
    have m:=(b.ad [5,7] [6])
    refine ⟨(sF m),?_⟩
    refine pF 14 r (kZ kL pV r r bG (b.vw 7 6 r r) ax) m (tU 15 r (fun _ hS=>kz rH r r ((vo (ds:=[T a1]) (hS.vw 1 0 r r) ax (fun _ h=>h)) 0 _ r)) (sF m) ?_)
    have hc:=(kr fu) (b.pr [0] [1,2,3,4,5,6,7,8] [0] r)  bL
    refine hO 21 (oc r r (ec pG r) hc ?_)
    rintro _ bX ⟨rfl,hK⟩
    replace b:=b.cn [0] [1,2,3,4,5,6,7,8] hK
    have m:=(b.ad [5,7] [7])
    refine ⟨(sF m),?_⟩
    refine pF 22 r (kZ kL pV r r br (b.vw 1 2 r r) ak) m ?_
    refine hO 23 (vI r r (kz rH r r ((vo (ds:=[T a0]) (b.vw 1 2 r r) ak (fun _ h=>h)) 0 _ r)) (sF m) ?_)
    refine pF 24 r (vK r r r) m ?_
    refine hO 25 (oo r r (jV b [[V 2,V 0,V 0,T a1,T a0,sn]] ([(⟨2,0,0,a1,a0,([]:List Ge)⟩:Ge)]:List Ge) (kX r) r r (by decide) ⟨(jL.tQ ⟨none,0,r,oP⟩),y⟩) ?_)
    rintro _ d3 ⟨bN,rfl,b⟩
    have m:=(b.ad [6,8] [8])
    refine ⟨(sF m),?_⟩
    refine pF 26 r (uA r) m ?_
    refine hO 27 (os r r (lW b 4 [.slice (ad bN) ([(⟨2,0,0,a1,a0,([]:List Ge)⟩:Ge)]:List Ge).length 1] r uk r r) fun d4 b=>?_)
    have m:=(b.ad [6,8] [8])
    refine ⟨(sF m),?_⟩
    refine hD ?_
    exact hJd _ _ ⟨bN,⟨r,r,r,y⟩,(b.ad [1,4,5,6,7,8,9,0] [6,7,8,9,0,1])⟩
   clear b
   rintro f w ⟨aR,hf,b⟩
   obtain ⟨dv,rfl⟩:=gP _ _ hf
   clear hf
   exact bp _ _ ⟨([(⟨2,0,0,a1,a0,([]:List Ge)⟩:Ge)]:List Ge),(ad aR),1,[[V 2,V 0,V 0,T a1,T a0,sn]],ar.l,ar.a,a3,a4,J,a5,a6,K,z,A,⟨r,r,r,y⟩,(b.ad [7,0,1,2,3,4,5,6] [5,0,4,1,2,3]),sm c⟩
  replace bq:=nt bq
  refine jI (cb bq) (q ?_)
  obtain ⟨co,ay,c⟩:=bs c
  refine oC (fun f w=>∃ (b8:Bool),Has f [(0,Pt al),(2,Pt b1),(3,Pt b2),(94,.bool b8)]∧Bx w0 w du G [O w0.heap.size none 0 138 Ge [],.box B 132 #[Z t aj u,V aQ],.box b2 111 #[V 2,V 0,V 0,T be,T be,V 0,V 0,.slice none ([]:List Ge).length 0,T be,V 0,sn,sn,sn],.box b1 111 #[V 0,V 0,V 0,T be,T be,V 0,V 0,sn,T be,V 0,sn,sn,sn],.box al 135 #[Pt B,V a3,V a4,Z N J Q,Z C K D,Z E z F,Z H A I,V a5,V a6],O ab C D 9 BA S,O ac E F 9 BA U,O ae H I 9 BA W] [.els [] ([]:List Ge),.l t u aj,.l N Q J,.els S K,.els U z,.els W A]∧Ld.go b8=co) (fun d5 bH=>?_) ?_
  ·unfold wW at ay
   refine g (s (mi r) (s (kK r r) (s (jZ r) ?_)))
   rcases iv ay with ⟨bO,ay⟩|⟨bO,ay⟩
   ·rw [decide_eq_true bO]
    refine jQ r (s (mp r) (jQ r (s (xn r) (jQ r (s (tJ r) (jQ r (s (yF r (b.bk 4 r) r) (jQ r (s (lg kL r) (jQ r (s (vG r r) (s (jN r r) (s (jU r) ?_)))))))))))))
    refine n ?_
    exact bH _ _ ⟨(decide (0 < (A.length:Int))),⟨r,r,r,r,y⟩,b,sm ay⟩
   rw [decide_eq_false bO]
   refine jB r (jB r (jB r (jB r (jB r (jB r (s (jX r r) (s (jU r) (n ?_))))))))
   exact bH _ _ ⟨false,⟨r,r,r,r,y⟩,b,sm ay⟩
  clear b
  rintro f w ⟨b8,hf,b,bY⟩
  obtain ⟨dv,rfl⟩:=gP _ _ hf
  clear hf
  subst bY
  replace c:=gi c
  rcases iv c with ⟨bu,c⟩|⟨bu,c⟩
  ·refine jH (cb bu) (g (s (mp r) ?_))
   obtain ⟨v,a9,bv,cp,c⟩:=qG c
   have hc:=(GI fu) (b.pr [4,1,5,6,7] [0,2,3] [1,2,3,4,5] r) (b.le am) (b.le an) (b.le ao) cp
   refine sc (ec Pw r) hc ?_
   rintro _ d6 ⟨af,ag,rfl,hK⟩
   replace b:=b.cn [4,1,5,6,7] [0,2,3] hK
   refine qF (jV b [[V v.e,V v.d,V v.j,T v.a,T v.c,Z af v.b ag]] ([v]:List Ge) (kX r) r r (by decide) ⟨(jL.tQ ⟨af,ag,r,(b.dl 0 r)⟩),y⟩) ?_
   rintro _ d7 ⟨bP,rfl,b⟩
   refine s (uA r) (lu (lW b 7 [.slice (ad bP) ([v]:List Ge).length 1] r uk r r) fun d8 b=>?_)
   refine n ?_
   exact bp _ _ ⟨([v]:List Ge),(ad bP),1,[[V v.e,V v.d,V v.j,T v.a,T v.c,Z af v.b ag]],bv.l,bv.a,a9.f,a9.e,a9.b,a9.g,a9.h,a9.a,a9.d,a9.c,⟨r,r,r,y⟩,(b.ad [0,2,7,8,1,3,4,5] [2,3,0,4,5,6]),sm c⟩
  replace bu:=nt bu
  refine jI (cb bu) (q (g (s (mp r) (s (xn r) (s (nL r) (s (yF r (b.bk 4 r) r) (s (lg kL r) (s (vG r r) (s (jU r) (n ?_))))))))))
  rcases iv c with ⟨bQ,c⟩|⟨bQ,c⟩
  ·refine jH (bt bQ) (oJ b [4,5] [3] [] (by kernel_rfl) ?_)
   replace b:=b.drew
   have m:=(b.ad [4,5] [3])
   refine pF 0 r (mp r) m (pF 1 r (xn r) m (pF 2 r (nL r) m (uF 3 r (fun hS=>yF r (hS.bk 0 r) r) m (pF 4 r (mp r) m (pF 5 r (xn r) m (pF 6 r (qm r) m (uF 7 r (fun hS=>yE r (hS.bk 0 r) r) m (pF 8 r (mp r) m (pF 9 r (xn r) m (pF 10 r (nL r) m (uF 11 r (fun hS=>yF r (hS.bk 0 r) r) m (pF 12 r (lg kL r) m ?_))))))))))))
   obtain ⟨cq,bw,cr,c⟩:=lV c
   have hc:=(kr fu) (b.pr [1] [0,2,3,4,5,6,7] [1] r)  cr
   refine hO 13 (oc r r (ec pG r) hc ?_)
   rintro _ d9 ⟨rfl,hK⟩
   replace b:=b.cn [1] [0,2,3,4,5,6,7] hK
   have m:=(b.ad [4,5] [4])
   refine ⟨(sF m),?_⟩
   obtain ⟨ct,bb,c⟩:=bs c
   obtain ⟨da,bZ,bb⟩:=kG bb
   refine pF 14 r (kZ kL pV r r bZ (b.vw 5 4 r r) bb) m (tU 15 r (fun _ hS=>kz rH r r ((vo (ds:=[T ct]) (hS.vw 1 0 r r) bb (fun _ h=>h)) 0 _ r)) (sF m) ?_)
   obtain ⟨x,cu,c⟩:=bs c
   have hc:=(ql fu) (b.pr [] [0,1,2,3,4,5,6,7] [] r)  cu
   refine hO 16 (oc r r (ec ER r) hc ?_)
   rintro _ db ⟨ah,ai,rfl,hK⟩
   replace b:=b.cn [] [0,1,2,3,4,5,6,7] hK
   have m:=(b.ad [4,5] [5])
   refine ⟨(sF m),?_⟩
   refine hO 17 (oo r r (jV b [[V x.e,V x.d,V x.j,T x.a,T x.c,Z ah x.b ai]] ([x]:List Ge) (kX r) r r (by decide) ⟨(jL.tQ ⟨ah,ai,r,(b.dl 0 r)⟩),y⟩) ?_)
   rintro _ Tj ⟨bR,rfl,b⟩
   have m:=(b.ad [5,6] [6])
   refine ⟨(sF m),?_⟩
   refine pF 18 r (uA r) m ?_
   refine hO 19 (os r r (lW b 3 [.slice (ad bR) ([x]:List Ge).length 1] r uk r r) fun dc b=>?_)
   have m:=(b.ad [5,6] [6])
   refine ⟨(sF m),?_⟩
   refine hD ?_
   exact bp _ _ ⟨([x]:List Ge),(ad bR),1,[[V x.e,V x.d,V x.j,T x.a,T x.c,Z ah x.b ai]],bw.l,bw.a,a3,a4,J,a5,a6,K,z,A,⟨r,r,r,y⟩,(b.ad [0,1,3,4,5,6,7,8] [2,5,0,6,7,8]),sm c⟩
  refine jI (bf bQ) (q (g (s (mp r) ?_)))
  obtain ⟨a2,cv,cw,cx,c⟩:=qG c
  have hc:=(ut fu) (b.pr [4,1,5,6,7] [0,2,3] [1,2,3,4,5] r) (b.le am) (b.le an) (b.le ao) cx
  refine sc (ec Bg r) hc ?_
  rintro _ dd ⟨az,aA,rfl,hK⟩
  replace b:=b.cn [4,1,5,6,7] [0,2,3] hK
  refine qF (jV b [[V a2.e,V a2.d,V a2.j,T a2.a,T a2.c,Z az a2.b aA]] ([a2]:List Ge) (kX r) r r (by decide) ⟨(jL.tQ ⟨az,aA,r,(b.dl 0 r)⟩),y⟩) ?_
  rintro _ de ⟨bS,rfl,b⟩
  refine s (ru r r) (lu (nD b 8 [V 9,V 0,V 0,T be,T be,V 0,V 0,sn,T be,V 0,.slice (ad bS) ([a2]:List Ge).length 1,sn,sn] r jP r r) fun df b=>?_)
  refine n (kP ?_)
  replace b:=b.fz 0 0 r r
  replace b:=b.ku (d:=.l none 0 ([]:List Ge)) oP
  replace b:=b.ku (d:=.l none 0 ([]:List Gs)) oP
  replace b:=b.ku (d:=.l none 0 ([]:List Gs)) oP
  obtain rfl:=sm c
  replace o:=oi o
  obtain rfl:=sm o
  refine jC r (uN r lG r jP r (b.bk 7 r)) ?_
  exact lw (lw (⟨none,0,(ad bS),1,none,0,none,0,r,(b.ad [0,1,2,3,4] [2,3,1,0,5,6,7,8,9])⟩))
 clear b
 rintro f w ⟨a8,X,Y,aM,aN,b0,b3,b4,aO,b5,b6,aP,ap,aq,hf,b,c0⟩
 obtain ⟨dv,rfl⟩:=gP _ _ hf
 clear hf
 subst c0
 replace o:=gi o
 replace o:=pi (mf (mf (mf o)))
 refine q (g (s (mp r) ?_))
 obtain ⟨M,cy,cz,cA,o⟩:=qG o
 have hc:=(ut fu) (b.pr [4,1,5,6,7] [0,2,3] [0,1,3,4,5] r) (b.le am) (b.le an) (b.le ao) cA
 refine sc (ec Bg r) hc ?_
 rintro _ dg ⟨aB,aC,rfl,hK⟩
 replace b:=b.cn [4,1,5,6,7] [0,2,3] hK
 refine qF (jV b [[V M.e,V M.d,V M.j,T M.a,T M.c,Z aB M.b aC]] ([M]:List Ge) (kX r) r r (by decide) ⟨(jL.tQ ⟨aB,aC,r,(b.dl 0 r)⟩),y⟩) ?_
 rintro _ dh ⟨bd,rfl,b⟩
 refine s (qD r) (lu (lW b 7 [.slice (ad bd) ([M]:List Ge).length 1] r uk r r) fun di b=>?_)
 refine n (q (g (s (mE [V 2,V 0,V 0,T be,T be,V 0,V 0,Z X a8 Y,T be,V 0,.slice (ad bd) ([M]:List Ge).length 1,sn,sn] lG jP r (b.bk 7 r)) (lu (nD b 8 [V 2,V 0,V 0,T be,T be,V 0,V 0,Z X a8 Y,T be,V 0,.slice (ad bd) ([M]:List Ge).length 1,sn,sn] r jP r r) fun dj b=>?_))))
 refine n (kP ?_)
 replace b:=b.fz 6 9 r r
 replace b:=b.fz 0 1 r r
 replace b:=b.ku (d:=.l none 0 ([]:List Gs)) oP
 replace b:=b.ku (d:=.l none 0 ([]:List Gs)) oP
 obtain rfl:=sm o
 refine jC r (uN r lG r jP r (b.bk 6 r)) ?_
 exact lw (lw (⟨X,Y,(ad bd),1,none,0,none,0,r,(b.ad [0,1,2,3,4] [3,2,1,0,5,6,7,8,9])⟩))
abbrev ow:=lK→jR→Int→Int→Option ((List jM) × lK × jR)
abbrev ou:=lK→jR→Int→Option ((List jM) × lK × jR)
abbrev nG:=lK→jR→Int→Int→Option ((List jM) × lK × jR)
def zB (m:Gm→jR→Int→Int→Option ((List Gs) × Gm × jR)):Prop:=∀ {X:World} {a2:Nat→Prop} {i:Gm} {j:jR} {Y:Int} {x2:Int} {W:Nat} {c:Nat} {a:Option Addr} {b:Nat} {e:Option Addr} {h:Nat} {k:Option Addr} {o:Nat} {C:List (List Value)} {p:Nat} {t:Option Addr} {u:Nat} {D:List (List Value)} {x:Nat} {z:Option Addr} {A:Nat} {E:List (List Value)} {B:Nat} {R:(List Gs) × Gm × jR},Pre X a2 [.box W 135 #[Pt c,V i.f,V i.e,Z e i.b h,Z k i.a o,Z t i.d u,Z z i.c A,V i.g,V i.h],.box c 132 #[Z a j.l b,V j.a],O p k o 9 BA C,O x t u 9 BA D,O B z A 9 BA E] [.l a b j.l,.l e h i.b,.els C i.a,.els D i.d,.els E i.c]→p≤X.heap.size→x≤X.heap.size→B≤X.heap.size→m i j Y x2=some R→
 Calls Try.prog 84 #[Pt W,V Y,V x2] X (rf fun v w=>iA R fun r0 R=>iA R fun d F=>∃ (Q:OA)(S:Nat)(U:LV)(G:OA)(H:Nat)(I:LV)(J:OA)(K:Nat)(L:LV)(M:OA)(N:Nat)(P:LV),v=Z Q r0 S∧Bx X w a2 (lT [.box W 135 #[Pt c,V i.f,V i.e,Z e i.b h,Z k i.a o,Z t i.d u,Z z i.c A,V i.g,V i.h],.box c 132 #[Z a j.l b,V j.a],O p k o 9 BA C,O x t u 9 BA D,O B z A 9 BA E]) [O X.heap.size Q S 111 Gs U,.box W 135 #[Pt c,V d.f,V d.e,Z e d.b h,Z G d.a H,Z J d.d K,Z M d.c N,V d.g,V d.h],.box c 132 #[Z a F.l b,V F.a],O p G H 9 BA I,O x J K 9 BA L,O B M N 9 BA P] [.els U r0,.l a b F.l,.l e h d.b,.els I d.a,.els L d.d,.els P d.c])
def zC (m:Gm→jR→Int→Option ((List Gs) × Gm × jR)):Prop:=∀ {X:World} {a1:Nat→Prop} {i:Gm} {j:jR} {Y:Int} {W:Nat} {c:Nat} {a:Option Addr} {b:Nat} {e:Option Addr} {h:Nat} {k:Option Addr} {o:Nat} {C:List (List Value)} {p:Nat} {t:Option Addr} {u:Nat} {D:List (List Value)} {x:Nat} {z:Option Addr} {A:Nat} {E:List (List Value)} {B:Nat} {R:(List Gs) × Gm × jR},Pre X a1 [.box W 135 #[Pt c,V i.f,V i.e,Z e i.b h,Z k i.a o,Z t i.d u,Z z i.c A,V i.g,V i.h],.box c 132 #[Z a j.l b,V j.a],O p k o 9 BA C,O x t u 9 BA D,O B z A 9 BA E] [.l a b j.l,.l e h i.b,.els C i.a,.els D i.d,.els E i.c]→p≤X.heap.size→x≤X.heap.size→B≤X.heap.size→m i j Y=some R→
 Calls Try.prog 85 #[Pt W,V Y] X (rf fun v w=>iA R fun r0 R=>iA R fun d F=>∃ (Q:OA)(S:Nat)(U:LV)(G:OA)(H:Nat)(I:LV)(J:OA)(K:Nat)(L:LV)(M:OA)(N:Nat)(P:LV),v=Z Q r0 S∧Bx X w a1 (lT [.box W 135 #[Pt c,V i.f,V i.e,Z e i.b h,Z k i.a o,Z t i.d u,Z z i.c A,V i.g,V i.h],.box c 132 #[Z a j.l b,V j.a],O p k o 9 BA C,O x t u 9 BA D,O B z A 9 BA E]) [O X.heap.size Q S 111 Gs U,.box W 135 #[Pt c,V d.f,V d.e,Z e d.b h,Z G d.a H,Z J d.d K,Z M d.c N,V d.g,V d.h],.box c 132 #[Z a F.l b,V F.a],O p G H 9 BA I,O x J K 9 BA L,O B M N 9 BA P] [.els U r0,.l a b F.l,.l e h d.b,.els I d.a,.els L d.d,.els P d.c])
def vY (m:Gm→jR→Int→Int→Option ((List Gs) × Gm × jR)):Prop:=∀ {X:World} {a2:Nat→Prop} {i:Gm} {j:jR} {Y:Int} {x2:Int} {W:Nat} {c:Nat} {a:Option Addr} {b:Nat} {e:Option Addr} {h:Nat} {k:Option Addr} {o:Nat} {C:List (List Value)} {p:Nat} {t:Option Addr} {u:Nat} {D:List (List Value)} {x:Nat} {z:Option Addr} {A:Nat} {E:List (List Value)} {B:Nat} {R:(List Gs) × Gm × jR},Pre X a2 [.box W 135 #[Pt c,V i.f,V i.e,Z e i.b h,Z k i.a o,Z t i.d u,Z z i.c A,V i.g,V i.h],.box c 132 #[Z a j.l b,V j.a],O p k o 9 BA C,O x t u 9 BA D,O B z A 9 BA E] [.l a b j.l,.l e h i.b,.els C i.a,.els D i.d,.els E i.c]→p≤X.heap.size→x≤X.heap.size→B≤X.heap.size→m i j Y x2=some R→
 Calls Try.prog 58 #[Pt W,V Y,V x2] X (rf fun v w=>iA R fun r0 R=>iA R fun d F=>∃ (Q:OA)(S:Nat)(U:LV)(G:OA)(H:Nat)(I:LV)(J:OA)(K:Nat)(L:LV)(M:OA)(N:Nat)(P:LV),v=Z Q r0 S∧Bx X w a2 (lT [.box W 135 #[Pt c,V i.f,V i.e,Z e i.b h,Z k i.a o,Z t i.d u,Z z i.c A,V i.g,V i.h],.box c 132 #[Z a j.l b,V j.a],O p k o 9 BA C,O x t u 9 BA D,O B z A 9 BA E]) [O X.heap.size Q S 111 Gs U,.box W 135 #[Pt c,V d.f,V d.e,Z e d.b h,Z G d.a H,Z J d.d K,Z M d.c N,V d.g,V d.h],.box c 132 #[Z a F.l b,V F.a],O p G H 9 BA I,O x J K 9 BA L,O B M N 9 BA P] [.els U r0,.l a b F.l,.l e h d.b,.els I d.a,.els L d.d,.els P d.c])
def Al (fu:Nat)(r_kit_stmts:nG) (r_kit_body:ow) (r_kit_loop:ou) (e:Gm) (b:jR) (i:Int)(j:Int):Option ((List Gs) × Gm × jR):=
 (r_kit_stmts e b i j).bind fun t=>
 iA t fun c t=>iA t fun a d=>
 (sl a.a 0 (e.a.length:Int)).bind fun k=>
 (sl a.d 0 (e.d.length:Int)).bind fun l=>
 (sl a.c 0 (e.c.length:Int)).bind fun m=>
 (app ([]:List BA) k).bind fun o=>
 (app ([]:List BA) l).bind fun p=>
 (app ([]:List BA) m).bind fun h=>
 some (c,(⟨a.f,a.e,a.b,o,p,h,a.g,a.h⟩:Gm),d)
def Aj (fu:Nat)(r_kit_stmts:nG) (r_kit_body:ow) (r_kit_loop:ou) (u:Gm) (c:jR) (v:Int):Option ((List Gs) × Gm × jR):=
 (vQ fu u c).bind fun x=>
 iA x fun b a=>
 (app a.a ([b]:List BA)).bind fun w=>
 (oO fu b).bind fun m=>
 (kM fu c 4).bind fun x=>
 iA x fun o p=>
 (uz fu (wr (1+o))).bind fun d=>
 (r_kit_body (⟨a.f,a.e,a.b,w,a.d,a.c,a.g,a.h⟩:Gm) p (wr (v+1)) 4).bind fun x=>
 iA x fun e x=>iA x fun h i=>
 (oO fu b).bind fun j=>
 (oO fu b).bind fun k=>
 (uz fu 1).bind fun l=>
 (app e ([(⟨2,0,0,be,be,0,0,([j]:List Ge),be,0,([(⟨6,0,0,be,be,([k,l]:List Ge)⟩:Ge)]:List Ge),([]:List Gs),([]:List Gs)⟩:Gs)]:List Gs)).bind fun t=>
 some (([(⟨1,0,0,b,be,0,0,([]:List Ge),be,0,([]:List Ge),([]:List Gs),([]:List Gs)⟩:Gs),(⟨5,0,0,be,be,0,0,([]:List Ge),be,0,([(⟨14,0,0,be,be,([m,d]:List Ge)⟩:Ge)]:List Ge),t,([]:List Gs)⟩:Gs)]:List Gs),h,i)
def yn (fu:Nat)(r_kit_stmts:nG) (r_kit_body:ow) (r_kit_loop:ou) (a:Int)(b:Int):Option (Ld (Bool) ((List Gs) × Gm × jR)):=
 if b < 3 then
  some (.go (decide (a < 14)))
 else
  some (.go false)
def xN (fu:Nat)(r_kit_stmts:nG) (r_kit_body:ow) (r_kit_loop:ou) (b:Int)(a:Int):Option (Ld (Bool) ((List Gs) × Gm × jR)):=
 if a=3 then
  some (.go (decide (b < 4)))
 else
  some (.go false)
def yB (fu:Nat)(r_kit_stmts:nG) (r_kit_body:ow) (r_kit_loop:ou) (j:Int)(a:Gm) (e:jR):Option (Ld (List Gs × Int × Int × List Int × Int × Int × List Int × Int × List BA × List BA × List BA) ((List Gs) × Gm × jR)):=
 (kM fu e 2).bind fun k=>
 iA k fun h c=>
 if h=1 then
  (r_kit_body a c (wr (j+1)) 3).bind fun k=>
  iA k fun i k=>iA k fun b d=>
  some (.go (i,b.f,b.e,b.b,b.g,b.h,d.l,d.a,b.a,b.d,b.c))
 else
  some (.go (([]:List Gs),a.f,a.e,a.b,a.g,a.h,c.l,c.a,a.a,a.d,a.c))
def yt (fu:Nat)(r_kit_stmts:nG) (r_kit_body:ow) (r_kit_loop:ou) (c:Int)(a:Int)(b:Int):Option (Ld (Bool) ((List Gs) × Gm × jR)):=
 if b=4 then
  if c < 4 then
   some (.go (decide (a < 14)))
  else
   some (.go false)
 else
  some (.go false)
def yw (fu:Nat)(r_kit_stmts:nG) (r_kit_body:ow) (r_kit_loop:ou) (c:Int)(a:Int)(b:Int):Option (Ld (Bool) ((List Gs) × Gm × jR)):=
 if b=5 then
  if c < 4 then
   some (.go (decide (a < 14)))
  else
   some (.go false)
 else
  some (.go false)
def xO (fu:Nat)(r_kit_stmts:nG) (r_kit_body:ow) (r_kit_loop:ou) (d:Int)(a:jR):Option (Ld (Bool × List Int × Int) ((List Gs) × Gm × jR)):=
 if d=7 then
  (kM fu a 3).bind fun e=>
  iA e fun c b=>
  some (.go ((decide (c=0)),b.l,b.a))
 else
  some (.go (false,a.l,a.a))
def yD (fu:Nat)(r_kit_stmts:nG) (r_kit_body:ow) (r_kit_loop:ou) (j:Int)(k:Int)(m:List Int) (o:Int)(p:Int)(d:List BA) (e:List BA) (h:List BA) (t:List Int) (u:Int):Option (Ld (Bool × List Ge × Int × Int × Int × BA × BA × Int × Int × List Ge × BA × Int × List Gs × List Gs × List Int × Int × Int × Int × List Int × Int × Int × List BA × List BA × List BA) ((List Gs) × Gm × jR)):=
 (kM fu (⟨t,u⟩:jR) 2).bind fun x=>
 iA x fun v c=>
 if v=0 then
  some (.go (true,([]:List Ge),6,0,0,be,be,0,0,([]:List Ge),be,0,([]:List Gs),([]:List Gs),c.l,c.a,j,k,m,o,(wr (p - 1)),d,e,h))
 else
  (yL fu (⟨j,k,m,d,e,h,o,(wr (p - 1))⟩:Gm) c (⟨6,0,0,be,be,0,0,([]:List Ge),be,0,([]:List Ge),([]:List Gs),([]:List Gs)⟩:Gs)).bind fun x=>
  iA x fun w x=>iA x fun b x=>iA x fun i a=>
  some (.go ((!w),a.b,a.e,a.c,a.n,a.a,a.g,a.m,a.j,a.d,a.k,a.h,a.f,a.i,i.l,i.a,b.f,b.e,b.b,b.g,b.h,b.a,b.d,b.c))
def yC (fu:Nat)(r_kit_stmts:nG) (r_kit_body:ow) (r_kit_loop:ou) (Q:Int)(R:Int)(S:List Int) (U:Int)(W:Int)(A:List BA) (B:List BA) (C:List BA) (D:List Int) (E:Int):Option (Ld (List Ge × Int × Int × Int × BA × BA × Int × Int × List Ge × BA × Int × List Gs × List Gs × List Int × Int × Int × Int × List Int × Int × Int × List BA × List BA × List BA) ((List Gs) × Gm × jR)):=
 (yD fu r_kit_stmts r_kit_body r_kit_loop Q R S U W A B C D E).bind fun X=>X.el (fun X=>
 iA X fun F X=>iA X fun G X=>iA X fun H X=>iA X fun I X=>iA X fun J X=>iA X fun K X=>iA X fun L X=>iA X fun M X=>iA X fun N X=>iA X fun u X=>iA X fun v X=>iA X fun w X=>iA X fun x X=>iA X fun z X=>iA X fun b X=>iA X fun c X=>iA X fun d X=>iA X fun e X=>iA X fun h X=>iA X fun i X=>iA X fun j X=>iA X fun k X=>iA X fun m p=>
 if F=true then
  (mR fu (⟨d,e,h,k,m,p,i,j⟩:Gm) (⟨b,c⟩:jR) 0).bind fun X=>
  iA X fun P X=>iA X fun a t=>
  some (.go (([P]:List Ge),6,0,0,be,be,0,0,([]:List Ge),be,0,([]:List Gs),([]:List Gs),t.l,t.a,a.f,a.e,a.b,a.g,a.h,a.a,a.d,a.c))
 else
  some (.go (G,H,I,J,K,L,M,N,u,v,w,x,z,b,c,d,e,h,i,j,k,m,p))
 ) (fun o=>some (.out o))
def xP (fu:Nat)(r_kit_stmts:nG) (r_kit_body:ow) (r_kit_loop:ou) (e:Int)(b:List Int) (c:Int):Option (Ld (Bool × List Int × Int) ((List Gs) × Gm × jR)):=
 if e=8 then
  (kM fu (⟨b,c⟩:jR) 3).bind fun f=>
  iA f fun d a=>
  some (.go ((decide (d=0)),a.l,a.a))
 else
  some (.go (false,b,c))
def wT (fu:Nat)(r_kit_stmts:nG) (r_kit_body:ow) (r_kit_loop:ou) (f:Int)(e:Int)(b:List Int) (c:Int):Option (Ld (Bool × List Int × Int) ((List Gs) × Gm × jR)):=
 if e=9 then
  (kM fu (⟨b,c⟩:jR) 8).bind fun h=>
  iA h fun d a=>
  if d=0 then
   some (.go ((decide (f < 4)),a.l,a.a))
  else
   some (.go (false,a.l,a.a))
 else
  some (.go (false,b,c))
def mr (fu:Nat)(r_kit_stmts:nG) (r_kit_body:ow) (r_kit_loop:ou) (D:Int)(Y:Int):Nat→Int→(List Gs)→Int→Int→(List Int)→Int→Int→(List Int)→Int→(List BA)→(List BA)→(List BA)→Option (Ld (Int × List Gs × Int × Int × List Int × Int × Int × List Int × Int × List BA × List BA × List BA) ((List Gs) × Gm × jR))
 | 0,_,_,_,_,_,_,_,_,_,_,_,_=>none
 | n1+1,j,p,t,u,v,d,k,E,F,a,b,c=>
 if j < Y then
  if 0 < k then
   (Bw fu (⟨E,F⟩:jR)).bind fun b0=>
   if b0=true then
    (kM fu (⟨E,F⟩:jR) 16).bind fun bg=>
    iA bg fun B C=>
    (yn fu r_kit_stmts r_kit_body r_kit_loop d B).bind fun bg=>bg.el (fun b1=>
    if b1=true then
     (wO fu (⟨t,u,v,a,b,c,d,(wr (k - 1))⟩:Gm) C).bind fun bg=>
     iA bg fun aq bg=>iA bg fun w N=>
     (app p ([aq]:List Gs)).bind fun b6=>
     mr fu r_kit_stmts r_kit_body r_kit_loop D Y n1 (wr (j+1)) b6 w.f w.e w.b w.g w.h N.l N.a w.a w.d w.c
    else
     (xN fu r_kit_stmts r_kit_body r_kit_loop D B).bind fun bg=>bg.el (fun ar=>
     if ar=true then
      (mR fu (⟨t,u,v,a,b,c,d,(wr (k - 1))⟩:Gm) C 0).bind fun bg=>
      iA bg fun au bg=>iA bg fun av aw=>
      (r_kit_body av aw (wr (D+1)) 4).bind fun bg=>
      iA bg fun ax bg=>iA bg fun ay az=>
      (yB fu r_kit_stmts r_kit_body r_kit_loop D ay az).bind fun bg=>bg.el (fun bg=>
      iA bg fun aA bg=>iA bg fun aB bg=>iA bg fun aC bg=>iA bg fun aD bg=>iA bg fun aE bg=>iA bg fun aF bg=>iA bg fun aG bg=>iA bg fun aH bg=>iA bg fun aI bg=>iA bg fun a1 a2=>
      (app p ([(⟨4,0,0,be,be,0,0,([]:List Ge),be,0,([au]:List Ge),ax,aA⟩:Gs)]:List Gs)).bind fun b7=>
      mr fu r_kit_stmts r_kit_body r_kit_loop D Y n1 (wr (j+1)) b7 aB aC aD aE aF aG aH aI a1 a2
      ) (fun o=>some (.out o))
     else
      (yt fu r_kit_stmts r_kit_body r_kit_loop D d B).bind fun bg=>bg.el (fun aJ=>
      if aJ=true then
       (r_kit_loop (⟨t,u,v,a,b,c,d,(wr (k - 1))⟩:Gm) C D).bind fun bg=>
       iA bg fun aK bg=>iA bg fun x P=>
       (app p aK).bind fun b8=>
       mr fu r_kit_stmts r_kit_body r_kit_loop D Y n1 (wr (j+1)) b8 x.f x.e x.b x.g x.h P.l P.a x.a x.d x.c
      else
       (yw fu r_kit_stmts r_kit_body r_kit_loop D d B).bind fun bg=>bg.el (fun aL=>
       if aL=true then
        (r_kit_body (⟨t,u,v,a,b,c,d,(wr (k - 1))⟩:Gm) C (wr (D+1)) 4).bind fun bg=>
        iA bg fun aM bg=>iA bg fun aN Q=>
        (vQ fu aN Q).bind fun bg=>
        iA bg fun R z=>
        (app z.a ([R]:List BA)).bind fun b9=>
        (r_kit_body (⟨z.f,z.e,z.b,b9,z.d,z.c,z.g,z.h⟩:Gm) Q (wr (D+1)) 3).bind fun bg=>
        iA bg fun aO bg=>iA bg fun m S=>
        (sl m.a 0 (wr ((m.a.length:Int) - 1))).bind fun ba=>
        (app ([]:List BA) ba).bind fun bb=>
        (app p ([(⟨8,0,0,R,be,0,0,([]:List Ge),be,0,([]:List Ge),aM,aO⟩:Gs)]:List Gs)).bind fun bc=>
        mr fu r_kit_stmts r_kit_body r_kit_loop D Y n1 (wr (j+1)) bc m.f m.e m.b m.g m.h S.l S.a bb m.d m.c
       else
        if B=6 then
         (mR fu (⟨t,u,v,a,b,c,d,(wr (k - 1))⟩:Gm) C 0).bind fun bg=>
         iA bg fun aP bg=>iA bg fun A U=>
         (app p ([(⟨9,0,0,be,be,0,0,([]:List Ge),be,0,([aP]:List Ge),([]:List Gs),([]:List Gs)⟩:Gs)]:List Gs)).bind fun bd=>
         mr fu r_kit_stmts r_kit_body r_kit_loop D Y n1 (wr (j+1)) bd A.f A.e A.b A.g A.h U.l U.a A.a A.d A.c
        else
         (xO fu r_kit_stmts r_kit_body r_kit_loop B C).bind fun bg=>bg.el (fun bg=>
         iA bg fun aQ bg=>iA bg fun W X=>
         if aQ=true then
          (yC fu r_kit_stmts r_kit_body r_kit_loop t u v d k a b c W X).bind fun bg=>bg.el (fun bg=>
          iA bg fun aR bg=>iA bg fun aS bg=>iA bg fun aT bg=>iA bg fun aU bg=>iA bg fun aV bg=>iA bg fun aW bg=>iA bg fun aX bg=>iA bg fun aY bg=>iA bg fun aZ bg=>iA bg fun a3 bg=>iA bg fun a4 bg=>iA bg fun a5 bg=>iA bg fun a6 bg=>iA bg fun a7 bg=>iA bg fun a8 bg=>iA bg fun a9 bg=>iA bg fun aa bg=>iA bg fun ab bg=>iA bg fun ac bg=>iA bg fun ae bg=>iA bg fun af bg=>iA bg fun ag ah=>
          (app p ([(⟨aS,aT,aU,aV,aW,aX,aY,aZ,a3,a4,aR,a5,a6⟩:Gs)]:List Gs)).bind fun b2=>
          mr fu r_kit_stmts r_kit_body r_kit_loop D Y n1 (wr (j+1)) b2 a9 aa ab ac ae a7 a8 af ag ah
          ) (fun o=>some (.out o))
         else
          (xP fu r_kit_stmts r_kit_body r_kit_loop B W X).bind fun bg=>bg.el (fun bg=>
          iA bg fun ai bg=>iA bg fun G H=>
          if ai=true then
           (mR fu (⟨t,u,v,a,b,c,d,(wr (k - 1))⟩:Gm) (⟨G,H⟩:jR) 1).bind fun bg=>
           iA bg fun aj bg=>iA bg fun e I=>
           (app p ([(⟨7,0,0,be,be,0,0,([]:List Ge),be,0,([aj]:List Ge),([]:List Gs),([]:List Gs)⟩:Gs)]:List Gs)).bind fun b3=>
           mr fu r_kit_stmts r_kit_body r_kit_loop D Y n1 (wr (j+1)) b3 e.f e.e e.b e.g e.h I.l I.a e.a e.d e.c
          else
           (wT fu r_kit_stmts r_kit_body r_kit_loop D B G H).bind fun bg=>bg.el (fun bg=>
           iA bg fun ak bg=>iA bg fun J K=>
           if ak=true then
            (mR fu (⟨t,u,v,a,b,c,d,(wr (k - 1))⟩:Gm) (⟨J,K⟩:jR) 1).bind fun bg=>
            iA bg fun al bg=>iA bg fun am an=>
            (r_kit_body am an (wr (D+1)) 3).bind fun bg=>
            iA bg fun ao bg=>iA bg fun h L=>
            (app p ([(⟨5,0,0,be,be,0,0,([]:List Ge),be,0,([al]:List Ge),ao,([]:List Gs)⟩:Gs)]:List Gs)).bind fun b4=>
            mr fu r_kit_stmts r_kit_body r_kit_loop D Y n1 (wr (j+1)) b4 h.f h.e h.b h.g h.h L.l L.a h.a h.d h.c
           else
            (xR fu (⟨t,u,v,a,b,c,d,(wr (k - 1))⟩:Gm) (⟨J,K⟩:jR)).bind fun bg=>
            iA bg fun ap bg=>iA bg fun i M=>
            (app p ([ap]:List Gs)).bind fun b5=>
            mr fu r_kit_stmts r_kit_body r_kit_loop D Y n1 (wr (j+1)) b5 i.f i.e i.b i.g i.h M.l M.a i.a i.d i.c
           ) (fun o=>some (.out o))
          ) (fun o=>some (.out o))
         ) (fun o=>some (.out o))
       ) (fun o=>some (.out o))
      ) (fun o=>some (.out o))
     ) (fun o=>some (.out o))
    ) (fun o=>some (.out o))
   else
    some (.go (j,p,t,u,v,d,k,E,F,a,b,c))
  else
   some (.go (j,p,t,u,v,d,k,E,F,a,b,c))
 else
  some (.go (j,p,t,u,v,d,k,E,F,a,b,c))
def zz (fu:Nat)(r_kit_stmts:nG) (r_kit_body:ow) (r_kit_loop:ou) (a:Gm) (b:jR) (w:Int)(x:Int):Option ((List Gs) × Gm × jR):=
 (mr fu r_kit_stmts r_kit_body r_kit_loop w x fu 0 ([]:List Gs) a.f a.e a.b a.g a.h b.l b.a a.a a.d a.c).bind fun z=>z.el (fun z=>
 iA z fun v z=>iA z fun h z=>iA z fun i z=>iA z fun j z=>iA z fun k z=>iA z fun m z=>iA z fun p z=>iA z fun t z=>iA z fun u z=>iA z fun c z=>iA z fun d e=>
 some (h,(⟨i,j,k,c,d,e,m,p⟩:Gm),(⟨t,u⟩:jR))
 ) (fun o=>some o)
def oQ:Nat→(Gm→jR→Int→Int→Option ((List Gs) × Gm × jR)) × (Gm→jR→Int→Option ((List Gs) × Gm × jR)) × (Gm→jR→Int→Int→Option ((List Gs) × Gm × jR))
 | 0=>((fun _ _ _ _=>none),(fun _ _ _=>none),(fun _ _ _ _=>none))
 | fu+1=>(Al fu ((oQ fu).2.2) ((oQ fu).1) ((oQ fu).2.1),Aj fu ((oQ fu).2.2) ((oQ fu).1) ((oQ fu).2.1),zz fu ((oQ fu).2.2) ((oQ fu).1) ((oQ fu).2.1))
def mV (fu:Nat):=(oQ fu).1
def nu (fu:Nat):=(oQ fu).2.1
def lF (fu:Nat):=(oQ fu).2.2
theorem Lt (fu:Nat)(r_kit_stmts:nG) (r_kit_body:ow) (r_kit_loop:ou) (H_kit_stmts:vY r_kit_stmts) (H_kit_body:zB r_kit_body) (H_kit_loop:zC r_kit_loop):zB (Al fu r_kit_stmts r_kit_body r_kit_loop):=by
 intro w0 cS x0 ap x1 x2 ar h Y a0 j m ac ae au af ag ah av ai aj ak aw al R hP a8 a9 aa hM
 unfold Al at hM
 have b:=hP.bx
 clear hP
 generalize hG:lT _=G at b ⊢
 refine cf Try.func84 r (ma [(0,Pt ar),(1,V x1),(2,V x2)] ⟨r,r,r,y⟩ fun cT=>q (g (s (nJ r) (n (q (oJ b [0] [] [] (by kernel_rfl) ?_))))))
 replace b:=b.drew
 have c:=(b.ad [0] [])
 refine pF 0 r (mp r) c (pF 1 r (xn r) c (pF 2 r (nL r) c (uF 3 r (fun hS=>yF r (hS.bk 0 r) r) c (pF 4 r (lg kL r) c (pF 5 r (mp r) c (pF 6 r (xn r) c (pF 7 r (rE r) c (uF 8 r (fun hS=>yF r (hS.bk 0 r) r) c (pF 9 r (lg kL r) c (pF 10 r (mp r) c (pF 11 r (xn r) c (pF 12 r (tJ r) c (uF 13 r (fun hS=>yF r (hS.bk 0 r) r) c (pF 14 r (lg kL r) c (pF 15 r (xi r) c (pF 16 r (xi r) c (pF 17 r (xi r) c (hD (q (g (s (mp r) (s (mi r) (s (mi r) ?_)))))))))))))))))))))))
 obtain ⟨aq,a,am,h1,hM⟩:=qG hM
 have hc:=H_kit_stmts (b.pr [0,1,2,3,4] [] [0,1,2,3,4] r) (b.le a8) (b.le a9) (b.le aa) h1
 refine sc (ec Q6 r) hc ?_
 rintro _ w1 ⟨a1,a2,a3,a6,a7,ay,u,v,az,d,e,aA,rfl,hK⟩
 have aE:=b.rX.size
 replace b:=b.cn [0,1,2,3,4] [] hK
 replace b:=b.rb 0 w0.heap.size r aE
 refine s (nJ r) (n (q ?_))
 obtain ⟨l2,aF,hM⟩:=bs hM
 obtain ⟨i2,j2,br,aG,aO,W,X⟩:=AX aF
 obtain rfl:i2=0:=by omega
 have aB:l2.length=j2:=by rw [← X,List.length_take,List.length_drop];omega
 obtain ⟨l3,aH,hM⟩:=bs hM
 obtain ⟨i3,j3,bv,aI,aR,K,L⟩:=AX aH
 obtain rfl:i3=0:=by omega
 have aC:l3.length=j3:=by rw [← L,List.length_take,List.length_drop];omega
 obtain ⟨l4,aJ,hM⟩:=bs hM
 obtain ⟨i4,j4,bz,aK,aU,M,N⟩:=AX aJ
 obtain rfl:i4=0:=by omega
 have aD:l4.length=j4:=by rw [← N,List.length_take,List.length_drop];omega
 obtain ⟨F,a4,hM⟩:=bs hM
 obtain ⟨H,Q,hM⟩:=bs hM
 obtain ⟨E,I,hM⟩:=bs hM
 refine oC (fun f w=>∃ (x:OA)(A:Nat)(B:OA)(C:Nat)(p:OA)(t:Nat)(S:LV)(J:LV)(D:LV),Has f [(10,Z a1 aq a2)]∧Bx w0 w cS G [O w0.heap.size a1 a2 111 Gs a3,.box ar 135 #[Pt h,V a.f,V a.e,Z j a.b m,Z x F A,Z B H C,Z p E t,V a.g,V a.h],.box h 132 #[Z Y am.l a0,V am.a],O w0.heap.size x A 9 BA S,O w0.heap.size B C 9 BA J,O w0.heap.size p t 9 BA D] [.els a3 aq,.l Y a0 am.l,.l j m a.b,.els D E,.els S F,.els J H]) (fun Jd hJd=>?_) ?_
 ·refine Fa b [] [] [1] [] [29,32,35] (by kernel_rfl) ?_
  replace b:=b.drew
  have c:=(b.ad [] [])
  have o:=(b.ad [1] [])
  refine pL 0 r (mp r) c o (pL 1 r (mp r) c o (pL 2 r (mp r) c o (pL 4 r (mp r) c o (pL 5 r (xn r) c o (pL 6 r (nL r) c o (tS 1 7 r (fun _ hS=>yF r (hS.bk 0 r) r) (mH c o) (pL 8 r (mi r) c o (tP 9 r (fun _=>show Yl _ _ _ _ _ _ _ _ _ (.slice a6 l2.length a7) from (congrArg (fun z=>Value.slice a6 z a7) aB).symm ▸ zS j2 kL pV r r aG (Nat.le_trans W ((b.vw 3 3 r r)).cap)) (mH c o) (pL 12 r (mp r) c o (pL 13 r (xn r) c o (pL 14 r (rE r) c o (tS 1 15 r (fun _ hS=>yF r (hS.bk 0 r) r) (mH c o) (pL 16 r (mi r) c o (tP 17 r (fun _=>show Yl _ _ _ _ _ _ _ _ _ (.slice u l3.length v) from (congrArg (fun z=>Value.slice u z v) aC).symm ▸ zS j3 kL pV r r aI (Nat.le_trans K ((b.vw 4 4 r r)).cap)) (mH c o) (pL 20 r (mp r) c o (pL 21 r (xn r) c o (pL 22 r (tJ r) c o (tS 1 23 r (fun _ hS=>yF r (hS.bk 0 r) r) (mH c o) (pL 24 r (mi r) c o (tP 25 r (fun _=>show Yl _ _ _ _ _ _ _ _ _ (.slice d l4.length e) from (congrArg (fun z=>Value.slice d z e) aD).symm ▸ zS j4 kL pV r r aK (Nat.le_trans M ((b.vw 5 5 r r)).cap)) (mH c o) (nI 3 [11,19] (by kernel_rfl) (jS ?_ (jS ?_ (jS ?_ lX))))))))))))))))))))))))
  ·refine oo r r (jV b [] ([]:List BA) (mO) r r (by decide) y) ?_
   rintro _ bA ⟨bB,rfl,b⟩
   have c:=(b.ad [] [])
   have o:=(b.ad [2] [])
   refine ⟨(mH c o),(nI 10 [11,19] (by kernel_rfl) (jS ?_ (jS ?_ (jS ?_ lX))))⟩
   ·refine oo r r (kS b 0 0 r r kL pV r (by decide) (by decide) (Nat.le_refl _) r r (b.AP 4 4 r r W X) a4) ?_
    rintro _ w6 ⟨x,A,S,rfl,b⟩
    have c:=(b.ad [] [])
    have o:=(b.ad [2] [])
    refine ⟨(mH c o),(nI 11 [19] (by kernel_rfl) (jS ?_ (jS ?_ lX)))⟩
    ·refine oo r r (jV b [] ([]:List BA) (mO) r r (by decide) y) ?_
     rintro _ bC ⟨bD,rfl,b⟩
     have c:=(b.ad [] [])
     have o:=(b.ad [3] [])
     refine ⟨(mH c o),(nI 18 [19] (by kernel_rfl) (jS ?_ (jS ?_ lX)))⟩
     ·refine oo r r (kS b 0 0 r r kL pV r (by decide) (by decide) (Nat.le_refl _) r r (b.AP 6 6 r r K L) Q) ?_
      rintro _ w9 ⟨B,C,J,rfl,b⟩
      have c:=(b.ad [] [])
      have o:=(b.ad [3] [])
      refine ⟨(mH c o),(hO 19 (oo r r (jV b [] ([]:List BA) (mO) r r (by decide) y) ?_))⟩
      rintro _ bE ⟨bF,rfl,b⟩
      have c:=(b.ad [] [])
      have o:=(b.ad [4] [])
      refine ⟨(mH c o),(hO 26 (oo r r (kS b 0 0 r r kL pV r (by decide) (by decide) (Nat.le_refl _) r r (b.AP 8 8 r r M N) I) ?_))⟩
      rintro _ U ⟨p,t,D,rfl,b⟩
      have c:=(b.ad [] [])
      have o:=(b.ad [4] [])
      refine ⟨(mH c o),(pL 27 r (xn r) c o (pL 28 r (nL r) c o (hO 29 (os r r (lW b 4 [Z x F A] r pO r r) fun bG b=>?_))))⟩
      have c:=(b.ad [] [])
      refine ⟨(sy 29 c),(tP 30 r (fun _=>xn r) (sy 29 c) (tP 31 r (fun _=>rE r) (sy 29 c) (hO 32 (os r r (lW b 4 [Z B H C] r pO r r) fun bH b=>?_))))⟩
      have c:=(b.ad [] [])
      refine ⟨(sy 29 c),(tP 33 r (fun _=>xn r) (sy 29 c) (tP 34 r (fun _=>tJ r) (sy 29 c) (hO 35 (os r r (lW b 4 [Z p E t] r pO r r) fun bI b=>?_))))⟩
      have c:=(b.ad [] [])
      exact ⟨(sy 29 c),(hD (hJd _ _ ⟨x,A,B,C,p,t,S,J,D,⟨r,y⟩,(b.ad [3,4,5,2,1,0] [3,4,5,0,2,1])⟩))⟩
     refine oo r r (jV b [] ([]:List BA) (mO) r r (by decide) y) ?_
     rintro _ bJ ⟨bK,rfl,b⟩
     have c:=(b.ad [] [])
     have o:=(b.ad [4] [])
     refine ⟨(mH c o),(hO 18 (oo r r (kS b 1 1 r r kL pV r (by decide) (by decide) (Nat.le_refl _) r r (b.AP 7 7 r r K L) Q) ?_))⟩
     rintro _ w9 ⟨B,C,J,rfl,b⟩
     have c:=(b.ad [] [])
     have o:=(b.ad [4] [])
     refine ⟨(mH c o),(hO 26 (oo r r (kS b 0 0 r r kL pV r (by decide) (by decide) (Nat.le_refl _) r r (b.AP 8 8 r r M N) I) ?_))⟩
     rintro _ U ⟨p,t,D,rfl,b⟩
     have c:=(b.ad [] [])
     have o:=(b.ad [4] [])
     refine ⟨(mH c o),(pL 27 r (xn r) c o (pL 28 r (nL r) c o (hO 29 (os r r (lW b 4 [Z x F A] r pO r r) fun bL b=>?_))))⟩
     have c:=(b.ad [] [])
     refine ⟨(sy 29 c),(tP 30 r (fun _=>xn r) (sy 29 c) (tP 31 r (fun _=>rE r) (sy 29 c) (hO 32 (os r r (lW b 4 [Z B H C] r pO r r) fun bM b=>?_))))⟩
     have c:=(b.ad [] [])
     refine ⟨(sy 29 c),(tP 33 r (fun _=>xn r) (sy 29 c) (tP 34 r (fun _=>tJ r) (sy 29 c) (hO 35 (os r r (lW b 4 [Z p E t] r pO r r) fun bN b=>?_))))⟩
     have c:=(b.ad [] [])
     exact ⟨(sy 29 c),(hD (hJd _ _ ⟨x,A,B,C,p,t,S,J,D,⟨r,y⟩,(b.ad [3,4,5,2,1,0] [3,4,5,0,2,1])⟩))⟩
    refine oo r r (jV b [] ([]:List BA) (mO) r r (by decide) y) ?_
    rintro _ bO ⟨bP,rfl,b⟩
    have c:=(b.ad [] [])
    have o:=(b.ad [3] [])
    refine ⟨(mH c o),(hO 11 (oo r r (jV b [] ([]:List BA) (mO) r r (by decide) y) ?_))⟩
    rintro _ bQ ⟨bR,rfl,b⟩
    have c:=(b.ad [] [])
    have o:=(b.ad [4] [])
    refine ⟨(mH c o),(hO 18 (oo r r (kS b 0 0 r r kL pV r (by decide) (by decide) (Nat.le_refl _) r r (b.AP 7 7 r r K L) Q) ?_))⟩
    rintro _ w9 ⟨B,C,J,rfl,b⟩
    have c:=(b.ad [] [])
    have o:=(b.ad [4] [])
    refine ⟨(mH c o),(hO 26 (oo r r (kS b 1 1 r r kL pV r (by decide) (by decide) (Nat.le_refl _) r r (b.AP 8 8 r r M N) I) ?_))⟩
    rintro _ U ⟨p,t,D,rfl,b⟩
    have c:=(b.ad [] [])
    have o:=(b.ad [4] [])
    refine ⟨(mH c o),(pL 27 r (xn r) c o (pL 28 r (nL r) c o (hO 29 (os r r (lW b 4 [Z x F A] r pO r r) fun bS b=>?_))))⟩
    have c:=(b.ad [] [])
    refine ⟨(sy 29 c),(tP 30 r (fun _=>xn r) (sy 29 c) (tP 31 r (fun _=>rE r) (sy 29 c) (hO 32 (os r r (lW b 4 [Z B H C] r pO r r) fun bT b=>?_))))⟩
    have c:=(b.ad [] [])
    refine ⟨(sy 29 c),(tP 33 r (fun _=>xn r) (sy 29 c) (tP 34 r (fun _=>tJ r) (sy 29 c) (hO 35 (os r r (lW b 4 [Z p E t] r pO r r) fun bU b=>?_))))⟩
    have c:=(b.ad [] [])
    exact ⟨(sy 29 c),(hD (hJd _ _ ⟨x,A,B,C,p,t,S,J,D,⟨r,y⟩,(b.ad [3,4,5,2,0,1] [3,4,5,1,2,0])⟩))⟩
   ·refine oo r r (jV b [] ([]:List BA) (mO) r r (by decide) y) ?_
    rintro _ bV ⟨bW,rfl,b⟩
    have c:=(b.ad [] [])
    have o:=(b.ad [3] [])
    refine ⟨(mH c o),(nI 10 [19] (by kernel_rfl) (jS ?_ (jS ?_ lX)))⟩
    ·refine oo r r (kS b 1 1 r r kL pV r (by decide) (by decide) (Nat.le_refl _) r r (b.AP 5 5 r r W X) a4) ?_
     rintro _ w6 ⟨x,A,S,rfl,b⟩
     have c:=(b.ad [] [])
     have o:=(b.ad [3] [])
     refine ⟨(mH c o),(nI 18 [19] (by kernel_rfl) (jS ?_ (jS ?_ lX)))⟩
     ·refine oo r r (kS b 0 0 r r kL pV r (by decide) (by decide) (Nat.le_refl _) r r (b.AP 6 6 r r K L) Q) ?_
      rintro _ w9 ⟨B,C,J,rfl,b⟩
      have c:=(b.ad [] [])
      have o:=(b.ad [3] [])
      refine ⟨(mH c o),(hO 19 (oo r r (jV b [] ([]:List BA) (mO) r r (by decide) y) ?_))⟩
      rintro _ bX ⟨bY,rfl,b⟩
      have c:=(b.ad [] [])
      have o:=(b.ad [4] [])
      refine ⟨(mH c o),(hO 26 (oo r r (kS b 0 0 r r kL pV r (by decide) (by decide) (Nat.le_refl _) r r (b.AP 8 8 r r M N) I) ?_))⟩
      rintro _ U ⟨p,t,D,rfl,b⟩
      have c:=(b.ad [] [])
      have o:=(b.ad [4] [])
      refine ⟨(mH c o),(pL 27 r (xn r) c o (pL 28 r (nL r) c o (hO 29 (os r r (lW b 4 [Z x F A] r pO r r) fun bZ b=>?_))))⟩
      have c:=(b.ad [] [])
      refine ⟨(sy 29 c),(tP 30 r (fun _=>xn r) (sy 29 c) (tP 31 r (fun _=>rE r) (sy 29 c) (hO 32 (os r r (lW b 4 [Z B H C] r pO r r) fun c0 b=>?_))))⟩
      have c:=(b.ad [] [])
      refine ⟨(sy 29 c),(tP 33 r (fun _=>xn r) (sy 29 c) (tP 34 r (fun _=>tJ r) (sy 29 c) (hO 35 (os r r (lW b 4 [Z p E t] r pO r r) fun c1 b=>?_))))⟩
      have c:=(b.ad [] [])
      exact ⟨(sy 29 c),(hD (hJd _ _ ⟨x,A,B,C,p,t,S,J,D,⟨r,y⟩,(b.ad [3,4,5,2,1,0] [3,4,5,0,2,1])⟩))⟩
     refine oo r r (jV b [] ([]:List BA) (mO) r r (by decide) y) ?_
     rintro _ c2 ⟨c3,rfl,b⟩
     have c:=(b.ad [] [])
     have o:=(b.ad [4] [])
     refine ⟨(mH c o),(hO 18 (oo r r (kS b 1 1 r r kL pV r (by decide) (by decide) (Nat.le_refl _) r r (b.AP 7 7 r r K L) Q) ?_))⟩
     rintro _ w9 ⟨B,C,J,rfl,b⟩
     have c:=(b.ad [] [])
     have o:=(b.ad [4] [])
     refine ⟨(mH c o),(hO 26 (oo r r (kS b 0 0 r r kL pV r (by decide) (by decide) (Nat.le_refl _) r r (b.AP 8 8 r r M N) I) ?_))⟩
     rintro _ U ⟨p,t,D,rfl,b⟩
     have c:=(b.ad [] [])
     have o:=(b.ad [4] [])
     refine ⟨(mH c o),(pL 27 r (xn r) c o (pL 28 r (nL r) c o (hO 29 (os r r (lW b 4 [Z x F A] r pO r r) fun c4 b=>?_))))⟩
     have c:=(b.ad [] [])
     refine ⟨(sy 29 c),(tP 30 r (fun _=>xn r) (sy 29 c) (tP 31 r (fun _=>rE r) (sy 29 c) (hO 32 (os r r (lW b 4 [Z B H C] r pO r r) fun c5 b=>?_))))⟩
     have c:=(b.ad [] [])
     refine ⟨(sy 29 c),(tP 33 r (fun _=>xn r) (sy 29 c) (tP 34 r (fun _=>tJ r) (sy 29 c) (hO 35 (os r r (lW b 4 [Z p E t] r pO r r) fun c6 b=>?_))))⟩
     have c:=(b.ad [] [])
     exact ⟨(sy 29 c),(hD (hJd _ _ ⟨x,A,B,C,p,t,S,J,D,⟨r,y⟩,(b.ad [3,4,5,2,1,0] [3,4,5,0,2,1])⟩))⟩
    refine oo r r (jV b [] ([]:List BA) (mO) r r (by decide) y) ?_
    rintro _ c7 ⟨c8,rfl,b⟩
    have c:=(b.ad [] [])
    have o:=(b.ad [4] [])
    refine ⟨(mH c o),(hO 10 (oo r r (kS b 2 2 r r kL pV r (by decide) (by decide) (Nat.le_refl _) r r (b.AP 6 6 r r W X) a4) ?_))⟩
    rintro _ w6 ⟨x,A,S,rfl,b⟩
    have c:=(b.ad [] [])
    have o:=(b.ad [4] [])
    refine ⟨(mH c o),(hO 18 (oo r r (kS b 1 1 r r kL pV r (by decide) (by decide) (Nat.le_refl _) r r (b.AP 7 7 r r K L) Q) ?_))⟩
    rintro _ w9 ⟨B,C,J,rfl,b⟩
    have c:=(b.ad [] [])
    have o:=(b.ad [4] [])
    refine ⟨(mH c o),(hO 26 (oo r r (kS b 0 0 r r kL pV r (by decide) (by decide) (Nat.le_refl _) r r (b.AP 8 8 r r M N) I) ?_))⟩
    rintro _ U ⟨p,t,D,rfl,b⟩
    have c:=(b.ad [] [])
    have o:=(b.ad [4] [])
    refine ⟨(mH c o),(pL 27 r (xn r) c o (pL 28 r (nL r) c o (hO 29 (os r r (lW b 4 [Z x F A] r pO r r) fun c9 b=>?_))))⟩
    have c:=(b.ad [] [])
    refine ⟨(sy 29 c),(tP 30 r (fun _=>xn r) (sy 29 c) (tP 31 r (fun _=>rE r) (sy 29 c) (hO 32 (os r r (lW b 4 [Z B H C] r pO r r) fun cc b=>?_))))⟩
    have c:=(b.ad [] [])
    refine ⟨(sy 29 c),(tP 33 r (fun _=>xn r) (sy 29 c) (tP 34 r (fun _=>tJ r) (sy 29 c) (hO 35 (os r r (lW b 4 [Z p E t] r pO r r) fun cd b=>?_))))⟩
    have c:=(b.ad [] [])
    exact ⟨(sy 29 c),(hD (hJd _ _ ⟨x,A,B,C,p,t,S,J,D,⟨r,y⟩,(b.ad [3,4,5,2,1,0] [3,4,5,0,2,1])⟩))⟩
   refine oo r r (jV b [] ([]:List BA) (mO) r r (by decide) y) ?_
   rintro _ ce ⟨cg,rfl,b⟩
   have c:=(b.ad [] [])
   have o:=(b.ad [3] [])
   refine ⟨(mH c o),(nI 10 [11] (by kernel_rfl) (jS ?_ (jS ?_ lX)))⟩
   ·refine oo r r (kS b 1 1 r r kL pV r (by decide) (by decide) (Nat.le_refl _) r r (b.AP 5 5 r r W X) a4) ?_
    rintro _ w6 ⟨x,A,S,rfl,b⟩
    have c:=(b.ad [] [])
    have o:=(b.ad [3] [])
    refine ⟨(mH c o),(hO 11 (oo r r (jV b [] ([]:List BA) (mO) r r (by decide) y) ?_))⟩
    rintro _ ch ⟨ci,rfl,b⟩
    have c:=(b.ad [] [])
    have o:=(b.ad [4] [])
    refine ⟨(mH c o),(hO 18 (oo r r (kS b 0 0 r r kL pV r (by decide) (by decide) (Nat.le_refl _) r r (b.AP 7 7 r r K L) Q) ?_))⟩
    rintro _ w9 ⟨B,C,J,rfl,b⟩
    have c:=(b.ad [] [])
    have o:=(b.ad [4] [])
    refine ⟨(mH c o),(hO 26 (oo r r (kS b 1 1 r r kL pV r (by decide) (by decide) (Nat.le_refl _) r r (b.AP 8 8 r r M N) I) ?_))⟩
    rintro _ U ⟨p,t,D,rfl,b⟩
    have c:=(b.ad [] [])
    have o:=(b.ad [4] [])
    refine ⟨(mH c o),(pL 27 r (xn r) c o (pL 28 r (nL r) c o (hO 29 (os r r (lW b 4 [Z x F A] r pO r r) fun cj b=>?_))))⟩
    have c:=(b.ad [] [])
    refine ⟨(sy 29 c),(tP 30 r (fun _=>xn r) (sy 29 c) (tP 31 r (fun _=>rE r) (sy 29 c) (hO 32 (os r r (lW b 4 [Z B H C] r pO r r) fun ck b=>?_))))⟩
    have c:=(b.ad [] [])
    refine ⟨(sy 29 c),(tP 33 r (fun _=>xn r) (sy 29 c) (tP 34 r (fun _=>tJ r) (sy 29 c) (hO 35 (os r r (lW b 4 [Z p E t] r pO r r) fun cm b=>?_))))⟩
    have c:=(b.ad [] [])
    exact ⟨(sy 29 c),(hD (hJd _ _ ⟨x,A,B,C,p,t,S,J,D,⟨r,y⟩,(b.ad [3,4,5,2,0,1] [3,4,5,1,2,0])⟩))⟩
   refine oo r r (jV b [] ([]:List BA) (mO) r r (by decide) y) ?_
   rintro _ cn ⟨co,rfl,b⟩
   have c:=(b.ad [] [])
   have o:=(b.ad [4] [])
   refine ⟨(mH c o),(hO 10 (oo r r (kS b 2 2 r r kL pV r (by decide) (by decide) (Nat.le_refl _) r r (b.AP 6 6 r r W X) a4) ?_))⟩
   rintro _ w6 ⟨x,A,S,rfl,b⟩
   have c:=(b.ad [] [])
   have o:=(b.ad [4] [])
   refine ⟨(mH c o),(hO 18 (oo r r (kS b 0 0 r r kL pV r (by decide) (by decide) (Nat.le_refl _) r r (b.AP 7 7 r r K L) Q) ?_))⟩
   rintro _ w9 ⟨B,C,J,rfl,b⟩
   have c:=(b.ad [] [])
   have o:=(b.ad [4] [])
   refine ⟨(mH c o),(hO 26 (oo r r (kS b 1 1 r r kL pV r (by decide) (by decide) (Nat.le_refl _) r r (b.AP 8 8 r r M N) I) ?_))⟩
   rintro _ U ⟨p,t,D,rfl,b⟩
   have c:=(b.ad [] [])
   have o:=(b.ad [4] [])
   refine ⟨(mH c o),(pL 27 r (xn r) c o (pL 28 r (nL r) c o (hO 29 (os r r (lW b 4 [Z x F A] r pO r r) fun cp b=>?_))))⟩
   have c:=(b.ad [] [])
   refine ⟨(sy 29 c),(tP 30 r (fun _=>xn r) (sy 29 c) (tP 31 r (fun _=>rE r) (sy 29 c) (hO 32 (os r r (lW b 4 [Z B H C] r pO r r) fun cq b=>?_))))⟩
   have c:=(b.ad [] [])
   refine ⟨(sy 29 c),(tP 33 r (fun _=>xn r) (sy 29 c) (tP 34 r (fun _=>tJ r) (sy 29 c) (hO 35 (os r r (lW b 4 [Z p E t] r pO r r) fun cr b=>?_))))⟩
   have c:=(b.ad [] [])
   exact ⟨(sy 29 c),(hD (hJd _ _ ⟨x,A,B,C,p,t,S,J,D,⟨r,y⟩,(b.ad [3,4,5,2,0,1] [3,4,5,1,2,0])⟩))⟩
  ·refine oo r r (jV b [] ([]:List BA) (mO) r r (by decide) y) ?_
   rintro _ ct ⟨cu,rfl,b⟩
   have c:=(b.ad [] [])
   have o:=(b.ad [2] [])
   refine ⟨(mH c o),(nI 3 [19] (by kernel_rfl) (jS ?_ (jS ?_ lX)))⟩
   ·refine oo r r (jV b [] ([]:List BA) (mO) r r (by decide) y) ?_
    rintro _ cv ⟨cw,rfl,b⟩
    have c:=(b.ad [] [])
    have o:=(b.ad [3] [])
    refine ⟨(mH c o),(nI 10 [19] (by kernel_rfl) (jS ?_ (jS ?_ lX)))⟩
    ·refine oo r r (kS b 0 0 r r kL pV r (by decide) (by decide) (Nat.le_refl _) r r (b.AP 5 5 r r W X) a4) ?_
     rintro _ w6 ⟨x,A,S,rfl,b⟩
     have c:=(b.ad [] [])
     have o:=(b.ad [3] [])
     refine ⟨(mH c o),(nI 18 [19] (by kernel_rfl) (jS ?_ (jS ?_ lX)))⟩
     ·refine oo r r (kS b 1 1 r r kL pV r (by decide) (by decide) (Nat.le_refl _) r r (b.AP 6 6 r r K L) Q) ?_
      rintro _ w9 ⟨B,C,J,rfl,b⟩
      have c:=(b.ad [] [])
      have o:=(b.ad [3] [])
      refine ⟨(mH c o),(hO 19 (oo r r (jV b [] ([]:List BA) (mO) r r (by decide) y) ?_))⟩
      rintro _ cx ⟨cy,rfl,b⟩
      have c:=(b.ad [] [])
      have o:=(b.ad [4] [])
      refine ⟨(mH c o),(hO 26 (oo r r (kS b 0 0 r r kL pV r (by decide) (by decide) (Nat.le_refl _) r r (b.AP 8 8 r r M N) I) ?_))⟩
      rintro _ U ⟨p,t,D,rfl,b⟩
      have c:=(b.ad [] [])
      have o:=(b.ad [4] [])
      refine ⟨(mH c o),(pL 27 r (xn r) c o (pL 28 r (nL r) c o (hO 29 (os r r (lW b 4 [Z x F A] r pO r r) fun cz b=>?_))))⟩
      have c:=(b.ad [] [])
      refine ⟨(sy 29 c),(tP 30 r (fun _=>xn r) (sy 29 c) (tP 31 r (fun _=>rE r) (sy 29 c) (hO 32 (os r r (lW b 4 [Z B H C] r pO r r) fun cA b=>?_))))⟩
      have c:=(b.ad [] [])
      refine ⟨(sy 29 c),(tP 33 r (fun _=>xn r) (sy 29 c) (tP 34 r (fun _=>tJ r) (sy 29 c) (hO 35 (os r r (lW b 4 [Z p E t] r pO r r) fun cB b=>?_))))⟩
      have c:=(b.ad [] [])
      exact ⟨(sy 29 c),(hD (hJd _ _ ⟨x,A,B,C,p,t,S,J,D,⟨r,y⟩,(b.ad [3,4,5,1,2,0] [3,4,5,0,1,2])⟩))⟩
     refine oo r r (jV b [] ([]:List BA) (mO) r r (by decide) y) ?_
     rintro _ cC ⟨cD,rfl,b⟩
     have c:=(b.ad [] [])
     have o:=(b.ad [4] [])
     refine ⟨(mH c o),(hO 18 (oo r r (kS b 2 2 r r kL pV r (by decide) (by decide) (Nat.le_refl _) r r (b.AP 7 7 r r K L) Q) ?_))⟩
     rintro _ w9 ⟨B,C,J,rfl,b⟩
     have c:=(b.ad [] [])
     have o:=(b.ad [4] [])
     refine ⟨(mH c o),(hO 26 (oo r r (kS b 0 0 r r kL pV r (by decide) (by decide) (Nat.le_refl _) r r (b.AP 8 8 r r M N) I) ?_))⟩
     rintro _ U ⟨p,t,D,rfl,b⟩
     have c:=(b.ad [] [])
     have o:=(b.ad [4] [])
     refine ⟨(mH c o),(pL 27 r (xn r) c o (pL 28 r (nL r) c o (hO 29 (os r r (lW b 4 [Z x F A] r pO r r) fun cE b=>?_))))⟩
     have c:=(b.ad [] [])
     refine ⟨(sy 29 c),(tP 30 r (fun _=>xn r) (sy 29 c) (tP 31 r (fun _=>rE r) (sy 29 c) (hO 32 (os r r (lW b 4 [Z B H C] r pO r r) fun cF b=>?_))))⟩
     have c:=(b.ad [] [])
     refine ⟨(sy 29 c),(tP 33 r (fun _=>xn r) (sy 29 c) (tP 34 r (fun _=>tJ r) (sy 29 c) (hO 35 (os r r (lW b 4 [Z p E t] r pO r r) fun cG b=>?_))))⟩
     have c:=(b.ad [] [])
     exact ⟨(sy 29 c),(hD (hJd _ _ ⟨x,A,B,C,p,t,S,J,D,⟨r,y⟩,(b.ad [3,4,5,1,2,0] [3,4,5,0,1,2])⟩))⟩
    refine oo r r (jV b [] ([]:List BA) (mO) r r (by decide) y) ?_
    rintro _ cH ⟨cI,rfl,b⟩
    have c:=(b.ad [] [])
    have o:=(b.ad [4] [])
    refine ⟨(mH c o),(hO 10 (oo r r (kS b 1 1 r r kL pV r (by decide) (by decide) (Nat.le_refl _) r r (b.AP 6 6 r r W X) a4) ?_))⟩
    rintro _ w6 ⟨x,A,S,rfl,b⟩
    have c:=(b.ad [] [])
    have o:=(b.ad [4] [])
    refine ⟨(mH c o),(hO 18 (oo r r (kS b 2 2 r r kL pV r (by decide) (by decide) (Nat.le_refl _) r r (b.AP 7 7 r r K L) Q) ?_))⟩
    rintro _ w9 ⟨B,C,J,rfl,b⟩
    have c:=(b.ad [] [])
    have o:=(b.ad [4] [])
    refine ⟨(mH c o),(hO 26 (oo r r (kS b 0 0 r r kL pV r (by decide) (by decide) (Nat.le_refl _) r r (b.AP 8 8 r r M N) I) ?_))⟩
    rintro _ U ⟨p,t,D,rfl,b⟩
    have c:=(b.ad [] [])
    have o:=(b.ad [4] [])
    refine ⟨(mH c o),(pL 27 r (xn r) c o (pL 28 r (nL r) c o (hO 29 (os r r (lW b 4 [Z x F A] r pO r r) fun cJ b=>?_))))⟩
    have c:=(b.ad [] [])
    refine ⟨(sy 29 c),(tP 30 r (fun _=>xn r) (sy 29 c) (tP 31 r (fun _=>rE r) (sy 29 c) (hO 32 (os r r (lW b 4 [Z B H C] r pO r r) fun cK b=>?_))))⟩
    have c:=(b.ad [] [])
    refine ⟨(sy 29 c),(tP 33 r (fun _=>xn r) (sy 29 c) (tP 34 r (fun _=>tJ r) (sy 29 c) (hO 35 (os r r (lW b 4 [Z p E t] r pO r r) fun cL b=>?_))))⟩
    have c:=(b.ad [] [])
    exact ⟨(sy 29 c),(hD (hJd _ _ ⟨x,A,B,C,p,t,S,J,D,⟨r,y⟩,(b.ad [3,4,5,1,2,0] [3,4,5,0,1,2])⟩))⟩
   refine oo r r (jV b [] ([]:List BA) (mO) r r (by decide) y) ?_
   rintro _ cM ⟨cN,rfl,b⟩
   have c:=(b.ad [] [])
   have o:=(b.ad [3] [])
   refine ⟨(mH c o),(hO 3 (oo r r (jV b [] ([]:List BA) (mO) r r (by decide) y) ?_))⟩
   rintro _ cO ⟨cP,rfl,b⟩
   have c:=(b.ad [] [])
   have o:=(b.ad [4] [])
   refine ⟨(mH c o),(hO 10 (oo r r (kS b 0 0 r r kL pV r (by decide) (by decide) (Nat.le_refl _) r r (b.AP 6 6 r r W X) a4) ?_))⟩
   rintro _ w6 ⟨x,A,S,rfl,b⟩
   have c:=(b.ad [] [])
   have o:=(b.ad [4] [])
   refine ⟨(mH c o),(hO 18 (oo r r (kS b 2 2 r r kL pV r (by decide) (by decide) (Nat.le_refl _) r r (b.AP 7 7 r r K L) Q) ?_))⟩
   rintro _ w9 ⟨B,C,J,rfl,b⟩
   have c:=(b.ad [] [])
   have o:=(b.ad [4] [])
   refine ⟨(mH c o),(hO 26 (oo r r (kS b 1 1 r r kL pV r (by decide) (by decide) (Nat.le_refl _) r r (b.AP 8 8 r r M N) I) ?_))⟩
   rintro _ U ⟨p,t,D,rfl,b⟩
   have c:=(b.ad [] [])
   have o:=(b.ad [4] [])
   refine ⟨(mH c o),(pL 27 r (xn r) c o (pL 28 r (nL r) c o (hO 29 (os r r (lW b 4 [Z x F A] r pO r r) fun aV b=>?_))))⟩
   have c:=(b.ad [] [])
   refine ⟨(sy 29 c),(tP 30 r (fun _=>xn r) (sy 29 c) (tP 31 r (fun _=>rE r) (sy 29 c) (hO 32 (os r r (lW b 4 [Z B H C] r pO r r) fun aW b=>?_))))⟩
   have c:=(b.ad [] [])
   refine ⟨(sy 29 c),(tP 33 r (fun _=>xn r) (sy 29 c) (tP 34 r (fun _=>tJ r) (sy 29 c) (hO 35 (os r r (lW b 4 [Z p E t] r pO r r) fun aX b=>?_))))⟩
   have c:=(b.ad [] [])
   exact ⟨(sy 29 c),(hD (hJd _ _ ⟨x,A,B,C,p,t,S,J,D,⟨r,y⟩,(b.ad [3,4,5,0,2,1] [3,4,5,1,0,2])⟩))⟩
  refine oo r r (jV b [] ([]:List BA) (mO) r r (by decide) y) ?_
  rintro _ aY ⟨aZ,rfl,b⟩
  have c:=(b.ad [] [])
  have o:=(b.ad [2] [])
  refine ⟨(mH c o),(nI 3 [11] (by kernel_rfl) (jS ?_ (jS ?_ lX)))⟩
  ·refine oo r r (jV b [] ([]:List BA) (mO) r r (by decide) y) ?_
   rintro _ b0 ⟨b1,rfl,b⟩
   have c:=(b.ad [] [])
   have o:=(b.ad [3] [])
   refine ⟨(mH c o),(nI 10 [11] (by kernel_rfl) (jS ?_ (jS ?_ lX)))⟩
   ·refine oo r r (kS b 0 0 r r kL pV r (by decide) (by decide) (Nat.le_refl _) r r (b.AP 5 5 r r W X) a4) ?_
    rintro _ w6 ⟨x,A,S,rfl,b⟩
    have c:=(b.ad [] [])
    have o:=(b.ad [3] [])
    refine ⟨(mH c o),(hO 11 (oo r r (jV b [] ([]:List BA) (mO) r r (by decide) y) ?_))⟩
    rintro _ b2 ⟨b3,rfl,b⟩
    have c:=(b.ad [] [])
    have o:=(b.ad [4] [])
    refine ⟨(mH c o),(hO 18 (oo r r (kS b 0 0 r r kL pV r (by decide) (by decide) (Nat.le_refl _) r r (b.AP 7 7 r r K L) Q) ?_))⟩
    rintro _ w9 ⟨B,C,J,rfl,b⟩
    have c:=(b.ad [] [])
    have o:=(b.ad [4] [])
    refine ⟨(mH c o),(hO 26 (oo r r (kS b 2 2 r r kL pV r (by decide) (by decide) (Nat.le_refl _) r r (b.AP 8 8 r r M N) I) ?_))⟩
    rintro _ U ⟨p,t,D,rfl,b⟩
    have c:=(b.ad [] [])
    have o:=(b.ad [4] [])
    refine ⟨(mH c o),(pL 27 r (xn r) c o (pL 28 r (nL r) c o (hO 29 (os r r (lW b 4 [Z x F A] r pO r r) fun b4 b=>?_))))⟩
    have c:=(b.ad [] [])
    refine ⟨(sy 29 c),(tP 30 r (fun _=>xn r) (sy 29 c) (tP 31 r (fun _=>rE r) (sy 29 c) (hO 32 (os r r (lW b 4 [Z B H C] r pO r r) fun b5 b=>?_))))⟩
    have c:=(b.ad [] [])
    refine ⟨(sy 29 c),(tP 33 r (fun _=>xn r) (sy 29 c) (tP 34 r (fun _=>tJ r) (sy 29 c) (hO 35 (os r r (lW b 4 [Z p E t] r pO r r) fun b6 b=>?_))))⟩
    have c:=(b.ad [] [])
    exact ⟨(sy 29 c),(hD (hJd _ _ ⟨x,A,B,C,p,t,S,J,D,⟨r,y⟩,(b.ad [3,4,5,1,0,2] [3,4,5,2,1,0])⟩))⟩
   refine oo r r (jV b [] ([]:List BA) (mO) r r (by decide) y) ?_
   rintro _ b7 ⟨b8,rfl,b⟩
   have c:=(b.ad [] [])
   have o:=(b.ad [4] [])
   refine ⟨(mH c o),(hO 10 (oo r r (kS b 1 1 r r kL pV r (by decide) (by decide) (Nat.le_refl _) r r (b.AP 6 6 r r W X) a4) ?_))⟩
   rintro _ w6 ⟨x,A,S,rfl,b⟩
   have c:=(b.ad [] [])
   have o:=(b.ad [4] [])
   refine ⟨(mH c o),(hO 18 (oo r r (kS b 0 0 r r kL pV r (by decide) (by decide) (Nat.le_refl _) r r (b.AP 7 7 r r K L) Q) ?_))⟩
   rintro _ w9 ⟨B,C,J,rfl,b⟩
   have c:=(b.ad [] [])
   have o:=(b.ad [4] [])
   refine ⟨(mH c o),(hO 26 (oo r r (kS b 2 2 r r kL pV r (by decide) (by decide) (Nat.le_refl _) r r (b.AP 8 8 r r M N) I) ?_))⟩
   rintro _ U ⟨p,t,D,rfl,b⟩
   have c:=(b.ad [] [])
   have o:=(b.ad [4] [])
   refine ⟨(mH c o),(pL 27 r (xn r) c o (pL 28 r (nL r) c o (hO 29 (os r r (lW b 4 [Z x F A] r pO r r) fun b9 b=>?_))))⟩
   have c:=(b.ad [] [])
   refine ⟨(sy 29 c),(tP 30 r (fun _=>xn r) (sy 29 c) (tP 31 r (fun _=>rE r) (sy 29 c) (hO 32 (os r r (lW b 4 [Z B H C] r pO r r) fun ba b=>?_))))⟩
   have c:=(b.ad [] [])
   refine ⟨(sy 29 c),(tP 33 r (fun _=>xn r) (sy 29 c) (tP 34 r (fun _=>tJ r) (sy 29 c) (hO 35 (os r r (lW b 4 [Z p E t] r pO r r) fun bb b=>?_))))⟩
   have c:=(b.ad [] [])
   exact ⟨(sy 29 c),(hD (hJd _ _ ⟨x,A,B,C,p,t,S,J,D,⟨r,y⟩,(b.ad [3,4,5,1,0,2] [3,4,5,2,1,0])⟩))⟩
  refine oo r r (jV b [] ([]:List BA) (mO) r r (by decide) y) ?_
  rintro _ bc ⟨bd,rfl,b⟩
  have c:=(b.ad [] [])
  have o:=(b.ad [3] [])
  refine ⟨(mH c o),(hO 3 (oo r r (jV b [] ([]:List BA) (mO) r r (by decide) y) ?_))⟩
  rintro _ bg ⟨bh,rfl,b⟩
  have c:=(b.ad [] [])
  have o:=(b.ad [4] [])
  refine ⟨(mH c o),(hO 10 (oo r r (kS b 0 0 r r kL pV r (by decide) (by decide) (Nat.le_refl _) r r (b.AP 6 6 r r W X) a4) ?_))⟩
  rintro _ w6 ⟨x,A,S,rfl,b⟩
  have c:=(b.ad [] [])
  have o:=(b.ad [4] [])
  refine ⟨(mH c o),(hO 18 (oo r r (kS b 1 1 r r kL pV r (by decide) (by decide) (Nat.le_refl _) r r (b.AP 7 7 r r K L) Q) ?_))⟩
  rintro _ w9 ⟨B,C,J,rfl,b⟩
  have c:=(b.ad [] [])
  have o:=(b.ad [4] [])
  refine ⟨(mH c o),(hO 26 (oo r r (kS b 2 2 r r kL pV r (by decide) (by decide) (Nat.le_refl _) r r (b.AP 8 8 r r M N) I) ?_))⟩
  rintro _ U ⟨p,t,D,rfl,b⟩
  have c:=(b.ad [] [])
  have o:=(b.ad [4] [])
  refine ⟨(mH c o),(pL 27 r (xn r) c o (pL 28 r (nL r) c o (hO 29 (os r r (lW b 4 [Z x F A] r pO r r) fun bi b=>?_))))⟩
  have c:=(b.ad [] [])
  refine ⟨(sy 29 c),(tP 30 r (fun _=>xn r) (sy 29 c) (tP 31 r (fun _=>rE r) (sy 29 c) (hO 32 (os r r (lW b 4 [Z B H C] r pO r r) fun bj b=>?_))))⟩
  have c:=(b.ad [] [])
  refine ⟨(sy 29 c),(tP 33 r (fun _=>xn r) (sy 29 c) (tP 34 r (fun _=>tJ r) (sy 29 c) (hO 35 (os r r (lW b 4 [Z p E t] r pO r r) fun bl b=>?_))))⟩
  have c:=(b.ad [] [])
  exact ⟨(sy 29 c),(hD (hJd _ _ ⟨x,A,B,C,p,t,S,J,D,⟨r,y⟩,(b.ad [3,4,5,0,1,2] [3,4,5,2,0,1])⟩))⟩
 clear b
 rintro f w ⟨x,A,B,C,p,t,S,J,D,hf,b⟩
 obtain ⟨cT,rfl⟩:=gP _ _ hf
 clear hf
 refine q (g (s (mD r) (s (nJ r) (n (kP ?_)))))
 replace b:=b.rb 3 af r a8
 replace b:=b.rb 4 ai r a9
 replace b:=b.rb 5 al r aa
 obtain rfl:=sm hM
 exact jC r (kT r) (lw (lw (⟨a1,a2,a3,x,A,S,B,C,J,p,t,D,r,(b.dp [0,1,2,4,5,3])⟩)))
theorem Ls (fu:Nat)(r_kit_stmts:nG) (r_kit_body:ow) (r_kit_loop:ou) (H_kit_stmts:vY r_kit_stmts) (H_kit_body:zB r_kit_body) (H_kit_loop:zC r_kit_loop):zC (Aj fu r_kit_stmts r_kit_body r_kit_loop):=by
 intro w0 c5 x0 aq x1 an B C D U W ag ah ar ai E F Y aj H I a0 ak R hP X aa ab x
 unfold Aj at x
 have b:=hP.bx
 clear hP
 generalize hG:lT _=G at b ⊢
 refine cf Try.func85 r (ma [(0,Pt an),(1,V x1)] ⟨r,r,y⟩ fun c6=>q (g (s (nJ r) (n (q (g (s (mp r) ?_)))))))
 obtain ⟨v,o,h1,x⟩:=lV x
 have hc:=(Bt fu) (b.pr [0,1,2,3,4] [] [0,1,2,3,4] r) (b.le X) (b.le aa) (b.le ab) h1
 refine sc (ec Oc r) hc ?_
 rintro _ w1 ⟨rfl,z⟩
 replace b:=b.cn [0,1,2,3,4] [] z
 refine s (mZ r) (n (q (g (s (mp r) (s (mp r) (s (xn r) (s (nL r) (s (yF r (b.bk 0 r) r) (s (lc r) (qF (jV b [[T v]] ([v]:List BA) (AA r) r r (by decide) ⟨r,y⟩) ?_))))))))))
 rintro _ w2 ⟨b2,rfl,b⟩
 obtain ⟨r3,aP,x⟩:=bs x
 refine qF (kS b 3 3 r r kL pV r (by decide) (by decide) X r r (b.AJ 0 0 r r) aP) ?_
 rintro _ w3 ⟨A3,C3,Q3,rfl,b⟩
 refine s (xn r) (s (nL r) (lu (lW b 1 [Z A3 r3 C3] r pO r r) fun w5 b=>n (q (g (s (lc r) (s (IG r r) (tL b (ko jP) fun w6 b6 b=>lu (nD b 0 [V 1,V 0,V 0,T v,T be,V 0,V 0,sn,T be,V 0,sn,sn,sn] r jP r r) fun w7 b=>n (q ?_))))))))
 obtain ⟨c,h8,x⟩:=bs x
 obtain ⟨bc,al,h9,x⟩:=lV x
 obtain ⟨a,ao,x⟩:=bs x
 refine oC (fun f w=>∃ (am:Nat)(A:Nat)(J:Nat),Has f [(0,Pt an),(1,V x1),(5,T v),(6,Pt b6),(7,Pt am)]∧Bx w0 w c5 G [.box b6 111 #[V 1,V 0,V 0,T v,T be,V 0,V 0,sn,T be,V 0,sn,sn,sn],.box an 135 #[Pt B,V o.f,V o.e,Z U o.b W,Z A3 r3 C3,Z E o.d F,Z H o.c I,V o.g,V o.h],.box B 132 #[Z C al.l D,V al.a],O ai A3 C3 9 BA Q3,O aj E F 9 BA Y,O ak H I 9 BA a0,O w0.heap.size (ad A) 1 138 Ge [[V 14,V 0,V 0,T be,T be,.slice (ad J) ([c,a]:List Ge).length 2]],.box am 111 #[V 5,V 0,V 0,T be,T be,V 0,V 0,sn,T be,V 0,.slice (ad A) ([(⟨14,0,0,be,be,([c,a]:List Ge)⟩:Ge)]:List Ge).length 1,sn,sn]] [.l U W o.b,.els Q3 r3,.els Y o.d,.els a0 o.c,.els [[V 14,V 0,V 0,T be,T be,.slice (ad J) ([c,a]:List Ge).length 2]] ([(⟨14,0,0,be,be,([c,a]:List Ge)⟩:Ge)]:List Ge),.l C D al.l]) (fun Jd hJd=>?_) ?_
 ·refine oJ b [2] [] [] (by kernel_rfl) ?_
  replace b:=b.drew
  have h:=(b.ad [2] [])
  refine pF 0 r (lc r) h (pF 2 r (mp r) h (pF 3 r (xn r) h (pF 4 r (qm r) h (uF 5 r (fun hS=>yE r (hS.bk 0 r) r) h (nI 1 [13] (by kernel_rfl) (jS ?_ (jS ?_ lX)))))))
  ·have hc:=(ql fu) (b.pr [] [0,1,2,3,4,5,6] [] r)  h8
   refine oc r r (ec ER r) hc ?_
   rintro _ w8 ⟨j,m,rfl,z⟩
   replace b:=b.cn [] [0,1,2,3,4,5,6] z
   have h:=(b.ad [2] [])
   refine ⟨(sF h),(nI 6 [13] (by kernel_rfl) (jS ?_ (jS ?_ lX)))⟩
   ·have hc:=(kr fu) (b.pr [3] [0,1,2,4,5,6] [7] r)  h9
    refine oc r r (ec pG r) hc ?_
    rintro _ w9 ⟨rfl,z⟩
    replace b:=b.cn [3] [0,1,2,4,5,6] z
    have h:=(b.ad [3] [])
    refine ⟨(sF h),(pF 7 r (kN r r) h (nI 8 [13] (by kernel_rfl) (jS ?_ (jS ?_ lX))))⟩
    ·have hc:=(tC fu) (b.pr [] [0,1,2,3,4,5,6] [] r)  ao
     refine oc r r (ec Dh r) hc ?_
     rintro _ au ⟨d,e,rfl,z⟩
     replace b:=b.cn [] [0,1,2,3,4,5,6] z
     have h:=(b.ad [3] [])
     refine ⟨(sF h),(nI 9 [13] (by kernel_rfl) (jS ?_ (jS ?_ lX)))⟩
     ·refine oo r r (jV b [[V c.e,V c.d,V c.j,T c.a,T c.c,Z j c.b m],[V a.e,V a.d,V a.j,T a.a,T a.c,Z d a.b e]] ([c,a]:List Ge) (xz r r) r r (by decide) ⟨(jL.tQ ⟨j,m,r,(b.dl 2 r)⟩),⟨(jL.tQ ⟨d,e,r,(b.dl 0 r)⟩),y⟩⟩) ?_
      rintro _ bh ⟨J,rfl,b⟩
      have h:=(b.ad [4] [])
      refine ⟨(sF h),(pF 10 r (vD r r) h (nI 11 [13] (by kernel_rfl) (jS ?_ (jS ?_ lX))))⟩
      ·replace b:=b.U7 0 0 r r
       try dsimp only [List.eraseIdx] at b
       refine oo r r (jV b [[V 14,V 0,V 0,T be,T be,.slice (ad J) ([c,a]:List Ge).length 2]] ([(⟨14,0,0,be,be,([c,a]:List Ge)⟩:Ge)]:List Ge) (kX r) r r (by decide) ⟨(jL.tQ ⟨(ad J),2,r,(b.dl 0 r)⟩),y⟩) ?_
       rintro _ bi ⟨A,rfl,b⟩
       have h:=(b.ad [4] [])
       refine ⟨(sF h),(pF 12 r (ru r r) h (hO 13 (oo r r (rM b (ko jP)) ?_)))⟩
       rintro _ bj ⟨am,rfl,b⟩
       have h:=(b.ad [5] [])
       refine ⟨(sF h),(hO 14 (os r r (nD b 0 [V 5,V 0,V 0,T be,T be,V 0,V 0,sn,T be,V 0,.slice (ad A) ([(⟨14,0,0,be,be,([c,a]:List Ge)⟩:Ge)]:List Ge).length 1,sn,sn] r jP r r) fun bl b=>?_))⟩
       have h:=(b.ad [5] [])
       exact ⟨(sF h),(hD (hJd _ _ ⟨am,A,J,⟨r,r,r,r,r,y⟩,(b.ad [3,5,2,6,7,8,1,0] [7,8,9,10,0,3])⟩))⟩
      refine oo r r (rM b (ko jP)) ?_
      rintro _ bm ⟨aR,rfl,b⟩
      have h:=(b.ad [5] [])
      refine ⟨(sF h),?_⟩
      replace b:=b.fz 1 0 r r
      refine hO 11 (oo r r (jV b [[V 14,V 0,V 0,T be,T be,.slice (ad J) ([c,a]:List Ge).length 2]] ([(⟨14,0,0,be,be,([c,a]:List Ge)⟩:Ge)]:List Ge) (kX r) r r (by decide) ⟨(jL.tQ ⟨(ad J),2,r,(b.dl 0 r)⟩),y⟩) ?_)
      rintro _ bn ⟨av,rfl,b⟩
      have h:=(b.ad [5] [])
      refine ⟨(sF h),(pF 12 r (ru r r) h (hO 14 (os r r (nD b 1 [V 5,V 0,V 0,T be,T be,V 0,V 0,sn,T be,V 0,.slice (ad av) ([(⟨14,0,0,be,be,([c,a]:List Ge)⟩:Ge)]:List Ge).length 1,sn,sn] r jP r r) fun bo b=>?_)))⟩
      have h:=(b.ad [5] [])
      exact ⟨(sF h),(hD (hJd _ _ ⟨aR,av,J,⟨r,r,r,r,r,y⟩,(b.ad [3,5,2,6,7,8,0,1] [7,8,9,10,0,3])⟩))⟩
     refine oo r r (rM b (ko jP)) ?_
     rintro _ bp ⟨aS,rfl,b⟩
     have h:=(b.ad [4] [])
     refine ⟨(sF h),(hO 9 (oo r r (jV b [[V c.e,V c.d,V c.j,T c.a,T c.c,Z j c.b m],[V a.e,V a.d,V a.j,T a.a,T a.c,Z d a.b e]] ([c,a]:List Ge) (xz r r) r r (by decide) ⟨(jL.tQ ⟨j,m,r,(b.dl 2 r)⟩),⟨(jL.tQ ⟨d,e,r,(b.dl 0 r)⟩),y⟩⟩) ?_))⟩
     rintro _ bq ⟨aw,rfl,b⟩
     have h:=(b.ad [5] [])
     refine ⟨(sF h),(pF 10 r (vD r r) h ?_)⟩
     replace b:=b.fz 0 0 r r
     refine hO 11 (oo r r (jV b [[V 14,V 0,V 0,T be,T be,.slice (ad aw) ([c,a]:List Ge).length 2]] ([(⟨14,0,0,be,be,([c,a]:List Ge)⟩:Ge)]:List Ge) (kX r) r r (by decide) ⟨(jL.tQ ⟨(ad aw),2,r,(b.dl 0 r)⟩),y⟩) ?_)
     rintro _ br ⟨ax,rfl,b⟩
     have h:=(b.ad [5] [])
     refine ⟨(sF h),(pF 12 r (ru r r) h (hO 14 (os r r (nD b 1 [V 5,V 0,V 0,T be,T be,V 0,V 0,sn,T be,V 0,.slice (ad ax) ([(⟨14,0,0,be,be,([c,a]:List Ge)⟩:Ge)]:List Ge).length 1,sn,sn] r jP r r) fun bu b=>?_)))⟩
     have h:=(b.ad [5] [])
     exact ⟨(sF h),(hD (hJd _ _ ⟨aS,ax,aw,⟨r,r,r,r,r,y⟩,(b.ad [3,5,2,6,7,8,0,1] [7,8,9,10,0,3])⟩))⟩
    refine oo r r (rM b (ko jP)) ?_
    rintro _ bv ⟨aT,rfl,b⟩
    have h:=(b.ad [4] [])
    refine ⟨(sF h),?_⟩
    have hc:=(tC fu) (b.pr [] [0,1,2,3,4,5,6,7] [] r)  ao
    refine hO 8 (oc r r (ec Dh r) hc ?_)
    rintro _ au ⟨d,e,rfl,z⟩
    replace b:=b.cn [] [0,1,2,3,4,5,6,7] z
    have h:=(b.ad [4] [])
    refine ⟨(sF h),(hO 9 (oo r r (jV b [[V c.e,V c.d,V c.j,T c.a,T c.c,Z j c.b m],[V a.e,V a.d,V a.j,T a.a,T a.c,Z d a.b e]] ([c,a]:List Ge) (xz r r) r r (by decide) ⟨(jL.tQ ⟨j,m,r,(b.dl 2 r)⟩),⟨(jL.tQ ⟨d,e,r,(b.dl 0 r)⟩),y⟩⟩) ?_))⟩
    rintro _ bw ⟨ay,rfl,b⟩
    have h:=(b.ad [5] [])
    refine ⟨(sF h),(pF 10 r (vD r r) h ?_)⟩
    replace b:=b.fz 0 0 r r
    refine hO 11 (oo r r (jV b [[V 14,V 0,V 0,T be,T be,.slice (ad ay) ([c,a]:List Ge).length 2]] ([(⟨14,0,0,be,be,([c,a]:List Ge)⟩:Ge)]:List Ge) (kX r) r r (by decide) ⟨(jL.tQ ⟨(ad ay),2,r,(b.dl 0 r)⟩),y⟩) ?_)
    rintro _ bz ⟨az,rfl,b⟩
    have h:=(b.ad [5] [])
    refine ⟨(sF h),(pF 12 r (ru r r) h (hO 14 (os r r (nD b 1 [V 5,V 0,V 0,T be,T be,V 0,V 0,sn,T be,V 0,.slice (ad az) ([(⟨14,0,0,be,be,([c,a]:List Ge)⟩:Ge)]:List Ge).length 1,sn,sn] r jP r r) fun bA b=>?_)))⟩
    have h:=(b.ad [5] [])
    exact ⟨(sF h),(hD (hJd _ _ ⟨aT,az,ay,⟨r,r,r,r,r,y⟩,(b.ad [3,5,2,6,7,8,0,1] [7,8,9,10,0,3])⟩))⟩
   refine oo r r (rM b (ko jP)) ?_
   rintro _ bB ⟨aU,rfl,b⟩
   have h:=(b.ad [3] [])
   refine ⟨(sF h),?_⟩
   have hc:=(kr fu) (b.pr [4] [0,1,2,3,5,6,7] [7] r)  h9
   refine hO 6 (oc r r (ec pG r) hc ?_)
   rintro _ w9 ⟨rfl,z⟩
   replace b:=b.cn [4] [0,1,2,3,5,6,7] z
   have h:=(b.ad [4] [])
   refine ⟨(sF h),(pF 7 r (kN r r) h ?_)⟩
   have hc:=(tC fu) (b.pr [] [0,1,2,3,4,5,6,7] [] r)  ao
   refine hO 8 (oc r r (ec Dh r) hc ?_)
   rintro _ au ⟨d,e,rfl,z⟩
   replace b:=b.cn [] [0,1,2,3,4,5,6,7] z
   have h:=(b.ad [4] [])
   refine ⟨(sF h),(hO 9 (oo r r (jV b [[V c.e,V c.d,V c.j,T c.a,T c.c,Z j c.b m],[V a.e,V a.d,V a.j,T a.a,T a.c,Z d a.b e]] ([c,a]:List Ge) (xz r r) r r (by decide) ⟨(jL.tQ ⟨j,m,r,(b.dl 2 r)⟩),⟨(jL.tQ ⟨d,e,r,(b.dl 0 r)⟩),y⟩⟩) ?_))⟩
   rintro _ bC ⟨aA,rfl,b⟩
   have h:=(b.ad [5] [])
   refine ⟨(sF h),(pF 10 r (vD r r) h ?_)⟩
   replace b:=b.fz 0 0 r r
   refine hO 11 (oo r r (jV b [[V 14,V 0,V 0,T be,T be,.slice (ad aA) ([c,a]:List Ge).length 2]] ([(⟨14,0,0,be,be,([c,a]:List Ge)⟩:Ge)]:List Ge) (kX r) r r (by decide) ⟨(jL.tQ ⟨(ad aA),2,r,(b.dl 0 r)⟩),y⟩) ?_)
   rintro _ bD ⟨aB,rfl,b⟩
   have h:=(b.ad [5] [])
   refine ⟨(sF h),(pF 12 r (ru r r) h (hO 14 (os r r (nD b 2 [V 5,V 0,V 0,T be,T be,V 0,V 0,sn,T be,V 0,.slice (ad aB) ([(⟨14,0,0,be,be,([c,a]:List Ge)⟩:Ge)]:List Ge).length 1,sn,sn] r jP r r) fun bE b=>?_)))⟩
   have h:=(b.ad [5] [])
   exact ⟨(sF h),(hD (hJd _ _ ⟨aU,aB,aA,⟨r,r,r,r,r,y⟩,(b.ad [3,5,1,6,7,8,0,2] [7,8,9,10,0,3])⟩))⟩
  refine oo r r (rM b (ko jP)) ?_
  rintro _ bF ⟨aV,rfl,b⟩
  have h:=(b.ad [3] [])
  refine ⟨(sF h),?_⟩
  have hc:=(ql fu) (b.pr [] [0,1,2,3,4,5,6,7] [] r)  h8
  refine hO 1 (oc r r (ec ER r) hc ?_)
  rintro _ w8 ⟨j,m,rfl,z⟩
  replace b:=b.cn [] [0,1,2,3,4,5,6,7] z
  have h:=(b.ad [3] [])
  refine ⟨(sF h),?_⟩
  have hc:=(kr fu) (b.pr [4] [0,1,2,3,5,6,7] [7] r)  h9
  refine hO 6 (oc r r (ec pG r) hc ?_)
  rintro _ w9 ⟨rfl,z⟩
  replace b:=b.cn [4] [0,1,2,3,5,6,7] z
  have h:=(b.ad [4] [])
  refine ⟨(sF h),(pF 7 r (kN r r) h ?_)⟩
  have hc:=(tC fu) (b.pr [] [0,1,2,3,4,5,6,7] [] r)  ao
  refine hO 8 (oc r r (ec Dh r) hc ?_)
  rintro _ au ⟨d,e,rfl,z⟩
  replace b:=b.cn [] [0,1,2,3,4,5,6,7] z
  have h:=(b.ad [4] [])
  refine ⟨(sF h),(hO 9 (oo r r (jV b [[V c.e,V c.d,V c.j,T c.a,T c.c,Z j c.b m],[V a.e,V a.d,V a.j,T a.a,T a.c,Z d a.b e]] ([c,a]:List Ge) (xz r r) r r (by decide) ⟨(jL.tQ ⟨j,m,r,(b.dl 2 r)⟩),⟨(jL.tQ ⟨d,e,r,(b.dl 0 r)⟩),y⟩⟩) ?_))⟩
  rintro _ bG ⟨aC,rfl,b⟩
  have h:=(b.ad [5] [])
  refine ⟨(sF h),(pF 10 r (vD r r) h ?_)⟩
  replace b:=b.fz 0 0 r r
  refine hO 11 (oo r r (jV b [[V 14,V 0,V 0,T be,T be,.slice (ad aC) ([c,a]:List Ge).length 2]] ([(⟨14,0,0,be,be,([c,a]:List Ge)⟩:Ge)]:List Ge) (kX r) r r (by decide) ⟨(jL.tQ ⟨(ad aC),2,r,(b.dl 0 r)⟩),y⟩) ?_)
  rintro _ bH ⟨aD,rfl,b⟩
  have h:=(b.ad [5] [])
  refine ⟨(sF h),(pF 12 r (ru r r) h (hO 14 (os r r (nD b 2 [V 5,V 0,V 0,T be,T be,V 0,V 0,sn,T be,V 0,.slice (ad aD) ([(⟨14,0,0,be,be,([c,a]:List Ge)⟩:Ge)]:List Ge).length 1,sn,sn] r jP r r) fun bI b=>?_)))⟩
  have h:=(b.ad [5] [])
  exact ⟨(sF h),(hD (hJd _ _ ⟨aV,aD,aC,⟨r,r,r,r,r,y⟩,(b.ad [3,5,1,6,7,8,0,2] [7,8,9,10,0,3])⟩))⟩
 clear b
 rintro f w ⟨am,A,J,hf,b⟩
 obtain ⟨c6,rfl⟩:=gP _ _ hf
 clear hf
 refine q (g (s (mp r) (s (mi r) (s (kN r r) ?_))))
 obtain ⟨aW,aX,aY,aZ,x⟩:=qG x
 have hc:=H_kit_body (b.pr [1,2,3,4,5] [0,6,7] [5,0,1,2,3] r) (b.le X) (b.le aa) (b.le ab) aZ
 refine sc (ec IP r) hc ?_
 rintro _ bJ ⟨aE,aF,aG,a1,a2,a3,a4,a5,a6,a7,a8,a9,rfl,z⟩
 have b0:=b.rX.size
 replace b:=b.cn [1,2,3,4,5] [0,6,7] z
 replace b:=b.rb 0 w0.heap.size r b0
 refine s (lc r) ?_
 obtain ⟨u,b1,x⟩:=bs x
 have hc:=(ql fu) (b.pr [] [0,1,2,3,4,5,6,7,8] [] r)  b1
 refine sc (ec ER r) hc ?_
 rintro _ bK ⟨K,L,rfl,z⟩
 replace b:=b.cn [] [0,1,2,3,4,5,6,7,8] z
 refine qF (jV b [[V u.e,V u.d,V u.j,T u.a,T u.c,Z K u.b L]] ([u]:List Ge) (kX r) r r (by decide) ⟨(jL.tQ ⟨K,L,r,(b.dl 0 r)⟩),y⟩) ?_
 rintro _ bL ⟨aH,rfl,b⟩
 refine s (lc r) ?_
 obtain ⟨p,b3,x⟩:=bs x
 have hc:=(ql fu) (b.pr [] [0,1,2,3,4,5,6,7,8,9] [] r)  b3
 refine sc (ec ER r) hc ?_
 rintro _ bM ⟨M,N,rfl,z⟩
 replace b:=b.cn [] [0,1,2,3,4,5,6,7,8,9] z
 obtain ⟨t,b4,x⟩:=bs x
 have hc:=(tC fu) (b.pr [] [0,1,2,3,4,5,6,7,8,9] [] r)  b4
 refine sc (ec Dh r) hc ?_
 rintro _ bN ⟨Q,S,rfl,z⟩
 replace b:=b.cn [] [0,1,2,3,4,5,6,7,8,9] z
 refine qF (jV b [[V p.e,V p.d,V p.j,T p.a,T p.c,Z M p.b N],[V t.e,V t.d,V t.j,T t.a,T t.c,Z Q t.b S]] ([p,t]:List Ge) (xz r r) r r (by decide) ⟨(jL.tQ ⟨M,N,r,(b.dl 1 r)⟩),⟨(jL.tQ ⟨Q,S,r,(b.dl 0 r)⟩),y⟩⟩) ?_
 rintro _ bO ⟨aI,rfl,b⟩
 refine s (vD r r) ?_
 replace b:=b.fz 0 0 r r
 refine qF (jV b [[V 6,V 0,V 0,T be,T be,.slice (ad aI) ([p,t]:List Ge).length 2]] ([(⟨6,0,0,be,be,([p,t]:List Ge)⟩:Ge)]:List Ge) (kX r) r r (by decide) ⟨(jL.tQ ⟨(ad aI),2,r,(b.dl 0 r)⟩),y⟩) ?_
 rintro _ bP ⟨aJ,rfl,b⟩
 refine s (JX r r r) ?_
 replace b:=b.fz 1 4 r r
 replace b:=b.fz 0 1 r r
 refine qF (jV b [[V 2,V 0,V 0,T be,T be,V 0,V 0,.slice (ad aH) ([u]:List Ge).length 1,T be,V 0,.slice (ad aJ) ([(⟨6,0,0,be,be,([p,t]:List Ge)⟩:Ge)]:List Ge).length 1,sn,sn]] ([(⟨2,0,0,be,be,0,0,([u]:List Ge),be,0,([(⟨6,0,0,be,be,([p,t]:List Ge)⟩:Ge)]:List Ge),([]:List Gs),([]:List Gs)⟩:Gs)]:List Gs) (tH r) r r (by decide) ⟨(jM.tQ ⟨(ad aH),1,(ad aJ),1,none,0,none,0,r,(b.dl 1 r),(b.dl 0 r),oP,oP⟩),y⟩) ?_
 rintro _ bQ ⟨bR,rfl,b⟩
 obtain ⟨ac,aK,x⟩:=bs x
 refine qF (kS b 1 7 r r yH jP r (by decide) (by decide) (Nat.le_refl _) r r (b.AJ 0 0 r r) aK) ?_
 rintro _ bS ⟨ae,af,bT,rfl,b⟩
 refine s (uo r) (lu (lW b 9 [Z ae ac af] r yG r r) fun bU b=>n (q (g (s (mE [V 1,V 0,V 0,T v,T be,V 0,V 0,sn,T be,V 0,sn,sn,sn] lG jP r (b.bk 7 r)) (s (mE [V 5,V 0,V 0,T be,T be,V 0,V 0,sn,T be,V 0,.slice (ad A) ([(⟨14,0,0,be,be,([c,a]:List Ge)⟩:Ge)]:List Ge).length 1,Z ae ac af,sn] lG jP r (b.bk 9 r)) ?_)))))
 replace b:=b.fz 8 17 r r
 replace b:=b.fz 1 8 r r
 refine qF (jV b [[V 1,V 0,V 0,T v,T be,V 0,V 0,sn,T be,V 0,sn,sn,sn],[V 5,V 0,V 0,T be,T be,V 0,V 0,sn,T be,V 0,.slice (ad A) ([(⟨14,0,0,be,be,([c,a]:List Ge)⟩:Ge)]:List Ge).length 1,Z ae ac af,sn]] ([(⟨1,0,0,v,be,0,0,([]:List Ge),be,0,([]:List Ge),([]:List Gs),([]:List Gs)⟩:Gs),(⟨5,0,0,be,be,0,0,([]:List Ge),be,0,([(⟨14,0,0,be,be,([c,a]:List Ge)⟩:Ge)]:List Ge),ac,([]:List Gs)⟩:Gs)]:List Gs) (OX r r) r r (by decide) ⟨(jM.tQ ⟨none,0,none,0,none,0,none,0,r,oP,oP,oP,oP⟩),⟨(jM.tQ ⟨none,0,(ad A),1,ae,af,none,0,r,oP,(b.dl 1 r),(b.dl 0 r),oP⟩),y⟩⟩) ?_
 rintro _ bW ⟨b5,rfl,b⟩
 refine s (nJ r) (n (kP ?_))
 obtain rfl:=sm x
 exact jC r (kT r) (lw (lw (⟨(ad b5),2,[[V 1,V 0,V 0,T v,T be,V 0,V 0,sn,T be,V 0,sn,sn,sn],[V 5,V 0,V 0,T be,T be,V 0,V 0,sn,T be,V 0,.slice (ad A) ([(⟨14,0,0,be,be,([c,a]:List Ge)⟩:Ge)]:List Ge).length 1,Z ae ac af,sn]],a1,a2,a3,a4,a5,a6,a7,a8,a9,r,(b.ad [0,2,3,4,5,6] [0,10,11,12,13,14])⟩)))
theorem JF (fu:Nat)(r_kit_stmts:nG) (r_kit_body:ow) (r_kit_loop:ou) (H_kit_stmts:vY r_kit_stmts) (H_kit_body:zB r_kit_body) (H_kit_loop:zC r_kit_loop):vY (zz fu r_kit_stmts r_kit_body r_kit_loop):=by
 intro w0 jE x0 ex x1 x2 ah E x A F H dy dz eG a4 dA dB eH ab dC dD eI ac R hP N U W hM
 unfold zz at hM
 have b:=hP.bx
 clear hP
 generalize hG:lT _=G at b ⊢
 refine cf Try.func58 r ?_
 refine ma [(0,Pt ah),(1,V x1),(2,V x2)] ⟨r,r,r,y⟩ fun jF=>?_
 refine q (g (s (nJ r) (n (q (g (s (nJ r) (n (q (q (g (s (xi r) (n ?_))))))))))))
 replace b:=b.BQ Gs 111
 obtain ⟨Y1,a,hM⟩:=bs hM
 refine oC (fun f w=>∃ (Q:Int)(M:List Gs) (B:OA)(C:Nat)(D:LV)(a5:Int)(a6:Int)(S:List Int) (Y:Int)(a1:Int)(aC:List Int) (aY:Int)(I:List BA) (e:OA)(h:Nat)(t:LV)(J:List BA) (j:OA)(m:Nat)(u:LV)(K:List BA) (o:OA)(p:Nat)(v:LV),Has f [(7,Z B M C)]∧Bx w0 w jE G [O w0.heap.size B C 111 Gs D,.box ah 135 #[Pt E,V a5,V a6,Z F S H,Z e I h,Z j J m,Z o K p,V Y,V a1],.box E 132 #[Z x aC A,V aY],O a4 e h 9 BA t,O ab j m 9 BA u,O ac o p 9 BA v] [.l F H S,.l x A aC,.els D M,.els t I,.els u J,.els v K]∧Ld.go (Q,M,a5,a6,S,Y,a1,aC,aY,I,J,K)=Y1) (fun J1 fi=>?_) ?_
 ·refine nZ (kH (fun jG f w=>∃ (Q:Int)(M:List Gs) (B:OA)(C:Nat)(D:LV)(a5:Int)(a6:Int)(S:List Int) (Y:Int)(a1:Int)(aC:List Int) (aY:Int)(I:List BA) (e:OA)(h:Nat)(t:LV)(J:List BA) (j:OA)(m:Nat)(u:LV)(K:List BA) (o:OA)(p:Nat)(v:LV),Has f [(0,Pt ah),(1,V x1),(2,V x2),(7,Z B M C),(8,V Q)]∧Bx w0 w jE G [O w0.heap.size B C 111 Gs D,.box ah 135 #[Pt E,V a5,V a6,Z F S H,Z e I h,Z j J m,Z o K p,V Y,V a1],.box E 132 #[Z x aC A,V aY],O a4 e h 9 BA t,O ab j m 9 BA u,O ac o p 9 BA v] [.l F H S,.l x A aC,.els D M,.els t I,.els u J,.els v K]∧mr fu r_kit_stmts r_kit_body r_kit_loop x1 x2 jG Q M a5 a6 S Y a1 aC aY I J K=some Y1) fu ⟨0,([]:List Gs),none,0,[],x0.f,x0.e,x0.b,x0.g,x0.h,ex.l,ex.a,x0.a,dy,dz,eG,x0.d,dA,dB,eH,x0.c,dC,dD,eI,⟨r,r,r,r,r,y⟩,(b.dp [2,1,0,3,4,5]),a⟩ ?_)
  clear b a
  rintro n1 f w ⟨Q,M,B,C,D,a5,a6,S,Y,a1,aC,aY,I,e,h,t,J,j,m,u,K,o,p,v,hf,b,a⟩ K1 cX
  obtain ⟨jF,rfl⟩:=gP _ _ hf
  clear hf
  cases n1 with
  | zero=>exact nn a
  | succ n1=>
   rw [mr] at a
   refine q (q (g (s (mi r) (s (mi r) (s (qB r r) (s (jZ r) ?_))))))
   rcases iv a with ⟨h3,a⟩|⟨h3,a⟩
   ·rw [decide_eq_true h3]
    refine jQ r (s (mp r) (jQ r (s (xn r) (jQ r (s (Mo r) (jQ r (s (l3 r (b.bk 1 r) r) (jQ r (s (vG r r) (s (jN r r) (s (jZ r) ?_)))))))))))
    rcases iv a with ⟨h4,a⟩|⟨h4,a⟩
    ·rw [decide_eq_true h4]
     refine jQ r (s (mp r) (jQ r (s (xn r) (jQ r (s (qm r) (jQ r (s (yE r (b.bk 1 r) r) ?_)))))))
     obtain ⟨i2,h5,a⟩:=bs a
     refine jQ r ?_
     have hc:=(Kr fu) (b.pr [2] [0,1,3,4,5] [1] r)  h5
     refine sc (ec Um r) hc ?_
     rintro _ w5 ⟨rfl,hK⟩
     replace b:=b.cn [2] [0,1,3,4,5] hK
     refine s (jN r r) (n ?_)
     rcases iv a with ⟨h6,a⟩|⟨h6,a⟩
     ·refine jH (cb h6) (wk (q (nZ (q (g (s (mp r) (s (xn r) (s (Mo r) (s (l3 r (b.bk 2 r) r) (s (xU r r) (s (xn r) (s (Mo r) (lu (lW b 2 [V (wr (a1 - 1))] r pJ r r) fun w7 b=>?_)))))))))))))
      refine n (q (g (s (mp r) (s (xn r) (s (qm r) (s (yE r (b.bk 2 r) r) ?_))))))
      obtain ⟨cK,al,h8,a⟩:=lV a
      have hc:=(kr fu) (b.pr [0] [1,2,3,4,5] [2] r)  h8
      refine sc (ec pG r) hc ?_
      rintro _ w8 ⟨rfl,hK⟩
      replace b:=b.cn [0] [1,2,3,4,5] hK
      refine s (xi r) (n (nZ (q ?_)))
      obtain ⟨Y9,eE,a⟩:=bs a
      refine oC (fun f w=>∃ (eK:Bool),Has f [(0,Pt ah),(1,V x1),(2,V x2),(7,Z B M C),(8,V Q),(9,V cK),(49,.bool eK)]∧Bx w0 w jE G [.box E 132 #[Z x al.l A,V al.a],O w0.heap.size B C 111 Gs D,.box ah 135 #[Pt E,V a5,V a6,Z F S H,Z e I h,Z j J m,Z o K p,V Y,V (wr (a1 - 1))],O a4 e h 9 BA t,O ab j m 9 BA u,O ac o p 9 BA v] [.l x A al.l,.l F H S,.els D M,.els t I,.els u J,.els v K]∧Ld.go eK=Y9) (fun J9 fW=>?_) ?_
      ·unfold yn at eE
       refine g (s (mi r) (s (qB r r) (s (jZ r) ?_)))
       rcases iv eE with ⟨fj,eE⟩|⟨fj,eE⟩
       ·rw [decide_eq_true fj]
        refine jQ r (s (mp r) (jQ r (s (xn r) (jQ r (s (Ep r) (jQ r (s (l3 r (b.bk 2 r) r) (jQ r (s (qB r r) (s (jN r r) (s (jU r) (n ?_))))))))))))
        exact fW _ _ ⟨(decide (Y < 14)),⟨r,r,r,r,r,r,r,y⟩,(b.dp [0,2,4,5,6,7]),sm eE⟩
       rw [decide_eq_false fj]
       refine jB r (jB r (jB r (jB r (jB r (s (jX r r) (s (jU r) (n ?_)))))))
       exact fW _ _ ⟨false,⟨r,r,r,r,r,r,r,y⟩,(b.dp [0,2,4,5,6,7]),sm eE⟩
      clear b
      rintro f w ⟨eK,hf,b,gQ⟩
      obtain ⟨jF,rfl⟩:=gP _ _ hf
      clear hf
      subst gQ
      replace a:=gi a
      rcases iv a with ⟨eL,a⟩|⟨eL,a⟩
      ·refine jH (cb eL) (g (s (mD r) (s (mp r) ?_)))
       obtain ⟨a7,aF,eM,gR,a⟩:=qG a
       have hc:=(GX fu) (b.pr [2,0,3,4,5] [1] [0,1,3,4,5] r) (b.le N) (b.le U) (b.le W) gR
       refine sc (ec TA r) hc ?_
       rintro _ iB ⟨cL,cM,cN,cO,cP,cQ,cR,cS,dE,dF,dG,dH,dI,dJ,dK,dL,dM,rfl,hK⟩
       replace b:=b.cn [2,0,3,4,5] [1] hK
       refine qF (jV b [[V a7.e,V a7.c,V a7.n,T a7.a,T a7.g,V a7.m,V a7.j,Z cL a7.d cM,T a7.k,V a7.h,Z cN a7.b cO,Z cP a7.f cQ,Z cR a7.i cS]] ([a7]:List Gs) (tH r) r r (by decide) ⟨(jM.tQ ⟨cL,cM,cN,cO,cP,cQ,cR,cS,r,(b.dl 0 r),(b.dl 1 r),(b.dl 2 r),(b.dl 3 r)⟩),y⟩) ?_
       rintro _ iC ⟨iD,rfl,b⟩
       obtain ⟨gS,fX,a⟩:=bs a
       refine qF (kS b 6 12 r r yH jP r (by decide) (by decide) (Nat.le_refl _) r r (b.AJ 0 0 r r) fX) ?_
       rintro _ iE ⟨gT,gU,gV,rfl,b⟩
       refine s (nJ r) (n (g (s (mi r) (s (kN r r) (s (xi r) (n ?_))))))
       exact cX n1 _ _ (Nat.lt_succ_self _) ⟨(wr (Q+1)),gS,gT,gU,gV,aF.f,aF.e,aF.b,aF.g,aF.h,eM.l,eM.a,aF.a,dE,dF,dG,aF.d,dH,dI,dJ,aF.c,dK,dL,dM,⟨r,r,r,r,r,y⟩,(b.ad [6,1,2,3,4,5] [6,5,12,7,8,9]),a⟩
      replace eL:=nt eL
      refine jI (cb eL) (q ?_)
      obtain ⟨gW,cT,a⟩:=bs a
      refine oC (fun f w=>∃ (dN:Bool),Has f [(0,Pt ah),(1,V x1),(2,V x2),(7,Z B M C),(8,V Q),(9,V cK),(64,.bool dN)]∧Bx w0 w jE G [.box E 132 #[Z x al.l A,V al.a],O w0.heap.size B C 111 Gs D,.box ah 135 #[Pt E,V a5,V a6,Z F S H,Z e I h,Z j J m,Z o K p,V Y,V (wr (a1 - 1))],O a4 e h 9 BA t,O ab j m 9 BA u,O ac o p 9 BA v] [.l x A al.l,.l F H S,.els D M,.els t I,.els u J,.els v K]∧Ld.go dN=gW) (fun iF f9=>?_) ?_
      ·unfold xN at cT
       refine g (s (mi r) (s (kK r r) (s (jZ r) ?_)))
       rcases iv cT with ⟨fk,cT⟩|⟨fk,cT⟩
       ·rw [decide_eq_true fk]
        refine jQ r (s (mi r) (jQ r (s (qB r r) (s (jN r r) (s (jU r) (n ?_))))))
        exact f9 _ _ ⟨(decide (x1 < 4)),⟨r,r,r,r,r,r,r,y⟩,b,sm cT⟩
       rw [decide_eq_false fk]
       refine jB r (jB r (s (jX r r) (s (jU r) (n ?_))))
       exact f9 _ _ ⟨false,⟨r,r,r,r,r,r,r,y⟩,b,sm cT⟩
      clear b
      rintro f w ⟨dN,hf,b,fY⟩
      obtain ⟨jF,rfl⟩:=gP _ _ hf
      clear hf
      subst fY
      replace a:=gi a
      rcases iv a with ⟨eN,a⟩|⟨eN,a⟩
      ·refine jH (cb eN) (q (g (s (mp r) ?_)))
       obtain ⟨L,gX,gY,gZ,a⟩:=qG a
       have hc:=(ut fu) (b.pr [2,0,3,4,5] [1] [0,1,3,4,5] r) (b.le N) (b.le U) (b.le W) gZ
       refine sc (ec Bg r) hc ?_
       rintro _ iG ⟨aO,aP,rfl,hK⟩
       replace b:=b.cn [2,0,3,4,5] [1] hK
       refine qF (jV b [[V L.e,V L.d,V L.j,T L.a,T L.c,Z aO L.b aP]] ([L]:List Ge) (kX r) r r (by decide) ⟨(jL.tQ ⟨aO,aP,r,(b.dl 0 r)⟩),y⟩) ?_
       rintro _ iH ⟨cY,rfl,b⟩
       refine s (ru r r) (tL b (ko jP) fun iI fZ b=>?_)
       refine lu (nD b 0 [V 4,V 0,V 0,T be,T be,V 0,V 0,sn,T be,V 0,.slice (ad cY) ([L]:List Ge).length 1,sn,sn] r jP r r) fun iJ b=>?_
       refine n (q (g (s (mp r) (s (mi r) (s (kN r r) ?_)))))
       obtain ⟨aG,aH,h0,h1,a⟩:=qG a
       have hc:=H_kit_body (b.pr [2,3,4,5,6] [0,1,7] [2,3,4,5,6] r) (b.le N) (b.le U) (b.le W) h1
       refine sc (ec IP r) hc ?_
       rintro _ iK ⟨a2,a3,cU,dO,dP,dQ,dR,dS,dT,dU,dV,dW,rfl,hK⟩
       have ch:=b.rX.size
       replace b:=b.cn [2,3,4,5,6] [0,1,7] hK
       replace b:=b.rb 0 w0.heap.size r ch
       refine s (uo r) (lu (lW b 6 [Z a2 aG a3] r yG r r) fun iL b=>?_)
       refine n (q ?_)
       replace b:=b.BQ Gs 111
       obtain ⟨h2,ai,a⟩:=bs a
       refine oC (fun f w=>∃ (b3:List Gs) (aQ:OA)(aR:Nat)(cZ:LV)(d0:Int)(d1:Int)(ci:List Int) (d2:Int)(d3:Int)(cj:List Int) (d4:Int)(ck:List BA) (bT:OA)(bU:Nat)(bV:LV)(b8:List BA) (b9:OA)(ba:Nat)(bb:LV)(bc:List BA) (bd:OA)(bg:Nat)(bh:LV),Has f [(0,Pt ah),(1,V x1),(2,V x2),(7,Z B M C),(8,V Q),(10,Pt fZ)]∧Bx w0 w jE G [O w0.heap.size aQ aR 111 Gs cZ,O w0.heap.size a2 a3 111 Gs cU,.box ah 135 #[Pt E,V d0,V d1,Z F ci H,Z bT ck bU,Z b9 b8 ba,Z bd bc bg,V d2,V d3],.box E 132 #[Z x cj A,V d4],O a4 bT bU 9 BA bV,O ab b9 ba 9 BA bb,O ac bd bg 9 BA bh,.box fZ 111 #[V 4,V 0,V 0,T be,T be,V 0,V 0,sn,T be,V 0,.slice (ad cY) ([L]:List Ge).length 1,Z a2 aG a3,Z aQ b3 aR],O w0.heap.size (ad cY) 1 138 Ge [[V L.e,V L.d,V L.j,T L.a,T L.c,Z aO L.b aP]],O w0.heap.size B C 111 Gs D] [.l F H ci,.l x A cj,.els cZ b3,.els cU aG,.els bV ck,.els bb b8,.els bh bc,.els [[V L.e,V L.d,V L.j,T L.a,T L.c,Z aO L.b aP]] ([L]:List Ge),.els D M]∧Ld.go (b3,d0,d1,ci,d2,d3,cj,d4,ck,b8,bc)=h2) (fun iM fa=>?_) ?_
       ·unfold yB at ai
        refine q (g (s (mp r) (s (xn r) (s (qm r) (s (yE r (b.bk 2 r) r) ?_)))))
        obtain ⟨h7,eO,h9,ai⟩:=lV ai
        have hc:=(kr fu) (b.pr [3] [0,1,2,4,5,6,7,8,9] [2] r)  h9
        refine sc (ec pG r) hc ?_
        rintro _ iN ⟨rfl,hK⟩
        replace b:=b.cn [3] [0,1,2,4,5,6,7,8,9] hK
        refine s (kK r r) (n ?_)
        rcases iv ai with ⟨fl,ai⟩|⟨fl,ai⟩
        ·refine jH (bt fl) (g (s (mp r) (s (mi r) (s (kN r r) ?_))))
         obtain ⟨dX,aI,eP,ha,ai⟩:=qG ai
         have hc:=H_kit_body (b.pr [3,0,4,5,6] [1,2,7,8,9] [0,4,5,6,7] r) (b.le N) (b.le U) (b.le W) ha
         refine sc (ec IP r) hc ?_
         rintro _ iO ⟨bI,bJ,eF,dY,dZ,e0,e1,e2,e3,e4,e5,e6,rfl,hK⟩
         have ch:=b.rX.size
         replace b:=b.cn [3,0,4,5,6] [1,2,7,8,9] hK
         replace b:=b.rb 0 w0.heap.size r ch
         refine s (tZ r) (lu (lW b 8 [Z bI dX bJ] r yG r r) fun iP b=>?_)
         refine n ?_
         exact fa _ _ ⟨dX,bI,bJ,eF,aI.f,aI.e,aI.b,aI.g,aI.h,eP.l,eP.a,aI.a,dY,dZ,e0,aI.d,e1,e2,e3,aI.c,e4,e5,e6,⟨r,r,r,r,r,r,y⟩,(b.ad [0,7,1,2,3,4,5,8,9,10] [2,1,0,8,3,4,5,14,23]),sm ai⟩
        refine jI (bf fl) (wk ?_)
        exact fa _ _ ⟨([]:List Gs),none,0,[],aH.f,aH.e,aH.b,aH.g,aH.h,eO.l,eO.a,aH.a,dO,dP,dQ,aH.d,dR,dS,dT,aH.c,dU,dV,dW,⟨r,r,r,r,r,r,y⟩,(b.ad [1,2,3,0,4,5,6,7,8,9] [4,0,1,2,5,6,7,8,17]),sm ai⟩
       clear b
       rintro f w ⟨b3,aQ,aR,cZ,d0,d1,ci,d2,d3,cj,d4,ck,bT,bU,bV,b8,b9,ba,bb,bc,bd,bg,bh,hf,b,g0⟩
       obtain ⟨jF,rfl⟩:=gP _ _ hf
       clear hf
       subst g0
       replace a:=gi a
       replace a:=pi (mf (mf (mf a)))
       refine g (s (mD r) (s (mE [V 4,V 0,V 0,T be,T be,V 0,V 0,sn,T be,V 0,.slice (ad cY) ([L]:List Ge).length 1,Z a2 aG a3,Z aQ b3 aR] lG jP r (b.bk 7 r)) ?_))
       replace b:=b.fz 8 7 r r
       replace b:=b.fz 1 4 r r
       replace b:=b.fz 0 4 r r
       refine qF (jV b [[V 4,V 0,V 0,T be,T be,V 0,V 0,sn,T be,V 0,.slice (ad cY) ([L]:List Ge).length 1,Z a2 aG a3,Z aQ b3 aR]] ([(⟨4,0,0,be,be,0,0,([]:List Ge),be,0,([L]:List Ge),aG,b3⟩:Gs)]:List Gs) (tH r) r r (by decide) ⟨(jM.tQ ⟨none,0,(ad cY),1,a2,a3,aQ,aR,r,oP,(b.dl 2 r),(b.dl 1 r),(b.dl 0 r)⟩),y⟩) ?_
       rintro _ iQ ⟨iR,rfl,b⟩
       obtain ⟨hb,g1,a⟩:=bs a
       refine qF (kS b 7 9 r r yH jP r (by decide) (by decide) (Nat.le_refl _) r r (b.AJ 0 0 r r) g1) ?_
       rintro _ iS ⟨hd,he,hg,rfl,b⟩
       refine s (nJ r) (n (g (s (mi r) (s (kN r r) (s (xi r) (n ?_))))))
       exact cX n1 _ _ (Nat.lt_succ_self _) ⟨(wr (Q+1)),hb,hd,he,hg,d0,d1,ci,d2,d3,cj,d4,ck,bT,bU,bV,b8,b9,ba,bb,bc,bd,bg,bh,⟨r,r,r,r,r,y⟩,(b.ad [7,1,2,3,4,5] [4,5,9,6,7,8]),a⟩
      replace eN:=nt eN
      refine jI (cb eN) (q ?_)
      obtain ⟨hh,aZ,a⟩:=bs a
      refine oC (fun f w=>∃ (e7:Bool),Has f [(0,Pt ah),(1,V x1),(2,V x2),(7,Z B M C),(8,V Q),(9,V cK),(95,.bool e7)]∧Bx w0 w jE G [.box E 132 #[Z x al.l A,V al.a],O w0.heap.size B C 111 Gs D,.box ah 135 #[Pt E,V a5,V a6,Z F S H,Z e I h,Z j J m,Z o K p,V Y,V (wr (a1 - 1))],O a4 e h 9 BA t,O ab j m 9 BA u,O ac o p 9 BA v] [.l x A al.l,.l F H S,.els D M,.els t I,.els u J,.els v K]∧Ld.go e7=hh) (fun iT eQ=>?_) ?_
      ·unfold yt at aZ
       refine g (s (mi r) (s (kK r r) (s (jZ r) ?_)))
       rcases iv aZ with ⟨fm,aZ⟩|⟨fm,aZ⟩
       ·rw [decide_eq_true fm]
        refine jQ r (s (mi r) (jQ r (s (qB r r) (s (jN r r) (s (jZ r) ?_)))))
        rcases iv aZ with ⟨fo,aZ⟩|⟨fo,aZ⟩
        ·rw [decide_eq_true fo]
         refine jQ r (s (mp r) (jQ r (s (xn r) (jQ r (s (Ep r) (jQ r (s (l3 r (b.bk 2 r) r) (jQ r (s (qB r r) (s (jN r r) (s (jU r) (n ?_))))))))))))
         exact eQ _ _ ⟨(decide (Y < 14)),⟨r,r,r,r,r,r,r,y⟩,b,sm aZ⟩
        rw [decide_eq_false fo]
        refine jB r (jB r (jB r (jB r (jB r (s (jX r r) (s (jU r) (n ?_)))))))
        exact eQ _ _ ⟨false,⟨r,r,r,r,r,r,r,y⟩,b,sm aZ⟩
       rw [decide_eq_false fm]
       refine jB r (jB r (s (jX r r) (s (jZ r) (jB r (jB r (jB r (jB r (jB r (s (jX r r) (s (jU r) (n ?_)))))))))))
       exact eQ _ _ ⟨false,⟨r,r,r,r,r,r,r,y⟩,b,sm aZ⟩
      clear b
      rintro f w ⟨e7,hf,b,g2⟩
      obtain ⟨jF,rfl⟩:=gP _ _ hf
      clear hf
      subst g2
      replace a:=gi a
      rcases iv a with ⟨eR,a⟩|⟨eR,a⟩
      ·refine jH (cb eR) (g (s (mD r) (s (mp r) (s (mi r) ?_))))
       obtain ⟨hj,aJ,eS,hk,a⟩:=qG a
       have hc:=H_kit_loop (b.pr [2,0,3,4,5] [1] [0,1,3,4,5] r) (b.le N) (b.le U) (b.le W) hk
       refine sc (ec Tw r) hc ?_
       rintro _ iU ⟨fQ,fR,fS,e8,e9,ea,eb,ed,ee,ef,eg,eh,rfl,hK⟩
       have ch:=b.rX.size
       replace b:=b.cn [2,0,3,4,5] [1] hK
       replace b:=b.rb 0 w0.heap.size r ch
       obtain ⟨hl,g3,a⟩:=bs a
       refine qF (kS b 6 8 r r yH jP r (by decide) (by decide) (Nat.le_refl _) r r (b.AJ 0 0 r r) g3) ?_
       rintro _ iV ⟨hm,hn,ho,rfl,b⟩
       refine s (nJ r) (n (g (s (mi r) (s (kN r r) (s (xi r) (n ?_))))))
       exact cX n1 _ _ (Nat.lt_succ_self _) ⟨(wr (Q+1)),hl,hm,hn,ho,aJ.f,aJ.e,aJ.b,aJ.g,aJ.h,eS.l,eS.a,aJ.a,e8,e9,ea,aJ.d,eb,ed,ee,aJ.c,ef,eg,eh,⟨r,r,r,r,r,y⟩,(b.ad [6,1,2,3,4,5] [2,1,8,3,4,5]),a⟩
      replace eR:=nt eR
      refine jI (cb eR) (q ?_)
      obtain ⟨hp,b0,a⟩:=bs a
      refine oC (fun f w=>∃ (ei:Bool),Has f [(0,Pt ah),(1,V x1),(2,V x2),(7,Z B M C),(8,V Q),(9,V cK),(114,.bool ei)]∧Bx w0 w jE G [.box E 132 #[Z x al.l A,V al.a],O w0.heap.size B C 111 Gs D,.box ah 135 #[Pt E,V a5,V a6,Z F S H,Z e I h,Z j J m,Z o K p,V Y,V (wr (a1 - 1))],O a4 e h 9 BA t,O ab j m 9 BA u,O ac o p 9 BA v] [.l x A al.l,.l F H S,.els D M,.els t I,.els u J,.els v K]∧Ld.go ei=hp) (fun iW eT=>?_) ?_
      ·unfold yw at b0
       refine g (s (mi r) (s (kK r r) (s (jZ r) ?_)))
       rcases iv b0 with ⟨fp,b0⟩|⟨fp,b0⟩
       ·rw [decide_eq_true fp]
        refine jQ r (s (mi r) (jQ r (s (qB r r) (s (jN r r) (s (jZ r) ?_)))))
        rcases iv b0 with ⟨fq,b0⟩|⟨fq,b0⟩
        ·rw [decide_eq_true fq]
         refine jQ r (s (mp r) (jQ r (s (xn r) (jQ r (s (Ep r) (jQ r (s (l3 r (b.bk 2 r) r) (jQ r (s (qB r r) (s (jN r r) (s (jU r) (n ?_))))))))))))
         exact eT _ _ ⟨(decide (Y < 14)),⟨r,r,r,r,r,r,r,y⟩,b,sm b0⟩
        rw [decide_eq_false fq]
        refine jB r (jB r (jB r (jB r (jB r (s (jX r r) (s (jU r) (n ?_)))))))
        exact eT _ _ ⟨false,⟨r,r,r,r,r,r,r,y⟩,b,sm b0⟩
       rw [decide_eq_false fp]
       refine jB r (jB r (s (jX r r) (s (jZ r) (jB r (jB r (jB r (jB r (jB r (s (jX r r) (s (jU r) (n ?_)))))))))))
       exact eT _ _ ⟨false,⟨r,r,r,r,r,r,r,y⟩,b,sm b0⟩
      clear b
      rintro f w ⟨ei,hf,b,g4⟩
      obtain ⟨jF,rfl⟩:=gP _ _ hf
      clear hf
      subst g4
      replace a:=gi a
      rcases iv a with ⟨eU,a⟩|⟨eU,a⟩
      ·refine jH (cb eU) (q (g (s (Eb r) (tL b (ko jP) fun iX iY b=>?_))))
       refine lu (nD b 0 [V 8,V 0,V 0,T be,T be,V 0,V 0,sn,T be,V 0,sn,sn,sn] r jP r r) fun iZ b=>?_
       refine n (q (g (s (mp r) (s (mi r) (s (kN r r) ?_)))))
       obtain ⟨b4,hq,hr,ht,a⟩:=qG a
       have hc:=H_kit_body (b.pr [3,1,4,5,6] [0,2] [0,1,3,4,5] r) (b.le N) (b.le U) (b.le W) ht
       refine sc (ec IP r) hc ?_
       rintro _ j0 ⟨ae,af,fT,fr,ft,fv,ej,ek,fw,em,en,fx,rfl,hK⟩
       have ch:=b.rX.size
       replace b:=b.cn [3,1,4,5,6] [0,2] hK
       replace b:=b.rb 0 w0.heap.size r ch
       refine s (uo r) (lu (lW b 6 [Z ae b4 af] r yG r r) fun j1 b=>?_)
       refine n (q (g (s (mp r) ?_)))
       obtain ⟨aK,b5,hv,a⟩:=lV a
       have hc:=(Bt fu) (b.pr [1,2,3,4,5] [0,6,7] [1,2,3,4,5] r) (b.le N) (b.le U) (b.le W) hv
       refine sc (ec Oc r) hc ?_
       rintro _ j2 ⟨rfl,hK⟩
       replace b:=b.cn [1,2,3,4,5] [0,6,7] hK
       refine s (xu r) (lu (lW b 6 [T aK] r pV r r) fun j3 b=>?_)
       refine n (q (Fa b [6] [] [0,6] [] [11] (by kernel_rfl) ?_))
       replace b:=b.drew
       have hs:=(b.ad [6] [])
       have hu:=(b.ad [0,6] [])
       refine pL 0 r (mp r) hs hu (pL 1 r (mp r) hs hu (pL 2 r (xn r) hs hu (pL 3 r (nL r) hs hu (tS 1 4 r (fun _ hS=>yF r (hS.bk 0 r) r) (mH hs hu) (pL 5 r (xu r) hs hu (tU 6 r (fun _ hS=>l9 r (hS.bk 0 r) r) (mH hs hu) ?_))))))
       refine hO 7 (oo r r (jV b [[T aK]] ([aK]:List BA) (AA r) r r (by decide) ⟨r,y⟩) ?_)
       rintro _ j4 ⟨j5,rfl,b⟩
       have hs:=(b.ad [7] [])
       have hu:=(b.ad [1,7] [])
       refine ⟨(mH hs hu),?_⟩
       obtain ⟨g5,g6,a⟩:=bs a
       refine hO 8 (oo r r (kS b 3 3 r r kL pV r (by decide) (by decide) N r r (b.AJ 0 0 r r) g6) ?_)
       rintro _ j6 ⟨g7,g8,j7,rfl,b⟩
       have hs:=(b.ad [7] [])
       have hu:=(b.ad [1,7] [])
       refine ⟨(mH hs hu),?_⟩
       refine pL 9 r (xn r) hs hu (pL 10 r (nL r) hs hu ?_)
       refine hO 11 (os r r (lW b 1 [Z g7 g5 g8] r pO r r) fun j8 b=>?_)
       have hs:=(b.ad [7] [])
       refine ⟨(sy 11 hs),?_⟩
       refine hD (q (g (s (mp r) (s (mi r) (s (kN r r) ?_)))))
       obtain ⟨cm,a8,eV,hw,a⟩:=qG a
       have hc:=H_kit_body (b.pr [1,2,3,4,5] [0,6,7,8] [7,2,3,4,5] r) (b.le N) (b.le U) (b.le W) hw
       refine sc (ec IP r) hc ?_
       rintro _ j9 ⟨ar,au,fU,cn,co,fy,cp,cq,eo,cr,ct,ep,rfl,hK⟩
       have ch:=b.rX.size
       replace b:=b.cn [1,2,3,4,5] [0,6,7,8] hK
       replace b:=b.rb 0 w0.heap.size r ch
       refine s (tZ r) (lu (lW b 8 [Z ar cm au] r yG r r) fun ja b=>?_)
       refine n (q (Fa b [] [] [1] [] [16] (by kernel_rfl) ?_))
       replace b:=b.drew
       have hs:=(b.ad [] [])
       have hu:=(b.ad [1] [])
       refine pL 0 r (mp r) hs hu (pL 2 r (mp r) hs hu (pL 3 r (xn r) hs hu (pL 4 r (nL r) hs hu (tS 1 5 r (fun _ hS=>yF r (hS.bk 0 r) r) (mH hs hu) (pL 6 r (mp r) hs hu (pL 7 r (xn r) hs hu (pL 8 r (nL r) hs hu (tS 1 9 r (fun _ hS=>yF r (hS.bk 0 r) r) (mH hs hu) (pL 10 r (lg kL r) hs hu (pL 11 r (xU r r) hs hu ?_))))))))))
       obtain ⟨g9,ga,a⟩:=bs a
       obtain ⟨hx,gb,i4,gc,hy,fb,fc⟩:=AX ga
       obtain rfl:hx=0:=by omega
       have fz:g9.length=gb:=by rw [← fc,List.length_take,List.length_drop];omega
       refine tP 12 r (fun _=>show Yl _ _ _ _ _ _ _ _ _ (.slice cn g9.length co) from (congrArg (fun z=>Value.slice cn z co) fz).symm ▸ zS gb kL pV r r gc (Nat.le_trans fb ((b.vw 3 3 r r)).cap)) (mH hs hu) ?_
       refine hO 1 (oo r r (jV b [] ([]:List BA) (mO) r r (by decide) y) ?_)
       rintro _ jb ⟨jc,rfl,b⟩
       have hs:=(b.ad [] [])
       have hu:=(b.ad [2] [])
       refine ⟨(mH hs hu),?_⟩
       obtain ⟨fA,gd,a⟩:=bs a
       refine hO 13 (oo r r (kS b 0 0 r r kL pV r (by decide) (by decide) (Nat.le_refl _) r r (b.AP 4 4 r r fb fc) gd) ?_)
       rintro _ jd ⟨fB,fC,hz,rfl,b⟩
       have hs:=(b.ad [] [])
       have hu:=(b.ad [2] [])
       refine ⟨(mH hs hu),?_⟩
       refine pL 14 r (xn r) hs hu (pL 15 r (nL r) hs hu ?_)
       refine hO 16 (os r r (lW b 2 [Z fB fA fC] r pO r r) fun je b=>?_)
       have hs:=(b.ad [] [])
       refine ⟨(sy 16 hs),?_⟩
       refine hD (g (s (mD r) (s (mE [V 8,V 0,V 0,T aK,T be,V 0,V 0,sn,T be,V 0,sn,Z ae b4 af,Z ar cm au] lG jP r (b.bk 9 r)) ?_)))
       replace b:=b.fz 8 13 r r
       replace b:=b.fz 1 2 r r
       refine qF (jV b [[V 8,V 0,V 0,T aK,T be,V 0,V 0,sn,T be,V 0,sn,Z ae b4 af,Z ar cm au]] ([(⟨8,0,0,aK,be,0,0,([]:List Ge),be,0,([]:List Ge),b4,cm⟩:Gs)]:List Gs) (tH r) r r (by decide) ⟨(jM.tQ ⟨none,0,none,0,ae,af,ar,au,r,oP,oP,(b.dl 1 r),(b.dl 0 r)⟩),y⟩) ?_
       rintro _ jf ⟨jg,rfl,b⟩
       obtain ⟨hA,ge,a⟩:=bs a
       refine qF (kS b 9 22 r r yH jP r (by decide) (by decide) (Nat.le_refl _) r r (b.AJ 0 0 r r) ge) ?_
       rintro _ jh ⟨hB,hC,hE,rfl,b⟩
       refine s (nJ r) (n (g (s (mi r) (s (kN r r) (s (xi r) (n ?_))))))
       replace b:=b.rb 1 a4 r N
       exact cX n1 _ _ (Nat.lt_succ_self _) ⟨(wr (Q+1)),hA,hB,hC,hE,a8.f,a8.e,a8.b,a8.g,a8.h,eV.l,eV.a,fA,fB,fC,hz,a8.d,cp,cq,eo,a8.c,cr,ct,ep,⟨r,r,r,r,r,y⟩,(b.ad [9,2,3,1,5,6] [5,4,22,3,7,8]),a⟩
      replace eU:=nt eU
      refine jI (cb eU) (q (g (s (mi r) (s (kK r r) (s (jU r) (n ?_))))))
      rcases iv a with ⟨fD,a⟩|⟨fD,a⟩
      ·refine jH (bt fD) (g (s (mD r) (s (mp r) ?_)))
       obtain ⟨az,aL,eW,hF,a⟩:=qG a
       have hc:=(ut fu) (b.pr [2,0,3,4,5] [1] [0,1,3,4,5] r) (b.le N) (b.le U) (b.le W) hF
       refine sc (ec Bg r) hc ?_
       rintro _ ji ⟨cV,cW,rfl,hK⟩
       replace b:=b.cn [2,0,3,4,5] [1] hK
       refine qF (jV b [[V az.e,V az.d,V az.j,T az.a,T az.c,Z cV az.b cW]] ([az]:List Ge) (kX r) r r (by decide) ⟨(jL.tQ ⟨cV,cW,r,(b.dl 0 r)⟩),y⟩) ?_
       rintro _ jj ⟨gf,rfl,b⟩
       refine s (ru r r) ?_
       replace b:=b.fz 0 0 r r
       refine qF (jV b [[V 9,V 0,V 0,T be,T be,V 0,V 0,sn,T be,V 0,.slice (ad gf) ([az]:List Ge).length 1,sn,sn]] ([(⟨9,0,0,be,be,0,0,([]:List Ge),be,0,([az]:List Ge),([]:List Gs),([]:List Gs)⟩:Gs)]:List Gs) (tH r) r r (by decide) ⟨(jM.tQ ⟨none,0,(ad gf),1,none,0,none,0,r,oP,(b.dl 0 r),oP,oP⟩),y⟩) ?_
       rintro _ jk ⟨jl,rfl,b⟩
       obtain ⟨hH,gg,a⟩:=bs a
       refine qF (kS b 6 10 r r yH jP r (by decide) (by decide) (Nat.le_refl _) r r (b.AJ 0 0 r r) gg) ?_
       rintro _ jm ⟨hI,hJ,hN,rfl,b⟩
       refine s (nJ r) (n (g (s (mi r) (s (kN r r) (s (xi r) (n ?_))))))
       exact cX n1 _ _ (Nat.lt_succ_self _) ⟨(wr (Q+1)),hH,hI,hJ,hN,aL.f,aL.e,aL.b,aL.g,aL.h,eW.l,eW.a,aL.a,e,h,t,aL.d,j,m,u,aL.c,o,p,v,⟨r,r,r,r,r,y⟩,(b.ad [6,1,2,3,4,5] [4,3,10,5,6,7]),a⟩
      refine jI (bf fD) (q ?_)
      obtain ⟨hQ,b2,a⟩:=bs a
      refine oC (fun f w=>∃ (eq:Bool) (cu:List Int) (d5:Int),Has f [(0,Pt ah),(1,V x1),(2,V x2),(7,Z B M C),(8,V Q),(9,V cK),(183,.bool eq)]∧Bx w0 w jE G [.box E 132 #[Z x cu A,V d5],O w0.heap.size B C 111 Gs D,.box ah 135 #[Pt E,V a5,V a6,Z F S H,Z e I h,Z j J m,Z o K p,V Y,V (wr (a1 - 1))],O a4 e h 9 BA t,O ab j m 9 BA u,O ac o p 9 BA v] [.l x A cu,.l F H S,.els D M,.els t I,.els u J,.els v K]∧Ld.go (eq,cu,d5)=hQ) (fun jn fd=>?_) ?_
      ·unfold xO at b2
       refine g (s (mi r) (s (kK r r) (s (jZ r) ?_)))
       rcases iv b2 with ⟨fE,b2⟩|⟨fE,b2⟩
       ·rw [decide_eq_true fE]
        refine jQ r (s (mp r) (jQ r (s (xn r) (jQ r (s (qm r) (jQ r (s (yE r (b.bk 2 r) r) ?_)))))))
        obtain ⟨fF,eX,hR,b2⟩:=lV b2
        refine jQ r ?_
        have hc:=(kr fu) (b.pr [0] [1,2,3,4,5] [0] r)  hR
        refine sc (ec pG r) hc ?_
        rintro _ jo ⟨rfl,hK⟩
        replace b:=b.cn [0] [1,2,3,4,5] hK
        refine jQ r (s (kK r r) (s (jN r r) (s (jU r) (n ?_))))
        exact fd _ _ ⟨(decide (fF=0)),eX.l,eX.a,⟨r,r,r,r,r,r,r,y⟩,(b.dp [0,2,3,4,5,6]),sm b2⟩
       rw [decide_eq_false fE]
       refine jB r (jB r (jB r (jB r (jB r (jB r (s (jX r r) (s (jU r) (n ?_))))))))
       exact fd _ _ ⟨false,al.l,al.a,⟨r,r,r,r,r,r,r,y⟩,b,sm b2⟩
      clear b
      rintro f w ⟨eq,cu,d5,hf,b,gh⟩
      obtain ⟨jF,rfl⟩:=gP _ _ hf
      clear hf
      subst gh
      replace a:=gi a
      replace a:=Ak a
      rcases iv a with ⟨eY,a⟩|⟨eY,a⟩
      ·refine jH (cb eY) (q (g (s (Eb r) (tL b (ko jP) fun jp f7 b=>?_))))
       refine lu (nD b 0 [V 6,V 0,V 0,T be,T be,V 0,V 0,sn,T be,V 0,sn,sn,sn] r jP r r) fun jq b=>?_
       refine n (q ?_)
       replace b:=b.BQ Ge 138
       obtain ⟨hT,c,a⟩:=bs a
       refine oC (fun f w=>∃ (b6:List Ge) (aS:OA)(aT:Nat)(d6:LV)(bK:Int)(bL:Int)(bM:Int)(bN:BA) (bO:BA) (bP:Int)(bQ:Int)(b7:List Ge) (aU:OA)(aV:Nat)(aW:BA) (aX:Int)(aA:List Gs) (av:OA)(aw:Nat)(aB:List Gs) (ax:OA)(ay:Nat)(bi:List Int) (bW:Int)(bX:Int)(bY:Int)(bj:List Int) (bZ:Int)(c0:Int)(bl:List BA) (bm:List BA) (bn:List BA),Has f [(0,Pt ah),(1,V x1),(2,V x2),(7,Z B M C),(8,V Q),(12,Pt f7)]∧Bx w0 w jE G [O w0.heap.size aS aT 138 Ge d6,.box f7 111 #[V bK,V bL,V bM,T bN,T bO,V bP,V bQ,Z aU b7 aV,T aW,V aX,Z aS b6 aT,Z av aA aw,Z ax aB ay],.box E 132 #[Z x bi A,V bW],O w0.heap.size B C 111 Gs D,.box ah 135 #[Pt E,V bX,V bY,Z F bj H,Z e bl h,Z j bm m,Z o bn p,V bZ,V c0],O a4 e h 9 BA t,O ab j m 9 BA u,O ac o p 9 BA v] [.l aU aV b7,.l av aw aA,.l ax ay aB,.l x A bi,.l F H bj,.els d6 b6,.els D M,.els t bl,.els u bm,.els v bn]∧Ld.go (b6,bK,bL,bM,bN,bO,bP,bQ,b7,aW,aX,aA,aB,bi,bW,bX,bY,bj,bZ,c0,bl,bm,bn)=hT) (fun jr fe=>?_) ?_
       ·unfold yC at c
        refine q ?_
        obtain ⟨hU,aa,c⟩:=bs c
        refine oC (fun f w=>∃ (er:Bool) (cv:List Ge) (c1:OA)(c2:Nat)(c3:LV)(d7:Int)(d8:Int)(d9:Int)(da:BA) (db:BA) (dc:Int)(dd:Int)(bo:List Ge) (bp:OA)(bq:Nat)(c4:BA) (c5:Int)(br:List Gs) (bu:OA)(bv:Nat)(bw:List Gs) (bz:OA)(bA:Nat)(bB:List Int) (c6:Int)(c7:Int)(c8:Int)(bC:List Int) (c9:Int)(cc:Int)(bD:List BA) (bE:List BA) (bF:List BA),Has f [(0,Pt ah),(1,V x1),(2,V x2),(7,Z B M C),(8,V Q),(12,Pt f7),(205,.bool er)]∧Bx w0 w jE G [O w0.heap.size c1 c2 138 Ge c3,.box f7 111 #[V d7,V d8,V d9,T da,T db,V dc,V dd,Z bp bo bq,T c4,V c5,Z c1 cv c2,Z bu br bv,Z bz bw bA],.box E 132 #[Z x bB A,V c6],O w0.heap.size B C 111 Gs D,.box ah 135 #[Pt E,V c7,V c8,Z F bC H,Z e bD h,Z j bE m,Z o bF p,V c9,V cc],O a4 e h 9 BA t,O ab j m 9 BA u,O ac o p 9 BA v] [.l bp bq bo,.l bu bv br,.l bz bA bw,.l x A bB,.l F H bC,.els c3 cv,.els D M,.els t bD,.els u bE,.els v bF]∧Ld.go (er,cv,d7,d8,d9,da,db,dc,dd,bo,c4,c5,br,bw,bB,c6,c7,c8,bC,c9,cc,bD,bE,bF)=hU) (fun jt ff=>?_) ?_
        ·unfold yD at aa
         refine g (s (mp r) (s (xn r) (s (qm r) (s (yE r (b.bk 4 r) r) ?_))))
         obtain ⟨hV,eZ,hW,aa⟩:=lV aa
         have hc:=(kr fu) (b.pr [2] [0,1,3,4,5,6,7] [1] r)  hW
         refine sc (ec pG r) hc ?_
         rintro _ ju ⟨rfl,hK⟩
         replace b:=b.cn [2] [0,1,3,4,5,6,7] hK
         refine s (kK r r) (s (jZ r) ?_)
         rcases iv aa with ⟨fG,aa⟩|⟨fG,aa⟩
         ·rw [decide_eq_true fG]
          refine jB r (jB r (jB r (s (jN r r) (n ?_))))
          replace b:=b.ku (d:=.l none 0 ([]:List Ge)) oP
          replace b:=b.ku (d:=.l none 0 ([]:List Gs)) oP
          replace b:=b.ku (d:=.l none 0 ([]:List Gs)) oP
          exact ff _ _ ⟨true,([]:List Ge),none,0,[],6,0,0,be,be,0,0,([]:List Ge),none,0,be,0,([]:List Gs),none,0,([]:List Gs),none,0,eZ.l,eZ.a,a5,a6,S,Y,(wr (a1 - 1)),I,J,K,⟨r,r,r,r,r,r,r,y⟩,(b.ad [1,2,0,3,4,5,6,7] [2,1,0,3,6,4,7,8,9,10]),sm aa⟩
         rw [decide_eq_false fG]
         refine jQ r (s (mp r) ?_)
         replace b:=b.ku (d:=.l none 0 ([]:List Ge)) oP
         replace b:=b.ku (d:=.l none 0 ([]:List Gs)) oP
         replace b:=b.ku (d:=.l none 0 ([]:List Gs)) oP
         obtain ⟨fH,aM,f0,ag,hX,aa⟩:=Ur aa
         refine jQ r ?_
         have hc:=(E5 fu) (b.pr [4,0,5,6,7,2,1] [3] [3,6,8,9,10,2,4,1,0] r) (b.le N) (b.le U) (b.le W) b.rX.size hX
         refine sc (ec Rc r) hc ?_
         rintro _ jv ⟨et,eu,ev,rfl,hK⟩
         replace b:=b.cn [4,0,5,6,7,2,1] [3] hK
         refine jQ r (s (xc r) (s (jX r r) (n ?_)))
         exact ff _ _ ⟨(!fH),ag.b,et,eu,ev,ag.e,ag.c,ag.n,ag.a,ag.g,ag.m,ag.j,ag.d,none,0,ag.k,ag.h,ag.f,none,0,ag.i,none,0,f0.l,f0.a,aM.f,aM.e,aM.b,aM.g,aM.h,aM.a,aM.d,aM.c,⟨r,r,r,r,r,r,r,y⟩,(b.ad [6,5,1,7,0,2,3,4] [5,7,8,0,1,6,16,2,3,4]),sm aa⟩
        clear b
        rintro f w ⟨er,cv,c1,c2,c3,d7,d8,d9,da,db,dc,dd,bo,bp,bq,c4,c5,br,bu,bv,bw,bz,bA,bB,c6,c7,c8,bC,c9,cc,bD,bE,bF,hf,b,gj⟩
        obtain ⟨jF,rfl⟩:=gP _ _ hf
        clear hf
        subst gj
        replace c:=gi c
        replace c:=Ak (mf (mf (mf (mf (mf (mf (mf c)))))))
        rcases iv c with ⟨f1,c⟩|⟨f1,c⟩
        ·refine jH (cb f1) (g (s (mp r) ?_))
         obtain ⟨a0,aN,f2,hY,c⟩:=qG c
         have hc:=(ut fu) (b.pr [4,2,5,6,7] [0,1,3] [3,4,7,8,9] r) (b.le N) (b.le U) (b.le W) hY
         refine sc (ec Bg r) hc ?_
         rintro _ jw ⟨bR,bS,rfl,hK⟩
         replace b:=b.cn [4,2,5,6,7] [0,1,3] hK
         refine qF (jV b [[V a0.e,V a0.d,V a0.j,T a0.a,T a0.c,Z bR a0.b bS]] ([a0]:List Ge) (kX r) r r (by decide) ⟨(jL.tQ ⟨bR,bS,r,(b.dl 0 r)⟩),y⟩) ?_
         rintro _ jx ⟨fI,rfl,b⟩
         refine s (ru r r) (lu (nD b 7 [V 6,V 0,V 0,T be,T be,V 0,V 0,sn,T be,V 0,.slice (ad fI) ([a0]:List Ge).length 1,sn,sn] r jP r r) fun i5 b=>?_)
         refine n ?_
         replace b:=b.ku (d:=.l none 0 ([]:List Ge)) oP
         replace b:=b.ku (d:=.l none 0 ([]:List Gs)) oP
         replace b:=b.ku (d:=.l none 0 ([]:List Gs)) oP
         exact fe _ _ ⟨([a0]:List Ge),(ad fI),1,[[V a0.e,V a0.d,V a0.j,T a0.a,T a0.c,Z bR a0.b bS]],6,0,0,be,be,0,0,([]:List Ge),none,0,be,0,([]:List Gs),none,0,([]:List Gs),none,0,f2.l,f2.a,aN.f,aN.e,aN.b,aN.g,aN.h,aN.a,aN.d,aN.c,⟨r,r,r,r,r,r,y⟩,(b.ad [0,7,2,8,1,3,4,5] [2,1,0,5,6,3,16,7,8,9]),sm c⟩
        replace f1:=nt f1
        refine jI (cb f1) (wk ?_)
        exact fe _ _ ⟨cv,c1,c2,c3,d7,d8,d9,da,db,dc,dd,bo,bp,bq,c4,c5,br,bu,bv,bw,bz,bA,bB,c6,c7,c8,bC,c9,cc,bD,bE,bF,⟨r,r,r,r,r,r,y⟩,b,sm c⟩
       clear b
       rintro f w ⟨b6,aS,aT,d6,bK,bL,bM,bN,bO,bP,bQ,b7,aU,aV,aW,aX,aA,av,aw,aB,ax,ay,bi,bW,bX,bY,bj,bZ,c0,bl,bm,bn,hf,b,gk⟩
       obtain ⟨jF,rfl⟩:=gP _ _ hf
       clear hf
       subst gk
       replace a:=gi a
       replace a:=pi (mf (mf (mf (mf (mf (mf (mf a)))))))
       refine g (s (mD r) (s (mE [V bK,V bL,V bM,T bN,T bO,V bP,V bQ,Z aU b7 aV,T aW,V aX,Z aS b6 aT,Z av aA aw,Z ax aB ay] lG jP r (b.bk 1 r)) ?_))
       replace b:=b.fz 0 5 r r
       refine qF (jV b [[V bK,V bL,V bM,T bN,T bO,V bP,V bQ,Z aU b7 aV,T aW,V aX,Z aS b6 aT,Z av aA aw,Z ax aB ay]] ([(⟨bK,bL,bM,bN,bO,bP,bQ,b7,aW,aX,b6,aA,aB⟩:Gs)]:List Gs) (tH r) r r (by decide) ⟨(jM.tQ ⟨aU,aV,aS,aT,av,aw,ax,ay,r,(b.dl 1 r),(b.dl 0 r),(b.dl 2 r),(b.dl 3 r)⟩),y⟩) ?_
       rintro _ i6 ⟨i7,rfl,b⟩
       obtain ⟨gl,fJ,a⟩:=bs a
       refine qF (kS b 3 7 r r yH jP r (by decide) (by decide) (Nat.le_refl _) r r (b.AJ 0 0 r r) fJ) ?_
       rintro _ i8 ⟨gm,gn,gp,rfl,b⟩
       refine s (nJ r) (n (g (s (mi r) (s (kN r r) (s (xi r) (n ?_))))))
       exact cX n1 _ _ (Nat.lt_succ_self _) ⟨(wr (Q+1)),gl,gm,gn,gp,bX,bY,bj,bZ,c0,bi,bW,bl,e,h,t,bm,j,m,u,bn,o,p,v,⟨r,r,r,r,r,y⟩,(b.ad [3,4,2,5,6,7] [6,5,7,8,9,10]),a⟩
      replace eY:=nt eY
      refine jI (cb eY) (q ?_)
      obtain ⟨gq,aq,a⟩:=bs a
      refine oC (fun f w=>∃ (de:Bool) (bG:List Int) (cd:Int),Has f [(0,Pt ah),(1,V x1),(2,V x2),(7,Z B M C),(8,V Q),(9,V cK),(214,.bool de)]∧Bx w0 w jE G [.box E 132 #[Z x bG A,V cd],O w0.heap.size B C 111 Gs D,.box ah 135 #[Pt E,V a5,V a6,Z F S H,Z e I h,Z j J m,Z o K p,V Y,V (wr (a1 - 1))],O a4 e h 9 BA t,O ab j m 9 BA u,O ac o p 9 BA v] [.l x A bG,.l F H S,.els D M,.els t I,.els u J,.els v K]∧Ld.go (de,bG,cd)=gq) (fun i9 f3=>?_) ?_
      ·unfold xP at aq
       refine g (s (mi r) (s (kK r r) (s (jZ r) ?_)))
       rcases iv aq with ⟨f4,aq⟩|⟨f4,aq⟩
       ·rw [decide_eq_true f4]
        refine jQ r (s (mp r) (jQ r (s (xn r) (jQ r (s (qm r) (jQ r (s (yE r (b.bk 2 r) r) ?_)))))))
        obtain ⟨f8,ey,gr,aq⟩:=lV aq
        refine jQ r ?_
        have hc:=(kr fu) (b.pr [0] [1,2,3,4,5] [0] r)  gr
        refine sc (ec pG r) hc ?_
        rintro _ ia ⟨rfl,hK⟩
        replace b:=b.cn [0] [1,2,3,4,5] hK
        refine jQ r (s (kK r r) (s (jN r r) (s (jU r) (n ?_))))
        exact f3 _ _ ⟨(decide (f8=0)),ey.l,ey.a,⟨r,r,r,r,r,r,r,y⟩,(b.dp [0,2,3,4,5,6]),sm aq⟩
       rw [decide_eq_false f4]
       refine jB r (jB r (jB r (jB r (jB r (jB r (s (jX r r) (s (jU r) (n ?_))))))))
       exact f3 _ _ ⟨false,cu,d5,⟨r,r,r,r,r,r,r,y⟩,b,sm aq⟩
      clear b
      rintro f w ⟨de,bG,cd,hf,b,fK⟩
      obtain ⟨jF,rfl⟩:=gP _ _ hf
      clear hf
      subst fK
      replace a:=gi a
      replace a:=Ak a
      rcases iv a with ⟨dh,a⟩|⟨dh,a⟩
      ·refine jH (cb dh) (g (s (mD r) (s (mp r) ?_)))
       obtain ⟨aj,am,ez,gt,a⟩:=qG a
       have hc:=(ut fu) (b.pr [2,0,3,4,5] [1] [0,1,3,4,5] r) (b.le N) (b.le U) (b.le W) gt
       refine sc (ec Bg r) hc ?_
       rintro _ ib ⟨cw,cx,rfl,hK⟩
       replace b:=b.cn [2,0,3,4,5] [1] hK
       refine qF (jV b [[V aj.e,V aj.d,V aj.j,T aj.a,T aj.c,Z cw aj.b cx]] ([aj]:List Ge) (kX r) r r (by decide) ⟨(jL.tQ ⟨cw,cx,r,(b.dl 0 r)⟩),y⟩) ?_
       rintro _ ic ⟨fg,rfl,b⟩
       refine s (ru r r) ?_
       replace b:=b.fz 0 0 r r
       refine qF (jV b [[V 7,V 0,V 0,T be,T be,V 0,V 0,sn,T be,V 0,.slice (ad fg) ([aj]:List Ge).length 1,sn,sn]] ([(⟨7,0,0,be,be,0,0,([]:List Ge),be,0,([aj]:List Ge),([]:List Gs),([]:List Gs)⟩:Gs)]:List Gs) (tH r) r r (by decide) ⟨(jM.tQ ⟨none,0,(ad fg),1,none,0,none,0,r,oP,(b.dl 0 r),oP,oP⟩),y⟩) ?_
       rintro _ ie ⟨ig,rfl,b⟩
       obtain ⟨gu,fL,a⟩:=bs a
       refine qF (kS b 6 10 r r yH jP r (by decide) (by decide) (Nat.le_refl _) r r (b.AJ 0 0 r r) fL) ?_
       rintro _ ih ⟨gv,gw,gx,rfl,b⟩
       refine s (nJ r) (n (g (s (mi r) (s (kN r r) (s (xi r) (n ?_))))))
       exact cX n1 _ _ (Nat.lt_succ_self _) ⟨(wr (Q+1)),gu,gv,gw,gx,am.f,am.e,am.b,am.g,am.h,ez.l,ez.a,am.a,e,h,t,am.d,j,m,u,am.c,o,p,v,⟨r,r,r,r,r,y⟩,(b.ad [6,1,2,3,4,5] [4,3,10,5,6,7]),a⟩
      replace dh:=nt dh
      refine jI (cb dh) (q ?_)
      obtain ⟨gy,a9,a⟩:=bs a
      refine oC (fun f w=>∃ (df:Bool) (ce:List Int) (dg:Int),Has f [(0,Pt ah),(1,V x1),(2,V x2),(7,Z B M C),(8,V Q),(232,.bool df)]∧Bx w0 w jE G [.box E 132 #[Z x ce A,V dg],O w0.heap.size B C 111 Gs D,.box ah 135 #[Pt E,V a5,V a6,Z F S H,Z e I h,Z j J m,Z o K p,V Y,V (wr (a1 - 1))],O a4 e h 9 BA t,O ab j m 9 BA u,O ac o p 9 BA v] [.l x A ce,.l F H S,.els D M,.els t I,.els u J,.els v K]∧Ld.go (df,ce,dg)=gy) (fun ii ew=>?_) ?_
      ·unfold wT at a9
       refine g (s (mi r) (s (kK r r) (s (jZ r) ?_)))
       rcases iv a9 with ⟨f5,a9⟩|⟨f5,a9⟩
       ·rw [decide_eq_true f5]
        refine jQ r (s (mp r) (jQ r (s (xn r) (jQ r (s (qm r) (jQ r (s (yE r (b.bk 2 r) r) ?_)))))))
        obtain ⟨gL,cg,gz,a9⟩:=lV a9
        refine jQ r ?_
        have hc:=(kr fu) (b.pr [0] [1,2,3,4,5] [0] r)  gz
        refine sc (ec pG r) hc ?_
        rintro _ ij ⟨rfl,hK⟩
        replace b:=b.cn [0] [1,2,3,4,5] hK
        refine jQ r (s (kK r r) (s (jN r r) (s (jZ r) ?_)))
        rcases iv a9 with ⟨f6,a9⟩|⟨f6,a9⟩
        ·rw [decide_eq_true f6]
         refine jQ r (s (mi r) (jQ r (s (qB r r) (s (jN r r) (s (jU r) (n ?_))))))
         exact ew _ _ ⟨(decide (x1 < 4)),cg.l,cg.a,⟨r,r,r,r,r,r,y⟩,(b.dp [0,2,3,4,5,6]),sm a9⟩
        rw [decide_eq_false f6]
        refine jB r (jB r (s (jX r r) (s (jU r) (n ?_))))
        exact ew _ _ ⟨false,cg.l,cg.a,⟨r,r,r,r,r,r,y⟩,(b.dp [0,2,3,4,5,6]),sm a9⟩
       rw [decide_eq_false f5]
       refine jB r (jB r (jB r (jB r (jB r (jB r (s (jX r r) (s (jZ r) (jB r (jB r (s (jX r r) (s (jU r) (n ?_))))))))))))
       exact ew _ _ ⟨false,bG,cd,⟨r,r,r,r,r,r,y⟩,b,sm a9⟩
      clear b
      rintro f w ⟨df,ce,dg,hf,b,fM⟩
      obtain ⟨jF,rfl⟩:=gP _ _ hf
      clear hf
      subst fM
      replace a:=gi a
      replace a:=Ak a
      rcases iv a with ⟨di,a⟩|⟨di,a⟩
      ·refine jH (cb di) (g (s (mD r) (s (mp r) ?_)))
       obtain ⟨ak,gM,gN,gA,a⟩:=qG a
       have hc:=(ut fu) (b.pr [2,0,3,4,5] [1] [0,1,3,4,5] r) (b.le N) (b.le U) (b.le W) gA
       refine sc (ec Bg r) hc ?_
       rintro _ ik ⟨cy,cz,rfl,hK⟩
       replace b:=b.cn [2,0,3,4,5] [1] hK
       refine qF (jV b [[V ak.e,V ak.d,V ak.j,T ak.a,T ak.c,Z cy ak.b cz]] ([ak]:List Ge) (kX r) r r (by decide) ⟨(jL.tQ ⟨cy,cz,r,(b.dl 0 r)⟩),y⟩) ?_
       rintro _ il ⟨fh,rfl,b⟩
       refine s (mp r) (s (mi r) (s (kN r r) ?_))
       obtain ⟨eA,an,eB,gB,a⟩:=qG a
       have hc:=H_kit_body (b.pr [1,2,3,4,5] [0,6] [2,3,4,5,6] r) (b.le N) (b.le U) (b.le W) gB
       refine sc (ec IP r) hc ?_
       rintro _ im ⟨cA,cB,fN,dj,dk,dm,dn,dq,dr,dt,du,dv,rfl,hK⟩
       have ch:=b.rX.size
       replace b:=b.cn [1,2,3,4,5] [0,6] hK
       replace b:=b.rb 0 w0.heap.size r ch
       refine s (H7 r r r) ?_
       replace b:=b.fz 6 6 r r
       replace b:=b.fz 0 1 r r
       refine qF (jV b [[V 5,V 0,V 0,T be,T be,V 0,V 0,sn,T be,V 0,.slice (ad fh) ([ak]:List Ge).length 1,Z cA eA cB,sn]] ([(⟨5,0,0,be,be,0,0,([]:List Ge),be,0,([ak]:List Ge),eA,([]:List Gs)⟩:Gs)]:List Gs) (tH r) r r (by decide) ⟨(jM.tQ ⟨none,0,(ad fh),1,cA,cB,none,0,r,oP,(b.dl 1 r),(b.dl 0 r),oP⟩),y⟩) ?_
       rintro _ io ⟨ip,rfl,b⟩
       obtain ⟨gC,fO,a⟩:=bs a
       refine qF (kS b 6 16 r r yH jP r (by decide) (by decide) (Nat.le_refl _) r r (b.AJ 0 0 r r) fO) ?_
       rintro _ iq ⟨gD,gE,gF,rfl,b⟩
       refine s (nJ r) (n (g (s (mi r) (s (kN r r) (s (xi r) (n ?_))))))
       exact cX n1 _ _ (Nat.lt_succ_self _) ⟨(wr (Q+1)),gC,gD,gE,gF,an.f,an.e,an.b,an.g,an.h,eB.l,eB.a,an.a,dj,dk,dm,an.d,dn,dq,dr,an.c,dt,du,dv,⟨r,r,r,r,r,y⟩,(b.ad [6,1,2,3,4,5] [4,3,16,5,6,7]),a⟩
      replace di:=nt di
      refine jI (cb di) (g (s (mD r) (s (mp r) ?_)))
      obtain ⟨X,ao,eC,gG,a⟩:=qG a
      have hc:=(Ib fu) (b.pr [2,0,3,4,5] [1] [0,1,3,4,5] r) (b.le N) (b.le U) (b.le W) gG
      refine sc (ec UJ r) hc ?_
      rintro _ ir ⟨cC,cD,cE,cF,cG,cH,cI,cJ,rfl,hK⟩
      replace b:=b.cn [2,0,3,4,5] [1] hK
      refine qF (jV b [[V X.e,V X.c,V X.n,T X.a,T X.g,V X.m,V X.j,Z cC X.d cD,T X.k,V X.h,Z cE X.b cF,Z cG X.f cH,Z cI X.i cJ]] ([X]:List Gs) (tH r) r r (by decide) ⟨(jM.tQ ⟨cC,cD,cE,cF,cG,cH,cI,cJ,r,(b.dl 0 r),(b.dl 1 r),(b.dl 2 r),(b.dl 3 r)⟩),y⟩) ?_
      rintro _ it ⟨iu,rfl,b⟩
      obtain ⟨gH,fP,a⟩:=bs a
      refine qF (kS b 6 12 r r yH jP r (by decide) (by decide) (Nat.le_refl _) r r (b.AJ 0 0 r r) fP) ?_
      rintro _ iw ⟨gI,gJ,gK,rfl,b⟩
      refine s (nJ r) (n (g (s (mi r) (s (kN r r) (s (xi r) (n ?_))))))
      exact cX n1 _ _ (Nat.lt_succ_self _) ⟨(wr (Q+1)),gH,gI,gJ,gK,ao.f,ao.e,ao.b,ao.g,ao.h,eC.l,eC.a,ao.a,e,h,t,ao.d,j,m,u,ao.c,o,p,v,⟨r,r,r,r,r,y⟩,(b.ad [6,1,2,3,4,5] [6,5,12,7,8,9]),a⟩
     replace h6:=nt h6
     refine jI (cb h6) (uW ?_)
     exact fi _ _ ⟨Q,M,B,C,D,a5,a6,S,Y,a1,aC,aY,I,e,h,t,J,j,m,u,K,o,p,v,⟨r,y⟩,(b.ad [1,2,0,3,4,5] [1,2,3,4,5,6]),sm a⟩
    rw [decide_eq_false h4]
    refine jB r (jB r (jB r (jB r (jB r (s (jX r r) (n (jI r (uW ?_))))))))
    exact fi _ _ ⟨Q,M,B,C,D,a5,a6,S,Y,a1,aC,aY,I,e,h,t,J,j,m,u,K,o,p,v,⟨r,y⟩,b,sm a⟩
   rw [decide_eq_false h3]
   refine jB r (jB r (jB r (jB r (jB r (s (jX r r) (s (jZ r) (jB r (jB r (jB r (jB r (jB r (s (jX r r) (n ?_)))))))))))))
   refine jI r (uW ?_)
   exact fi _ _ ⟨Q,M,B,C,D,a5,a6,S,Y,a1,aC,aY,I,e,h,t,J,j,m,u,K,o,p,v,⟨r,y⟩,b,sm a⟩
 clear b
 rintro f w ⟨Q,M,B,C,D,a5,a6,S,Y,a1,aC,aY,I,e,h,t,J,j,m,u,K,o,p,v,hf,b,hZ⟩
 obtain ⟨jF,rfl⟩:=gP _ _ hf
 clear hf
 subst hZ
 replace hM:=gi hM
 replace hM:=Ak (mf (mf (mf hM)))
 refine q (g (s (mD r) (s (nJ r) (n (kP ?_)))))
 obtain rfl:=sm hM
 refine jC r (kT r) ?_
 exact lw (lw (⟨B,C,D,e,h,t,j,m,u,o,p,v,r,(b.dp [2,1,0,3,4,5])⟩))
theorem JN (fu:Nat):zB (mV fu)∧zC (nu fu)∧vY (lF fu):=by
 induction fu with
 | zero=>exact ⟨by intro a b;intros;exact nn (by assumption),by intro a b;intros;exact nn (by assumption),by intro a b;intros;exact nn (by assumption)⟩
 | succ fu ih=>exact ⟨Lt fu (lF fu) (mV fu) (nu fu) ih.2.2 ih.1 ih.2.1,Ls fu (lF fu) (mV fu) (nu fu) ih.2.2 ih.1 ih.2.1,JF fu (lF fu) (mV fu) (nu fu) ih.2.2 ih.1 ih.2.1⟩
theorem Jq (fu:Nat):vY (lF fu):=(JN fu).2.2
def GY (m:(List Int)→Option (jJ)):Prop:=∀ {i:World} {k:Nat→Prop} {j:(List Int)} {a:Option Addr} {b:Nat} {h:jJ},Pre i k [] [.l a b j]→m j=some h→
 Calls Try.prog 43 #[Z a j b] i (rf fun v w=>∃ (c:OA)(d:Nat)(e:OA)(f:Nat),v=.agg #[Z c h.a d,Z e h.b f]∧Bx i w k (lT []) [] [.l c d h.a,.l e f h.b])
def ww (fu:Nat)(a:Int):Option (Ld (Int) (jJ)):=
 if 0 < a then
  some (.go 6)
 else
  some (.go 10)
def vZ (fu:Nat)(a:(List Gs)) (b:Gm) (c:jR):Option (Ld (List Gs × List Int × Int) (jJ)):=
 if 0 < (b.a.length:Int) then
  (kM fu c 3).bind fun m=>
  iA m fun f d=>
  if 0 < f then
   (kM fu d (b.a.length:Int)).bind fun m=>
   iA m fun h e=>
   (ix b.a h).bind fun j=>
   (oO fu j).bind fun i=>
   (app a ([(⟨6,0,0,be,be,0,0,([]:List Ge),be,0,([i]:List Ge),([]:List Gs),([]:List Gs)⟩:Gs)]:List Gs)).bind fun k=>
   some (.go (k,e.l,e.a))
  else
   some (.go (a,d.l,d.a))
 else
  some (.go (a,c.l,c.a))
def sK (fu:Nat)(d:Int)(e:Int)(b:Int)(c:Int):Nat→Int→(List Gn)→(List Int)→Int→Option (Ld (Int × List Gn × List Int × Int) (jJ))
 | 0,_,_,_,_=>none
 | w+1,a,f,h,i=>
 if a < (wr (1+d)) then
  (ix ([2,e,b,c]:List Int) a).bind fun x=>
  (ix ([(⟨#[102]⟩:BA),(⟨#[103]⟩:BA),(⟨#[104]⟩:BA),(⟨#[107]⟩:BA)]:List BA) a).bind fun z=>
  (sl ([(⟨#[97]⟩:BA),(⟨#[98]⟩:BA),(⟨#[99]⟩:BA),(⟨#[100]⟩:BA)]:List BA) 0 x).bind fun v=>
  (app ([]:List BA) v).bind fun A=>
  (ww fu a).bind fun D=>D.el (fun j=>
  (lF fu (⟨a,(wr (1+d)),([2,e,b,c]:List Int),A,([]:List BA),([]:List BA),0,22⟩:Gm) (⟨h,i⟩:jR) 1 j).bind fun D=>
  iA D fun k D=>iA D fun l m=>
  (vZ fu k l m).bind fun D=>D.el (fun D=>
  iA D fun p D=>iA D fun t u=>
  (app p ([(⟨10,0,0,be,be,0,0,([]:List Ge),be,0,([]:List Ge),([]:List Gs),([]:List Gs)⟩:Gs)]:List Gs)).bind fun B=>
  (app f ([(⟨z,0,v,B⟩:Gn)]:List Gn)).bind fun C=>
  sK fu d e b c w (wr (a+1)) C t u
  ) (fun o=>some (.out o))
  ) (fun o=>some (.out o))
 else
  some (.go (a,f,h,i))
def wG (fu:Nat)(t:(List Int)):Option (jJ):=
 (kM fu (⟨t,0⟩:jR) 4).bind fun u=>
 iA u fun f h=>
 (kM fu h 3).bind fun u=>
 iA u fun i j=>
 (kM fu j 4).bind fun u=>
 iA u fun b c=>
 (kM fu c 5).bind fun u=>
 iA u fun d a=>
 (sK fu f i b d fu 0 ([]:List Gn) a.l a.a).bind fun u=>u.el (fun u=>
 iA u fun k u=>iA u fun e u=>iA u fun m p=>
 some (⟨([(⟨(⟨#[80]⟩:BA),([(⟨#[120]⟩:BA),(⟨#[121]⟩:BA)]:List BA)⟩:Gr)]:List Gr),e⟩:jJ)
 ) (fun o=>some o)
theorem GH (fu:Nat):GY (wG fu):=by
 intro w0 dA x0 D E r0 hP R
 unfold wG at R
 have a:=hP.bx
 clear hP
 generalize hG:lT _=G at a ⊢
 refine cf Try.func43 r ?_
 refine ma [(0,Z D x0 E)] ⟨r,y⟩ fun dB=>?_
 refine q (g (tL a (ko uI) fun w1 b1 a=>?_))
 refine n (q (g (s (mD r) (s (PW r) (tL a (yI r) fun w2 b2 a=>?_)))))
 refine s (PD r) (n (q (g (qF (jV a [[T (⟨#[120]⟩:BA)],[T (⟨#[121]⟩:BA)]] ([(⟨#[120]⟩:BA),(⟨#[121]⟩:BA)]:List BA) (wF r r) r r (by decide) ⟨r,⟨r,y⟩⟩) ?_))))
 rintro _ w3 ⟨b3,rfl,a⟩
 refine s (Nu r r) ?_
 replace a:=a.fz 0 0 r r
 refine qF (jV a [[T (⟨#[80]⟩:BA),.slice (ad b3) ([(⟨#[120]⟩:BA),(⟨#[121]⟩:BA)]:List BA).length 2]] ([(⟨(⟨#[80]⟩:BA),([(⟨#[120]⟩:BA),(⟨#[121]⟩:BA)]:List BA)⟩:Gr)]:List Gr) (Gb r) r r (by decide) ⟨(kD.tQ ⟨(ad b3),2,r,(a.dl 0 r)⟩),y⟩) ?_
 rintro _ w5 ⟨b5,rfl,a⟩
 refine s (SF r) (tL a (ko uI) fun w6 b6 a=>?_)
 refine lu (nD a 0 [.slice (ad b5) ([(⟨(⟨#[80]⟩:BA),([(⟨#[120]⟩:BA),(⟨#[121]⟩:BA)]:List BA)⟩:Gr)]:List Gr).length 1,sn] r uI r r) fun w7 a=>?_
 refine n (q (g (s (mp r) ?_)))
 obtain ⟨S,bY,h8,R⟩:=lV R
 have hc:=(kr fu) (a.pr [2] [0,1,3] [2] r)  h8
 refine sc (ec pG r) hc ?_
 rintro _ w8 ⟨rfl,hK⟩
 replace a:=a.cn [2] [0,1,3] hK
 refine s (kN r r) (s (xi r) (n (q (g (s (mp r) ?_)))))
 obtain ⟨F,bZ,h9,R⟩:=lV R
 have hc:=(kr fu) (a.pr [0] [1,2,3] [0] r)  h9
 refine sc (ec pG r) hc ?_
 rintro _ w9 ⟨rfl,hK⟩
 replace a:=a.cn [0] [1,2,3] hK
 refine s (mp r) ?_
 obtain ⟨v,bw,bz,R⟩:=lV R
 have hc:=(kr fu) (a.pr [0] [1,2,3] [0] r)  bz
 refine sc (ec pG r) hc ?_
 rintro _ c4 ⟨rfl,hK⟩
 replace a:=a.cn [0] [1,2,3] hK
 refine s (mp r) ?_
 obtain ⟨x,an,bA,R⟩:=lV R
 have hc:=(kr fu) (a.pr [0] [1,2,3] [0] r)  bA
 refine sc (ec pG r) hc ?_
 rintro _ c5 ⟨rfl,hK⟩
 replace a:=a.cn [0] [1,2,3] hK
 refine qF (jV a [[V 2],[V F],[V v],[V x]] ([2,F,v,x]:List Int) (NW r r r r) r r (by decide) ⟨r,⟨r,⟨r,⟨r,y⟩⟩⟩⟩) ?_
 rintro _ c6 ⟨W,rfl,a⟩
 refine s (nJ r) (n (q (q (g (s (xi r) (n ?_))))))
 replace a:=a.fz 0 0 r r
 replace a:=a.BQ Gn 82
 obtain ⟨bb,c,R⟩:=bs R
 refine oC (fun f w=>∃ (A:Int)(p:List Gn) (e:OA)(j:Nat)(t:LV)(B:List Int) (H:Int),Has f [(2,Pt b1),(4,Pt b6)]∧Bx w0 w dA G [O w0.heap.size e j 82 Gn t,.box b2 132 #[Z D B E,V H],.box b6 26 #[.slice (ad b5) ([(⟨(⟨#[80]⟩:BA),([(⟨#[120]⟩:BA),(⟨#[121]⟩:BA)]:List BA)⟩:Gr)]:List Gr).length 1,Z e p j],O w0.heap.size (ad b5) 1 127 Gr [[T (⟨#[80]⟩:BA),.slice (ad b3) ([(⟨#[120]⟩:BA),(⟨#[121]⟩:BA)]:List BA).length 2]],.box b1 26 #[sn,sn]] [.l D E B,.els t p,.l (ad W) 4 ([2,F,v,x]:List Int),.els [[T (⟨#[80]⟩:BA),.slice (ad b3) ([(⟨#[120]⟩:BA),(⟨#[121]⟩:BA)]:List BA).length 2]] ([(⟨(⟨#[80]⟩:BA),([(⟨#[120]⟩:BA),(⟨#[121]⟩:BA)]:List BA)⟩:Gr)]:List Gr)]∧Ld.go (A,p,B,H)=bb) (fun c7 bc=>?_) ?_
 ·refine nZ (kH (fun dC f w=>∃ (A:Int)(p:List Gn) (e:OA)(j:Nat)(t:LV)(B:List Int) (H:Int),Has f [(2,Pt b1),(3,Pt b2),(4,Pt b6),(5,V (wr (1+S))),(6,.slice (ad W) ([2,F,v,x]:List Int).length 4),(7,V A)]∧Bx w0 w dA G [O w0.heap.size e j 82 Gn t,.box b2 132 #[Z D B E,V H],.box b6 26 #[.slice (ad b5) ([(⟨(⟨#[80]⟩:BA),([(⟨#[120]⟩:BA),(⟨#[121]⟩:BA)]:List BA)⟩:Gr)]:List Gr).length 1,Z e p j],O w0.heap.size (ad b5) 1 127 Gr [[T (⟨#[80]⟩:BA),.slice (ad b3) ([(⟨#[120]⟩:BA),(⟨#[121]⟩:BA)]:List BA).length 2]],.box b1 26 #[sn,sn]] [.l D E B,.els t p,.l (ad W) 4 ([2,F,v,x]:List Int),.els [[T (⟨#[80]⟩:BA),.slice (ad b3) ([(⟨#[120]⟩:BA),(⟨#[121]⟩:BA)]:List BA).length 2]] ([(⟨(⟨#[80]⟩:BA),([(⟨#[120]⟩:BA),(⟨#[121]⟩:BA)]:List BA)⟩:Gr)]:List Gr)]∧sK fu S F v x dC A p B H=some bb) fu ⟨0,([]:List Gn),none,0,[],an.l,an.a,⟨r,r,r,r,r,r,y⟩,(a.dp [2,0,1,6]),c⟩ ?_)
  clear a c
  rintro aL f w ⟨A,p,e,j,t,B,H,hf,a,c⟩ c8 bd
  obtain ⟨dB,rfl⟩:=gP _ _ hf
  clear hf
  cases aL with
  | zero=>exact nn c
  | succ aL=>
   rw [sK] at c
   refine q (q (g (s (mi r) (s (mi r) (s (qB r r) (n ?_))))))
   rcases iv c with ⟨aM,c⟩|⟨aM,c⟩
   ·refine jH (bt aM) (wk (q (nZ (q (g (s (mp r) (s (mi r) (s (mi r) (s (mD r) (s (FM r r r r r) (tL a (yI r) fun c9 aG a=>?_)))))))))))
    refine s (PD r) (n (q ?_))
    obtain ⟨bB,aj,c⟩:=bs c
    obtain ⟨cc,bg,aj⟩:=kG aj
    obtain ⟨m,C,c⟩:=bs c
    obtain ⟨cd,af,C⟩:=kG C
    obtain ⟨o,bh,c⟩:=bs c
    obtain ⟨bC,a1,c0,Q,bD,L,ao⟩:=AX bh
    obtain rfl:bC=0:=by omega
    have J:o.length=a1:=by rw [← ao,List.length_take,List.length_drop];omega
    refine oC (fun f w=>∃ (a6:Nat)(I:Nat),Has f [(2,Pt b1),(3,Pt b2),(4,Pt b6),(5,V (wr (1+S))),(6,.slice (ad W) ([2,F,v,x]:List Int).length 4),(7,V A),(8,Pt aG),(9,Pt a6)]∧Bx w0 w dA G [.box aG 135 #[Pt b2,V A,V (wr (1+S)),.slice (ad W) ([2,F,v,x]:List Int).length 4,sn,sn,sn,V 0,V 22],O w0.heap.size e j 82 Gn t,.box b2 132 #[Z D B E,V H],.box b6 26 #[.slice (ad b5) ([(⟨(⟨#[80]⟩:BA),([(⟨#[120]⟩:BA),(⟨#[121]⟩:BA)]:List BA)⟩:Gr)]:List Gr).length 1,Z e p j],O w0.heap.size (ad b5) 1 127 Gr [[T (⟨#[80]⟩:BA),.slice (ad b3) ([(⟨#[120]⟩:BA),(⟨#[121]⟩:BA)]:List BA).length 2]],.box b1 26 #[sn,sn],O w0.heap.size (ad I) 4 9 BA [[T (⟨#[97]⟩:BA)],[T (⟨#[98]⟩:BA)],[T (⟨#[99]⟩:BA)],[T (⟨#[100]⟩:BA)]],.box a6 82 #[T m,V 0,.slice (ad I) o.length 4,sn]] [.l D E B,.els t p,.l (ad W) 4 ([2,F,v,x]:List Int),.els [[T (⟨#[80]⟩:BA),.slice (ad b3) ([(⟨#[120]⟩:BA),(⟨#[121]⟩:BA)]:List BA).length 2]] ([(⟨(⟨#[80]⟩:BA),([(⟨#[120]⟩:BA),(⟨#[121]⟩:BA)]:List BA)⟩:Gr)]:List Gr),.els [[T (⟨#[97]⟩:BA)],[T (⟨#[98]⟩:BA)],[T (⟨#[99]⟩:BA)],[T (⟨#[100]⟩:BA)]] ([(⟨#[97]⟩:BA),(⟨#[98]⟩:BA),(⟨#[99]⟩:BA),(⟨#[100]⟩:BA)]:List BA)]) (fun Jd hJd=>?_) ?_
    ·refine oJ a [] [2] [] (by kernel_rfl) ?_
     replace a:=a.drew
     have b:=(a.ad [] [2])
     refine pF 1 r (mi r) b (pF 5 r (mD r) b (pF 6 r (mi r) b (pF 7 r (kZ vE pJ r r bg (a.dl 2 r) aj) b (tU 8 r (fun _ hS=>kz EU r r ((vo (ds:=[V bB]) (hS.dl 0 r) aj (fun _ h=>h)) 0 _ r)) (sF b) ?_))))
     refine nI 0 [4,11] (by kernel_rfl) (jS ?_ (jS ?_ (jS ?_ lX)))
     ·refine oo r r (jV a [[T (⟨#[102]⟩:BA)],[T (⟨#[103]⟩:BA)],[T (⟨#[104]⟩:BA)],[T (⟨#[107]⟩:BA)]] ([(⟨#[102]⟩:BA),(⟨#[103]⟩:BA),(⟨#[104]⟩:BA),(⟨#[107]⟩:BA)]:List BA) (sS r r r r) r r (by decide) ⟨r,⟨r,⟨r,⟨r,y⟩⟩⟩⟩) ?_
      rintro _ ce ⟨cg,rfl,a⟩
      have b:=(a.ad [] [3])
      refine ⟨(sF b),?_⟩
      refine pF 2 r (kZ kL pV r r af (a.vw 0 0 r r) C) b ?_
      refine nI 3 [4,11] (by kernel_rfl) (jS ?_ (jS ?_ (jS ?_ lX)))
      ·have b:=(a.ad [] [3])
       refine vI r r (kz rH r r ((vo (ds:=[T m]) (a.vw 0 0 r r) C (fun _ h=>h)) 0 _ r)) (sF b) ?_
       refine nI 4 [11] (by kernel_rfl) (jS ?_ (jS ?_ lX))
       ·refine oo r r (jV a [[T (⟨#[97]⟩:BA)],[T (⟨#[98]⟩:BA)],[T (⟨#[99]⟩:BA)],[T (⟨#[100]⟩:BA)]] ([(⟨#[97]⟩:BA),(⟨#[98]⟩:BA),(⟨#[99]⟩:BA),(⟨#[100]⟩:BA)]:List BA) (sS r r r r) r r (by decide) ⟨r,⟨r,⟨r,⟨r,y⟩⟩⟩⟩) ?_
        rintro _ ch ⟨I,rfl,a⟩
        have b:=(a.ad [] [4])
        refine ⟨(sF b),?_⟩
        refine tP 9 r (fun _=>show Yl _ _ _ _ _ _ _ _ _ (.slice (some ⟨I,0,none⟩) o.length 4) from (congrArg (fun z=>Value.slice (some ⟨I,0,none⟩) z 4) J).symm ▸ zS a1 kL pV r r Q (Nat.le_trans L ((a.vw 0 0 r r)).cap)) (sF b) (pF 10 r (u6 r r) b ?_)
        refine hO 11 (oo r r (rM a (ko mX)) ?_)
        rintro _ ci ⟨a6,rfl,a⟩
        have b:=(a.ad [] [4])
        refine ⟨(sF b),?_⟩
        refine hO 12 (os r r (nD a 0 [T m,V 0,.slice (ad I) o.length 4,sn] r mX r r) fun cj a=>?_)
        have b:=(a.ad [] [4])
        refine ⟨(sF b),?_⟩
        refine hD ?_
        exact hJd _ _ ⟨a6,I,⟨r,r,r,r,r,r,r,r,y⟩,(a.ad [3,4,5,6,7,8,1,0] [2,3,4,5,0])⟩
       refine oo r r (rM a (ko mX)) ?_
       rintro _ ck ⟨bE,rfl,a⟩
       have b:=(a.ad [] [3])
       refine ⟨(sF b),?_⟩
       refine hO 4 (oo r r (jV a [[T (⟨#[97]⟩:BA)],[T (⟨#[98]⟩:BA)],[T (⟨#[99]⟩:BA)],[T (⟨#[100]⟩:BA)]] ([(⟨#[97]⟩:BA),(⟨#[98]⟩:BA),(⟨#[99]⟩:BA),(⟨#[100]⟩:BA)]:List BA) (sS r r r r) r r (by decide) ⟨r,⟨r,⟨r,⟨r,y⟩⟩⟩⟩) ?_)
       rintro _ cm ⟨ap,rfl,a⟩
       have b:=(a.ad [] [4])
       refine ⟨(sF b),?_⟩
       refine tP 9 r (fun _=>show Yl _ _ _ _ _ _ _ _ _ (.slice (some ⟨ap,0,none⟩) o.length 4) from (congrArg (fun z=>Value.slice (some ⟨ap,0,none⟩) z 4) J).symm ▸ zS a1 kL pV r r Q (Nat.le_trans L ((a.vw 0 0 r r)).cap)) (sF b) (pF 10 r (u6 r r) b ?_)
       refine hO 12 (os r r (nD a 1 [T m,V 0,.slice (ad ap) o.length 4,sn] r mX r r) fun cn a=>?_)
       have b:=(a.ad [] [4])
       refine ⟨(sF b),?_⟩
       refine hD ?_
       exact hJd _ _ ⟨bE,ap,⟨r,r,r,r,r,r,r,r,y⟩,(a.ad [3,4,5,6,7,8,0,1] [2,3,4,5,0])⟩
      ·refine oo r r (jV a [[T (⟨#[97]⟩:BA)],[T (⟨#[98]⟩:BA)],[T (⟨#[99]⟩:BA)],[T (⟨#[100]⟩:BA)]] ([(⟨#[97]⟩:BA),(⟨#[98]⟩:BA),(⟨#[99]⟩:BA),(⟨#[100]⟩:BA)]:List BA) (sS r r r r) r r (by decide) ⟨r,⟨r,⟨r,⟨r,y⟩⟩⟩⟩) ?_
       rintro _ co ⟨ag,rfl,a⟩
       have b:=(a.ad [] [4])
       refine ⟨(sF b),?_⟩
       refine tP 9 r (fun _=>show Yl _ _ _ _ _ _ _ _ _ (.slice (some ⟨ag,0,none⟩) o.length 4) from (congrArg (fun z=>Value.slice (some ⟨ag,0,none⟩) z 4) J).symm ▸ zS a1 kL pV r r Q (Nat.le_trans L ((a.vw 0 0 r r)).cap)) (sF b) ?_
       refine nI 3 [11] (by kernel_rfl) (jS ?_ (jS ?_ lX))
       ·have b:=(a.ad [] [4])
        refine vI r r (kz rH r r ((vo (ds:=[T m]) (a.vw 1 1 r r) C (fun _ h=>h)) 0 _ r)) (sF b) (pF 10 r (u6 r r) b ?_)
        refine hO 11 (oo r r (rM a (ko mX)) ?_)
        rintro _ cp ⟨bF,rfl,a⟩
        have b:=(a.ad [] [4])
        refine ⟨(sF b),?_⟩
        refine hO 12 (os r r (nD a 0 [T m,V 0,.slice (ad ag) o.length 4,sn] r mX r r) fun cq a=>?_)
        have b:=(a.ad [] [4])
        refine ⟨(sF b),?_⟩
        refine hD ?_
        exact hJd _ _ ⟨bF,ag,⟨r,r,r,r,r,r,r,r,y⟩,(a.ad [3,4,5,6,7,8,1,0] [2,3,4,5,0])⟩
       refine oo r r (rM a (ko mX)) ?_
       rintro _ cr ⟨bG,rfl,a⟩
       have b:=(a.ad [] [4])
       refine ⟨(sF b),?_⟩
       refine hO 3 (vI r r (kz rH r r ((vo (ds:=[T m]) (a.vw 2 1 r r) C (fun _ h=>h)) 0 _ r)) (sF b) ?_)
       refine pF 10 r (u6 r r) b ?_
       refine hO 12 (os r r (nD a 0 [T m,V 0,.slice (ad ag) o.length 4,sn] r mX r r) fun ct a=>?_)
       have b:=(a.ad [] [4])
       refine ⟨(sF b),?_⟩
       refine hD ?_
       exact hJd _ _ ⟨bG,ag,⟨r,r,r,r,r,r,r,r,y⟩,(a.ad [3,4,5,6,7,8,1,0] [2,3,4,5,0])⟩
      refine oo r r (rM a (ko mX)) ?_
      rintro _ cu ⟨bi,rfl,a⟩
      have b:=(a.ad [] [3])
      refine ⟨(sF b),?_⟩
      refine nI 3 [4] (by kernel_rfl) (jS ?_ (jS ?_ lX))
      ·have b:=(a.ad [] [3])
       refine vI r r (kz rH r r ((vo (ds:=[T m]) (a.vw 1 0 r r) C (fun _ h=>h)) 0 _ r)) (sF b) ?_
       refine hO 4 (oo r r (jV a [[T (⟨#[97]⟩:BA)],[T (⟨#[98]⟩:BA)],[T (⟨#[99]⟩:BA)],[T (⟨#[100]⟩:BA)]] ([(⟨#[97]⟩:BA),(⟨#[98]⟩:BA),(⟨#[99]⟩:BA),(⟨#[100]⟩:BA)]:List BA) (sS r r r r) r r (by decide) ⟨r,⟨r,⟨r,⟨r,y⟩⟩⟩⟩) ?_)
       rintro _ cv ⟨aq,rfl,a⟩
       have b:=(a.ad [] [4])
       refine ⟨(sF b),?_⟩
       refine tP 9 r (fun _=>show Yl _ _ _ _ _ _ _ _ _ (.slice (some ⟨aq,0,none⟩) o.length 4) from (congrArg (fun z=>Value.slice (some ⟨aq,0,none⟩) z 4) J).symm ▸ zS a1 kL pV r r Q (Nat.le_trans L ((a.vw 0 0 r r)).cap)) (sF b) (pF 10 r (u6 r r) b ?_)
       refine hO 12 (os r r (nD a 1 [T m,V 0,.slice (ad aq) o.length 4,sn] r mX r r) fun cw a=>?_)
       have b:=(a.ad [] [4])
       refine ⟨(sF b),?_⟩
       refine hD ?_
       exact hJd _ _ ⟨bi,aq,⟨r,r,r,r,r,r,r,r,y⟩,(a.ad [3,4,5,6,7,8,0,1] [2,3,4,5,0])⟩
      refine oo r r (jV a [[T (⟨#[97]⟩:BA)],[T (⟨#[98]⟩:BA)],[T (⟨#[99]⟩:BA)],[T (⟨#[100]⟩:BA)]] ([(⟨#[97]⟩:BA),(⟨#[98]⟩:BA),(⟨#[99]⟩:BA),(⟨#[100]⟩:BA)]:List BA) (sS r r r r) r r (by decide) ⟨r,⟨r,⟨r,⟨r,y⟩⟩⟩⟩) ?_
      rintro _ cx ⟨ar,rfl,a⟩
      have b:=(a.ad [] [4])
      refine ⟨(sF b),?_⟩
      refine tP 9 r (fun _=>show Yl _ _ _ _ _ _ _ _ _ (.slice (some ⟨ar,0,none⟩) o.length 4) from (congrArg (fun z=>Value.slice (some ⟨ar,0,none⟩) z 4) J).symm ▸ zS a1 kL pV r r Q (Nat.le_trans L ((a.vw 0 0 r r)).cap)) (sF b) ?_
      refine hO 3 (vI r r (kz rH r r ((vo (ds:=[T m]) (a.vw 2 1 r r) C (fun _ h=>h)) 0 _ r)) (sF b) ?_)
      refine pF 10 r (u6 r r) b ?_
      refine hO 12 (os r r (nD a 1 [T m,V 0,.slice (ad ar) o.length 4,sn] r mX r r) fun cy a=>?_)
      have b:=(a.ad [] [4])
      refine ⟨(sF b),?_⟩
      refine hD ?_
      exact hJd _ _ ⟨bi,ar,⟨r,r,r,r,r,r,r,r,y⟩,(a.ad [3,4,5,6,7,8,0,1] [2,3,4,5,0])⟩
     ·refine oo r r (jV a [[T (⟨#[97]⟩:BA)],[T (⟨#[98]⟩:BA)],[T (⟨#[99]⟩:BA)],[T (⟨#[100]⟩:BA)]] ([(⟨#[97]⟩:BA),(⟨#[98]⟩:BA),(⟨#[99]⟩:BA),(⟨#[100]⟩:BA)]:List BA) (sS r r r r) r r (by decide) ⟨r,⟨r,⟨r,⟨r,y⟩⟩⟩⟩) ?_
      rintro _ cz ⟨X,rfl,a⟩
      have b:=(a.ad [] [3])
      refine ⟨(sF b),?_⟩
      refine tP 9 r (fun _=>show Yl _ _ _ _ _ _ _ _ _ (.slice (some ⟨X,0,none⟩) o.length 4) from (congrArg (fun z=>Value.slice (some ⟨X,0,none⟩) z 4) J).symm ▸ zS a1 kL pV r r Q (Nat.le_trans L ((a.vw 0 0 r r)).cap)) (sF b) ?_
      refine nI 0 [11] (by kernel_rfl) (jS ?_ (jS ?_ lX))
      ·refine oo r r (jV a [[T (⟨#[102]⟩:BA)],[T (⟨#[103]⟩:BA)],[T (⟨#[104]⟩:BA)],[T (⟨#[107]⟩:BA)]] ([(⟨#[102]⟩:BA),(⟨#[103]⟩:BA),(⟨#[104]⟩:BA),(⟨#[107]⟩:BA)]:List BA) (sS r r r r) r r (by decide) ⟨r,⟨r,⟨r,⟨r,y⟩⟩⟩⟩) ?_
       rintro _ cA ⟨cB,rfl,a⟩
       have b:=(a.ad [] [4])
       refine ⟨(sF b),?_⟩
       refine pF 2 r (kZ kL pV r r af (a.vw 0 0 r r) C) b ?_
       refine nI 3 [11] (by kernel_rfl) (jS ?_ (jS ?_ lX))
       ·have b:=(a.ad [] [4])
        refine vI r r (kz rH r r ((vo (ds:=[T m]) (a.vw 0 0 r r) C (fun _ h=>h)) 0 _ r)) (sF b) (pF 10 r (u6 r r) b ?_)
        refine hO 11 (oo r r (rM a (ko mX)) ?_)
        rintro _ cC ⟨bH,rfl,a⟩
        have b:=(a.ad [] [4])
        refine ⟨(sF b),?_⟩
        refine hO 12 (os r r (nD a 0 [T m,V 0,.slice (ad X) o.length 4,sn] r mX r r) fun cD a=>?_)
        have b:=(a.ad [] [4])
        refine ⟨(sF b),?_⟩
        refine hD ?_
        exact hJd _ _ ⟨bH,X,⟨r,r,r,r,r,r,r,r,y⟩,(a.ad [3,4,5,6,7,8,2,0] [2,3,4,5,1])⟩
       refine oo r r (rM a (ko mX)) ?_
       rintro _ cE ⟨bI,rfl,a⟩
       have b:=(a.ad [] [4])
       refine ⟨(sF b),?_⟩
       refine hO 3 (vI r r (kz rH r r ((vo (ds:=[T m]) (a.vw 1 0 r r) C (fun _ h=>h)) 0 _ r)) (sF b) ?_)
       refine pF 10 r (u6 r r) b ?_
       refine hO 12 (os r r (nD a 0 [T m,V 0,.slice (ad X) o.length 4,sn] r mX r r) fun cF a=>?_)
       have b:=(a.ad [] [4])
       refine ⟨(sF b),?_⟩
       refine hD ?_
       exact hJd _ _ ⟨bI,X,⟨r,r,r,r,r,r,r,r,y⟩,(a.ad [3,4,5,6,7,8,2,0] [2,3,4,5,1])⟩
      refine oo r r (rM a (ko mX)) ?_
      rintro _ cG ⟨bJ,rfl,a⟩
      have b:=(a.ad [] [3])
      refine ⟨(sF b),?_⟩
      refine hO 0 (oo r r (jV a [[T (⟨#[102]⟩:BA)],[T (⟨#[103]⟩:BA)],[T (⟨#[104]⟩:BA)],[T (⟨#[107]⟩:BA)]] ([(⟨#[102]⟩:BA),(⟨#[103]⟩:BA),(⟨#[104]⟩:BA),(⟨#[107]⟩:BA)]:List BA) (sS r r r r) r r (by decide) ⟨r,⟨r,⟨r,⟨r,y⟩⟩⟩⟩) ?_)
      rintro _ cH ⟨cI,rfl,a⟩
      have b:=(a.ad [] [4])
      refine ⟨(sF b),?_⟩
      refine pF 2 r (kZ kL pV r r af (a.vw 0 0 r r) C) b ?_
      refine hO 3 (vI r r (kz rH r r ((vo (ds:=[T m]) (a.vw 0 0 r r) C (fun _ h=>h)) 0 _ r)) (sF b) ?_)
      refine pF 10 r (u6 r r) b ?_
      refine hO 12 (os r r (nD a 1 [T m,V 0,.slice (ad X) o.length 4,sn] r mX r r) fun cJ a=>?_)
      have b:=(a.ad [] [4])
      refine ⟨(sF b),?_⟩
      refine hD ?_
      exact hJd _ _ ⟨bJ,X,⟨r,r,r,r,r,r,r,r,y⟩,(a.ad [3,4,5,6,7,8,2,1] [2,3,4,5,1])⟩
     refine oo r r (rM a (ko mX)) ?_
     rintro _ cK ⟨aN,rfl,a⟩
     have b:=(a.ad [] [2])
     refine ⟨(sF b),?_⟩
     refine nI 0 [4] (by kernel_rfl) (jS ?_ (jS ?_ lX))
     ·refine oo r r (jV a [[T (⟨#[102]⟩:BA)],[T (⟨#[103]⟩:BA)],[T (⟨#[104]⟩:BA)],[T (⟨#[107]⟩:BA)]] ([(⟨#[102]⟩:BA),(⟨#[103]⟩:BA),(⟨#[104]⟩:BA),(⟨#[107]⟩:BA)]:List BA) (sS r r r r) r r (by decide) ⟨r,⟨r,⟨r,⟨r,y⟩⟩⟩⟩) ?_
      rintro _ cL ⟨cM,rfl,a⟩
      have b:=(a.ad [] [3])
      refine ⟨(sF b),?_⟩
      refine pF 2 r (kZ kL pV r r af (a.vw 0 0 r r) C) b ?_
      refine nI 3 [4] (by kernel_rfl) (jS ?_ (jS ?_ lX))
      ·have b:=(a.ad [] [3])
       refine vI r r (kz rH r r ((vo (ds:=[T m]) (a.vw 0 0 r r) C (fun _ h=>h)) 0 _ r)) (sF b) ?_
       refine hO 4 (oo r r (jV a [[T (⟨#[97]⟩:BA)],[T (⟨#[98]⟩:BA)],[T (⟨#[99]⟩:BA)],[T (⟨#[100]⟩:BA)]] ([(⟨#[97]⟩:BA),(⟨#[98]⟩:BA),(⟨#[99]⟩:BA),(⟨#[100]⟩:BA)]:List BA) (sS r r r r) r r (by decide) ⟨r,⟨r,⟨r,⟨r,y⟩⟩⟩⟩) ?_)
       rintro _ cN ⟨au,rfl,a⟩
       have b:=(a.ad [] [4])
       refine ⟨(sF b),?_⟩
       refine tP 9 r (fun _=>show Yl _ _ _ _ _ _ _ _ _ (.slice (some ⟨au,0,none⟩) o.length 4) from (congrArg (fun z=>Value.slice (some ⟨au,0,none⟩) z 4) J).symm ▸ zS a1 kL pV r r Q (Nat.le_trans L ((a.vw 0 0 r r)).cap)) (sF b) (pF 10 r (u6 r r) b ?_)
       refine hO 12 (os r r (nD a 2 [T m,V 0,.slice (ad au) o.length 4,sn] r mX r r) fun cO a=>?_)
       have b:=(a.ad [] [4])
       refine ⟨(sF b),?_⟩
       refine hD ?_
       exact hJd _ _ ⟨aN,au,⟨r,r,r,r,r,r,r,r,y⟩,(a.ad [3,4,5,6,7,8,0,2] [2,3,4,5,0])⟩
      refine oo r r (jV a [[T (⟨#[97]⟩:BA)],[T (⟨#[98]⟩:BA)],[T (⟨#[99]⟩:BA)],[T (⟨#[100]⟩:BA)]] ([(⟨#[97]⟩:BA),(⟨#[98]⟩:BA),(⟨#[99]⟩:BA),(⟨#[100]⟩:BA)]:List BA) (sS r r r r) r r (by decide) ⟨r,⟨r,⟨r,⟨r,y⟩⟩⟩⟩) ?_
      rintro _ cP ⟨av,rfl,a⟩
      have b:=(a.ad [] [4])
      refine ⟨(sF b),?_⟩
      refine tP 9 r (fun _=>show Yl _ _ _ _ _ _ _ _ _ (.slice (some ⟨av,0,none⟩) o.length 4) from (congrArg (fun z=>Value.slice (some ⟨av,0,none⟩) z 4) J).symm ▸ zS a1 kL pV r r Q (Nat.le_trans L ((a.vw 0 0 r r)).cap)) (sF b) ?_
      refine hO 3 (vI r r (kz rH r r ((vo (ds:=[T m]) (a.vw 1 1 r r) C (fun _ h=>h)) 0 _ r)) (sF b) ?_)
      refine pF 10 r (u6 r r) b ?_
      refine hO 12 (os r r (nD a 2 [T m,V 0,.slice (ad av) o.length 4,sn] r mX r r) fun cQ a=>?_)
      have b:=(a.ad [] [4])
      refine ⟨(sF b),?_⟩
      refine hD ?_
      exact hJd _ _ ⟨aN,av,⟨r,r,r,r,r,r,r,r,y⟩,(a.ad [3,4,5,6,7,8,0,2] [2,3,4,5,0])⟩
     refine oo r r (jV a [[T (⟨#[97]⟩:BA)],[T (⟨#[98]⟩:BA)],[T (⟨#[99]⟩:BA)],[T (⟨#[100]⟩:BA)]] ([(⟨#[97]⟩:BA),(⟨#[98]⟩:BA),(⟨#[99]⟩:BA),(⟨#[100]⟩:BA)]:List BA) (sS r r r r) r r (by decide) ⟨r,⟨r,⟨r,⟨r,y⟩⟩⟩⟩) ?_
     rintro _ cR ⟨aw,rfl,a⟩
     have b:=(a.ad [] [3])
     refine ⟨(sF b),?_⟩
     refine tP 9 r (fun _=>show Yl _ _ _ _ _ _ _ _ _ (.slice (some ⟨aw,0,none⟩) o.length 4) from (congrArg (fun z=>Value.slice (some ⟨aw,0,none⟩) z 4) J).symm ▸ zS a1 kL pV r r Q (Nat.le_trans L ((a.vw 0 0 r r)).cap)) (sF b) ?_
     refine hO 0 (oo r r (jV a [[T (⟨#[102]⟩:BA)],[T (⟨#[103]⟩:BA)],[T (⟨#[104]⟩:BA)],[T (⟨#[107]⟩:BA)]] ([(⟨#[102]⟩:BA),(⟨#[103]⟩:BA),(⟨#[104]⟩:BA),(⟨#[107]⟩:BA)]:List BA) (sS r r r r) r r (by decide) ⟨r,⟨r,⟨r,⟨r,y⟩⟩⟩⟩) ?_)
     rintro _ cS ⟨cT,rfl,a⟩
     have b:=(a.ad [] [4])
     refine ⟨(sF b),?_⟩
     refine pF 2 r (kZ kL pV r r af (a.vw 0 0 r r) C) b ?_
     refine hO 3 (vI r r (kz rH r r ((vo (ds:=[T m]) (a.vw 0 0 r r) C (fun _ h=>h)) 0 _ r)) (sF b) ?_)
     refine pF 10 r (u6 r r) b ?_
     refine hO 12 (os r r (nD a 2 [T m,V 0,.slice (ad aw) o.length 4,sn] r mX r r) fun cU a=>?_)
     have b:=(a.ad [] [4])
     refine ⟨(sF b),?_⟩
     refine hD ?_
     exact hJd _ _ ⟨aN,aw,⟨r,r,r,r,r,r,r,r,y⟩,(a.ad [3,4,5,6,7,8,1,2] [2,3,4,5,1])⟩
    clear a
    rintro f w ⟨a6,I,hf,a⟩
    obtain ⟨dB,rfl⟩:=gP _ _ hf
    clear hf
    refine q (g (s (mp r) (qF (jV a [] ([]:List BA) (mO) r r (by decide) y) ?_)))
    rintro _ cV ⟨cW,rfl,a⟩
    refine s (zD r) (s (yF r (a.bk 8 r) r) ?_)
    obtain ⟨aH,bj,c⟩:=bs c
    refine qF (kS a 0 0 r r kL pV r (by decide) (by decide) (Nat.le_refl _) r r (a.AP 7 5 r r L ao) bj) ?_
    rintro _ cX ⟨aI,aJ,bl,rfl,a⟩
    refine s (xn r) (s (nL r) (lu (lW a 1 [Z aI aH aJ] r pO r r) fun cY a=>?_))
    refine n (q (g (s (xi r) (n (q ?_)))))
    obtain ⟨bK,a2,c⟩:=bs c
    refine oC (fun f w=>∃ (ai:Int),Has f [(2,Pt b1),(3,Pt b2),(4,Pt b6),(5,V (wr (1+S))),(6,.slice (ad W) ([2,F,v,x]:List Int).length 4),(7,V A),(8,Pt aG),(9,Pt a6),(10,V ai)]∧Bx w0 w dA G [O w0.heap.size aI aJ 9 BA bl,.box aG 135 #[Pt b2,V A,V (wr (1+S)),.slice (ad W) ([2,F,v,x]:List Int).length 4,Z aI aH aJ,sn,sn,V 0,V 22],O w0.heap.size e j 82 Gn t,.box b2 132 #[Z D B E,V H],.box b6 26 #[.slice (ad b5) ([(⟨(⟨#[80]⟩:BA),([(⟨#[120]⟩:BA),(⟨#[121]⟩:BA)]:List BA)⟩:Gr)]:List Gr).length 1,Z e p j],O w0.heap.size (ad b5) 1 127 Gr [[T (⟨#[80]⟩:BA),.slice (ad b3) ([(⟨#[120]⟩:BA),(⟨#[121]⟩:BA)]:List BA).length 2]],.box b1 26 #[sn,sn],O w0.heap.size (ad I) 4 9 BA [[T (⟨#[97]⟩:BA)],[T (⟨#[98]⟩:BA)],[T (⟨#[99]⟩:BA)],[T (⟨#[100]⟩:BA)]],.box a6 82 #[T m,V 0,.slice (ad I) o.length 4,sn]] [.els bl aH,.l D E B,.els t p,.l (ad W) 4 ([2,F,v,x]:List Int),.els [[T (⟨#[80]⟩:BA),.slice (ad b3) ([(⟨#[120]⟩:BA),(⟨#[121]⟩:BA)]:List BA).length 2]] ([(⟨(⟨#[80]⟩:BA),([(⟨#[120]⟩:BA),(⟨#[121]⟩:BA)]:List BA)⟩:Gr)]:List Gr),.els [[T (⟨#[97]⟩:BA)],[T (⟨#[98]⟩:BA)],[T (⟨#[99]⟩:BA)],[T (⟨#[100]⟩:BA)]] ([(⟨#[97]⟩:BA),(⟨#[98]⟩:BA),(⟨#[99]⟩:BA),(⟨#[100]⟩:BA)]:List BA)]∧Ld.go ai=bK) (fun cZ aK=>?_) ?_
    ·unfold ww at a2
     refine q (g (s (mi r) (s (vG r r) (n ?_))))
     rcases iv a2 with ⟨aO,a2⟩|⟨aO,a2⟩
     ·refine jH (bt aO) (g (s (xi r) (n ?_)))
      exact aK _ _ ⟨6,⟨r,r,r,r,r,r,r,r,r,y⟩,a,sm a2⟩
     refine jI (bf aO) (wk ?_)
     exact aK _ _ ⟨10,⟨r,r,r,r,r,r,r,r,r,y⟩,a,sm a2⟩
    clear a
    rintro f w ⟨ai,hf,a,bm⟩
    obtain ⟨dB,rfl⟩:=gP _ _ hf
    clear hf
    subst bm
    replace c:=gi c
    refine q (g (s (mp r) (s (mi r) ?_)))
    replace a:=a.BQ BA 9
    replace a:=a.BQ BA 9
    obtain ⟨a7,bL,ax,bM,c⟩:=qG c
    have hc:=(Jq fu) (a.pr [3,5,2,1,0] [4,6,7,8,9,10] [3,5,2,1,0] r) a.rX.size a.rX.size a.rX.size bM
    refine sc (ec Q6 r) hc ?_
    rintro _ d0 ⟨M,N,a3,aP,aQ,aR,aS,aT,aU,aV,aW,aX,rfl,hK⟩
    have bN:=a.rX.size
    replace a:=a.cn [3,5,2,1,0] [4,6,7,8,9,10] hK
    replace a:=a.rb 0 w0.heap.size r bN
    refine s (Av r) (lu (lW a 11 [Z M a7 N] r yG r r) fun d1 a=>?_)
    refine n (q ?_)
    obtain ⟨bO,u,c⟩:=bs c
    refine oC (fun f w=>∃ (a8:List Gs) (a9:OA)(aa:Nat)(ab:LV)(Y:List Int) (ac:Int),Has f [(2,Pt b1),(3,Pt b2),(4,Pt b6),(5,V (wr (1+S))),(6,.slice (ad W) ([2,F,v,x]:List Int).length 4),(7,V A),(9,Pt a6)]∧Bx w0 w dA G [O w0.heap.size a9 aa 111 Gs ab,.box b2 132 #[Z D Y E,V ac],O w0.heap.size e j 82 Gn t,.box b6 26 #[.slice (ad b5) ([(⟨(⟨#[80]⟩:BA),([(⟨#[120]⟩:BA),(⟨#[121]⟩:BA)]:List BA)⟩:Gr)]:List Gr).length 1,Z e p j],O w0.heap.size (ad b5) 1 127 Gr [[T (⟨#[80]⟩:BA),.slice (ad b3) ([(⟨#[120]⟩:BA),(⟨#[121]⟩:BA)]:List BA).length 2]],.box b1 26 #[sn,sn],O w0.heap.size (ad I) 4 9 BA [[T (⟨#[97]⟩:BA)],[T (⟨#[98]⟩:BA)],[T (⟨#[99]⟩:BA)],[T (⟨#[100]⟩:BA)]],.box a6 82 #[T m,V 0,.slice (ad I) o.length 4,Z a9 a8 aa]] [.l D E Y,.els ab a8,.els t p,.l (ad W) 4 ([2,F,v,x]:List Int),.els [[T (⟨#[80]⟩:BA),.slice (ad b3) ([(⟨#[120]⟩:BA),(⟨#[121]⟩:BA)]:List BA).length 2]] ([(⟨(⟨#[80]⟩:BA),([(⟨#[120]⟩:BA),(⟨#[121]⟩:BA)]:List BA)⟩:Gr)]:List Gr),.els [[T (⟨#[97]⟩:BA)],[T (⟨#[98]⟩:BA)],[T (⟨#[99]⟩:BA)],[T (⟨#[100]⟩:BA)]] ([(⟨#[97]⟩:BA),(⟨#[98]⟩:BA),(⟨#[99]⟩:BA),(⟨#[100]⟩:BA)]:List BA)]∧Ld.go (a8,Y,ac)=bO) (fun d2 ay=>?_) ?_
    ·unfold vZ at u
     refine q (g (s (mp r) (s (xn r) (s (nL r) (s (yF r (a.bk 1 r) r) (s (lg kL r) (s (vG r r) (s (jZ r) ?_))))))))
     rcases iv u with ⟨aY,u⟩|⟨aY,u⟩
     ·rw [decide_eq_true aY]
      refine jQ r (s (mp r) ?_)
      obtain ⟨bP,az,bQ,u⟩:=lV u
      refine jQ r ?_
      have hc:=(kr fu) (a.pr [2] [0,1,3,4,5,6,7,8,9,10,11] [1] r)  bQ
      refine sc (ec pG r) hc ?_
      rintro _ d3 ⟨rfl,hK⟩
      replace a:=a.cn [2] [0,1,3,4,5,6,7,8,9,10,11] hK
      refine jQ r (s (vG r r) (s (jN r r) (n ?_)))
      rcases iv u with ⟨aZ,u⟩|⟨aZ,u⟩
      ·refine jH (bt aZ) (Fa a [2,3] [4] [2,3,11] [4] [21] (by kernel_rfl) ?_)
       replace a:=a.drew
       have b:=(a.ad [2,3] [4])
       have U:=(a.ad [2,3,11] [4])
       refine pL 0 r (Av r) b U (tS 1 1 r (fun _ hS=>FV r (hS.bk 2 r) r) (mH b U) (pL 2 r (mp r) b U (pL 3 r (xn r) b U (pL 4 r (nL r) b U (tU 5 r (fun _ hS=>yF r (hS.bk 0 r) r) (mH b U) (pL 6 r (mp r) b U (pL 7 r (mp r) b U (pL 8 r (xn r) b U (pL 9 r (nL r) b U (tU 10 r (fun _ hS=>yF r (hS.bk 0 r) r) (mH b U) (pL 11 r (lg kL r) b U ?_)))))))))))
       obtain ⟨bR,aA,bS,u⟩:=lV u
       have hc:=(kr fu) (a.pr [0] [1,2,3,4,5,6,7,8,9,10,11] [0] r)  bS
       refine hO 12 (oc r r (ec pG r) hc ?_)
       rintro _ d4 ⟨rfl,hK⟩
       replace a:=a.cn [0] [1,2,3,4,5,6,7,8,9,10,11] hK
       have b:=(a.ad [2,3] [5])
       have U:=(a.ad [2,3,11] [5])
       refine ⟨(mH b U),?_⟩
       obtain ⟨bT,ak,u⟩:=bs u
       obtain ⟨d5,bn,ak⟩:=kG ak
       refine pL 13 r (kZ kL pV r r bn (a.vw 3 5 r r) ak) b U (tU 14 r (fun _ hS=>kz rH r r ((vo (ds:=[T bT]) (hS.vw 1 0 r r) ak (fun _ h=>h)) 0 _ r)) (mH b U) ?_)
       obtain ⟨K,bU,u⟩:=bs u
       have hc:=(ql fu) (a.pr [] [0,1,2,3,4,5,6,7,8,9,10,11] [] r)  bU
       refine hO 15 (oc r r (ec ER r) hc ?_)
       rintro _ d6 ⟨a4,a5,rfl,hK⟩
       replace a:=a.cn [] [0,1,2,3,4,5,6,7,8,9,10,11] hK
       have b:=(a.ad [2,3] [6])
       have U:=(a.ad [2,3,11] [6])
       refine ⟨(mH b U),?_⟩
       refine hO 16 (oo r r (jV a [[V K.e,V K.d,V K.j,T K.a,T K.c,Z a4 K.b a5]] ([K]:List Ge) (kX r) r r (by decide) ⟨(jL.tQ ⟨a4,a5,r,(a.dl 0 r)⟩),y⟩) ?_)
       rintro _ d7 ⟨bo,rfl,a⟩
       have b:=(a.ad [3,4] [7])
       have U:=(a.ad [3,4,12] [7])
       refine ⟨(mH b U),?_⟩
       refine pL 17 r (ru r r) b U ?_
       replace a:=a.fz 0 0 r r
       refine hO 18 (oo r r (jV a [[V 6,V 0,V 0,T be,T be,V 0,V 0,sn,T be,V 0,.slice (ad bo) ([K]:List Ge).length 1,sn,sn]] ([(⟨6,0,0,be,be,0,0,([]:List Ge),be,0,([K]:List Ge),([]:List Gs),([]:List Gs)⟩:Gs)]:List Gs) (tH r) r r (by decide) ⟨(jM.tQ ⟨none,0,(ad bo),1,none,0,none,0,r,oP,(a.dl 0 r),oP,oP⟩),y⟩) ?_)
       rintro _ d8 ⟨d9,rfl,a⟩
       have b:=(a.ad [3,4] [8])
       have U:=(a.ad [3,4,12] [8])
       refine ⟨(mH b U),?_⟩
       obtain ⟨b0,bp,u⟩:=bs u
       refine hO 19 (oo r r (kS a 2 5 r r yH jP r (by decide) (by decide) (Nat.le_refl _) r r (a.AJ 0 0 r r) bp) ?_)
       rintro _ da ⟨b4,b7,bV,rfl,a⟩
       have b:=(a.ad [3,4] [8])
       have U:=(a.ad [3,4,12] [8])
       refine ⟨(mH b U),?_⟩
       refine pL 20 r (Av r) b U ?_
       refine hO 21 (os r r (lW a 12 [Z b4 b0 b7] r yG r r) fun db a=>?_)
       have b:=(a.ad [3,4] [8])
       refine ⟨(sy 21 b),?_⟩
       refine hD ?_
       exact ay _ _ ⟨b0,b4,b7,bV,aA.l,aA.a,⟨r,r,r,r,r,r,r,y⟩,(a.ad [2,1,7,8,9,10,11,12] [3,5,15,16,17,18]),sm u⟩
      refine jI (bf aZ) (wk ?_)
      exact ay _ _ ⟨a7,M,N,a3,az.l,az.a,⟨r,r,r,r,r,r,r,y⟩,(a.ad [1,0,6,7,8,9,10,11] [0,1,11,12,13,14]),sm u⟩
     rw [decide_eq_false aY]
     refine jB r (jB r (jB r (s (jX r r) (n (jI r (wk ?_))))))
     exact ay _ _ ⟨a7,M,N,a3,ax.l,ax.a,⟨r,r,r,r,r,r,r,y⟩,(a.ad [0,2,6,7,8,9,10,11] [1,0,10,11,12,13]),sm u⟩
    clear a
    rintro f w ⟨a8,a9,aa,ab,Y,ac,hf,a,bq⟩
    obtain ⟨dB,rfl⟩:=gP _ _ hf
    clear hf
    subst bq
    replace c:=gi c
    replace c:=Ak c
    refine q (g (s (Av r) (s (FV r (a.bk 7 r) r) (s (Eb r) (qF (jV a [[V 10,V 0,V 0,T be,T be,V 0,V 0,sn,T be,V 0,sn,sn,sn]] ([(⟨10,0,0,be,be,0,0,([]:List Ge),be,0,([]:List Ge),([]:List Gs),([]:List Gs)⟩:Gs)]:List Gs) (tH r) r r (by decide) ⟨(jM.tQ ⟨none,0,none,0,none,0,none,0,r,oP,oP,oP,oP⟩),y⟩) ?_)))))
    rintro _ dc ⟨dd,rfl,a⟩
    obtain ⟨aB,br,c⟩:=bs c
    refine qF (kS a 1 2 r r yH jP r (by decide) (by decide) (Nat.le_refl _) r r (a.AJ 0 0 r r) br) ?_
    rintro _ de ⟨aC,aD,df,rfl,a⟩
    refine s (Av r) (lu (lW a 8 [Z aC aB aD] r yG r r) fun dg a=>?_)
    refine n (g (s (vS r) (s (Iq r (a.bk 4 r) r) (s (mE [T m,V 0,.slice (ad I) o.length 4,Z aC aB aD] Bv mX r (a.bk 8 r)) ?_))))
    replace a:=a.fz 7 6 r r
    replace a:=a.ku (d:=.l (ad I) 4 o) (by have dD:=(a.dl 0 r).head L;rw [ao] at dD;exact dD)
    replace a:=a.fz 1 4 r r
    refine qF (jV a [[T m,V 0,.slice (ad I) o.length 4,Z aC aB aD]] ([(⟨m,0,o,aB⟩:Gn)]:List Gn) (Gx r) r r (by decide) ⟨(kC.tQ ⟨(ad I),4,aC,aD,r,(a.dl 1 r),(a.dl 0 r)⟩),y⟩) ?_
    rintro _ di ⟨dj,rfl,a⟩
    obtain ⟨b8,bu,c⟩:=bs c
    refine qF (kS a 3 6 r r yR mX r (by decide) (by decide) (Nat.le_refl _) r r (a.AJ 0 0 r r) bu) ?_
    rintro _ dk ⟨b9,ba,bW,rfl,a⟩
    refine s (vS r) (lu (lW a 4 [Z b9 b8 ba] r Qs r r) fun dm a=>?_)
    refine n (g (s (mi r) (s (kN r r) (s (xi r) (n ?_)))))
    exact bd aL _ _ (Nat.lt_succ_self _) ⟨(wr (A+1)),b8,b9,ba,bW,Y,ac,⟨r,r,r,r,r,r,y⟩,(a.ad [3,2,4,5,6] [5,6,7,8]),c⟩
   refine jI (bf aM) (uW ?_)
   exact bc _ _ ⟨A,p,e,j,t,B,H,⟨r,r,y⟩,a,sm c⟩
 clear a
 rintro f w ⟨A,p,e,j,t,B,H,hf,a,bv⟩
 obtain ⟨dB,rfl⟩:=gP _ _ hf
 clear hf
 subst bv
 replace R:=gi R
 replace R:=mf R
 refine q (g (s (mE [.slice (ad b5) ([(⟨(⟨#[80]⟩:BA),([(⟨#[120]⟩:BA),(⟨#[121]⟩:BA)]:List BA)⟩:Gr)]:List Gr).length 1,Z e p j] BJ uI r (a.bk 2 r)) (lu (nD a 4 [.slice (ad b5) ([(⟨(⟨#[80]⟩:BA),([(⟨#[120]⟩:BA),(⟨#[121]⟩:BA)]:List BA)⟩:Gr)]:List Gr).length 1,Z e p j] r uI r r) fun dn a=>?_)))
 refine n (kP ?_)
 replace a:=a.fz 3 3 r r
 replace a:=a.fz 0 2 r r
 obtain rfl:=sm R
 refine jC r (uN r BJ r uI r (a.bk 2 r)) ?_
 exact ⟨(ad b5),1,e,j,r,(a.ad [] [1,0])⟩
end
end Go.Proofs.Ytfglbdkfnphjgaa
