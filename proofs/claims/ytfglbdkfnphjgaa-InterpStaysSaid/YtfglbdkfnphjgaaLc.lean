/- Contracts, printed by gen3.py. -/
import Derived.Test.YtfglbdkfnphjgaaZ5
import Derived.Test.YtfglbdkfnphjgaaLa
set_option linter.unusedVariables false
set_option maxHeartbeats 12800000
set_option linter.unusedSimpArgs false
set_option maxRecDepth 4000
namespace Go.Proofs.Ytfglbdkfnphjgaa
open Go.RowKit Go.Fw
noncomputable section
def JN (m:Gm→jM→Option (BA × Gm)):Prop:=∀ {G:World} {I:Nat→Prop} {B:Gm} {c:jM} {F:Nat} {d:Nat} {a:Option Addr} {b:Nat} {t:Option Addr} {u:Nat} {e:Option Addr} {h:Nat} {x:List (List Value)} {C:Nat} {i:Option Addr} {j:Nat} {z:List (List Value)} {D:Nat} {k:Option Addr} {o:Nat} {A:List (List Value)} {E:Nat} {R:BA × Gm},Pre G I [.box F 135 #[Pt d,V B.f,V B.e,Z t B.d u,Z e B.a h,Z i B.c j,Z k B.b o,V B.g,V B.h],.box d 132 #[Z a c.l b,V c.a],O C e h 9 BA x,O D i j 9 BA z,O E k o 9 BA A] [.l a b c.l,.l t u B.d,.els x B.a,.els z B.c,.els A B.b]→C≤G.heap.size→D≤G.heap.size→E≤G.heap.size→m B c=some R→
 Calls Try.prog 86 #[Pt F] G (qW fun v w=>jy R fun H p=>v=T H∧Bx G w I (lT [.box F 135 #[Pt d,V B.f,V B.e,Z t B.d u,Z e B.a h,Z i B.c j,Z k B.b o,V B.g,V B.h],.box d 132 #[Z a c.l b,V c.a],O C e h 9 BA x,O D i j 9 BA z,O E k o 9 BA A]) [.box F 135 #[Pt d,V p.f,V p.e,Z t p.d u,Z e p.a h,Z i p.c j,Z k p.b o,V p.g,V p.h],.box d 132 #[Z a c.l b,V c.a],O C e h 9 BA x,O D i j 9 BA z,O E k o 9 BA A] [.l a b c.l,.l t u p.d,.els x p.a,.els z p.c,.els A p.b])
def um (fu:Nat)(a:Gm) (c:jM):Option (BA × Gm):=
 (ru fu (wr (a.g+1))).bind fun b=>
 (cat (⟨#[118]⟩:BA) b).bind fun d=>
 some (d,(⟨a.f,a.e,a.d,a.a,a.c,a.b,(wr (a.g+1)),a.h⟩:Gm))
theorem AP (fu:Nat):JN (um fu):=by
 intro S a0 a w F b o p t u c d x z e h A B j m C D R L H I J E
 unfold um at E
 have v:=L.bx
 clear L
 generalize U:lT _=G at v ⊢
 refine cf Try.func86 r (lK [(0,Pt F)] ⟨r,y⟩ fun a1=>q (g (s (mF r) (n (q (g (s (mp r) (s (xn r) (s (D7 r) (s (l3 r (v.bk 0 r) r) (s (kE r r) (s (xn r) (s (D7 r) (lg (t_n v 0 [V (wr (a.g+1))] r nO r r) fun W v=>n (q (g (s (mp r) (s (xn r) (s (D7 r) (s (l3 r (v.bk 0 r) r) ?_))))))))))))))))))))
 obtain ⟨M,N,E⟩:=bs E
 have hc:=(zZ fu) (v.pr [] [0,1,2,3,4] [] r)  N
 refine sc (ec Io r) hc ?_
 rintro _ X ⟨rfl,Q⟩
 replace v:=v.cn [] [0,1,2,3,4] Q
 obtain ⟨Y,K,E⟩:=bs E
 refine s (lM r r K) (s (mF r) (n (kT ?_)))
 obtain rfl:=sm E
 exact jI r (lq r) (mM (⟨r,v⟩))
abbrev uE:=lD→jM→Int→Option (jB × lD × jM)
abbrev qA:=lD→jM→Int→Option (jB × lD × jM)
def yL (m:Gm→jM→Int→Option (Ge × Gm × jM)):Prop:=∀ {K:World} {M:Nat→Prop} {A:Gm} {B:jM} {L:Int} {I:Nat} {c:Nat} {a:Option Addr} {b:Nat} {p:Option Addr} {t:Nat} {d:Option Addr} {e:Nat} {u:List (List Value)} {C:Nat} {h:Option Addr} {i:Nat} {x:List (List Value)} {D:Nat} {j:Option Addr} {k:Nat} {z:List (List Value)} {E:Nat} {R:Ge × Gm × jM},Pre K M [.box I 135 #[Pt c,V A.f,V A.e,Z p A.d t,Z d A.a e,Z h A.c i,Z j A.b k,V A.g,V A.h],.box c 132 #[Z a B.l b,V B.a],O C d e 9 BA u,O D h i 9 BA x,O E j k 9 BA z] [.l a b B.l,.l p t A.d,.els u A.a,.els x A.c,.els z A.b]→C≤K.heap.size→D≤K.heap.size→E≤K.heap.size→m A B L=some R→
 Calls Try.prog 83 #[Pt I,V L] K (qW fun v w=>jy R fun J R=>jy R fun o F=>∃ (G:OA)(H:Nat),v=.agg #[V J.e,V J.d,V J.g,T J.b,T J.c,Z G J.a H]∧Bx K w M (lT [.box I 135 #[Pt c,V A.f,V A.e,Z p A.d t,Z d A.a e,Z h A.c i,Z j A.b k,V A.g,V A.h],.box c 132 #[Z a B.l b,V B.a],O C d e 9 BA u,O D h i 9 BA x,O E j k 9 BA z]) [.box I 135 #[Pt c,V o.f,V o.e,Z p o.d t,Z d o.a e,Z h o.c i,Z j o.b k,V o.g,V o.h],.box c 132 #[Z a F.l b,V F.a],O C d e 9 BA u,O D h i 9 BA x,O E j k 9 BA z] [.l G H J.a,.l a b F.l,.l p t o.d,.els u o.a,.els x o.c,.els z o.b])
def uD (m:Gm→jM→Int→Option (Ge × Gm × jM)):Prop:=∀ {K:World} {M:Nat→Prop} {A:Gm} {B:jM} {L:Int} {I:Nat} {c:Nat} {a:Option Addr} {b:Nat} {p:Option Addr} {t:Nat} {d:Option Addr} {e:Nat} {u:List (List Value)} {C:Nat} {h:Option Addr} {i:Nat} {x:List (List Value)} {D:Nat} {j:Option Addr} {k:Nat} {z:List (List Value)} {E:Nat} {R:Ge × Gm × jM},Pre K M [.box I 135 #[Pt c,V A.f,V A.e,Z p A.d t,Z d A.a e,Z h A.c i,Z j A.b k,V A.g,V A.h],.box c 132 #[Z a B.l b,V B.a],O C d e 9 BA u,O D h i 9 BA x,O E j k 9 BA z] [.l a b B.l,.l p t A.d,.els u A.a,.els x A.c,.els z A.b]→C≤K.heap.size→D≤K.heap.size→E≤K.heap.size→m A B L=some R→
 Calls Try.prog 110 #[Pt I,V L] K (qW fun v w=>jy R fun J R=>jy R fun o F=>∃ (G:OA)(H:Nat),v=.agg #[V J.e,V J.d,V J.g,T J.b,T J.c,Z G J.a H]∧Bx K w M (lT [.box I 135 #[Pt c,V A.f,V A.e,Z p A.d t,Z d A.a e,Z h A.c i,Z j A.b k,V A.g,V A.h],.box c 132 #[Z a B.l b,V B.a],O C d e 9 BA u,O D h i 9 BA x,O E j k 9 BA z]) [.box I 135 #[Pt c,V o.f,V o.e,Z p o.d t,Z d o.a e,Z h o.c i,Z j o.b k,V o.g,V o.h],.box c 132 #[Z a F.l b,V F.a],O C d e 9 BA u,O D h i 9 BA x,O E j k 9 BA z] [.l G H J.a,.l a b F.l,.l p t o.d,.els u o.a,.els x o.c,.els z o.b])
def xV (fu:Nat)(r_kit_expr:uE) (r_kit_element:qA) (b:Int)(a:Int):Option (Ld (Bool) (Ge × Gm × jM)):=
 if 3≤b then
  some (.go true)
 else
  some (.go (decide (a < 3)))
def xX (fu:Nat)(r_kit_expr:uE) (r_kit_element:qA) (b:Gm) (a:Int):Option (Ld (Bool) (Ge × Gm × jM)):=
 if a < 8 then
  some (.go (decide (0 < (b.a.length:Int))))
 else
  some (.go false)
def yB (fu:Nat)(r_kit_expr:uE) (r_kit_element:qA) (b:Gm) (a:Int):Option (Ld (Bool) (Ge × Gm × jM)):=
 if a=8 then
  some (.go (decide (0 < (b.c.length:Int))))
 else
  some (.go false)
def yc (fu:Nat)(r_kit_expr:uE) (r_kit_element:qA) (b:Gm) (a:Int):Option (Ld (Bool) (Ge × Gm × jM)):=
 if a=9 then
  some (.go (decide (0 < (b.b.length:Int))))
 else
  some (.go false)
def zG (fu:Nat)(r_kit_expr:uE) (r_kit_element:qA) (c:Gm) (J:jM) (K:Int):Option (Ge × Gm × jM):=
 (kF fu J 16).bind fun W=>
 jy W fun b a=>
 (xV fu r_kit_expr r_kit_element K b).bind fun W=>W.el (fun L=>
 if L=true then
  (xq fu a).bind fun W=>
  jy W fun M N=>
  (rX fu M).bind fun P=>
  some (P,c,N)
 else
  (xX fu r_kit_expr r_kit_element c b).bind fun W=>W.el (fun Q=>
  if Q=true then
   (kF fu a (c.a.length:Int)).bind fun W=>
   jy W fun d e=>
   (ix c.a d).bind fun R=>
   (nQ fu R).bind fun f=>
   some (f,c,e)
  else
   (yB fu r_kit_expr r_kit_element c b).bind fun W=>W.el (fun h=>
   if h=true then
    (kF fu a (c.c.length:Int)).bind fun W=>
    jy W fun i j=>
    (ix c.c i).bind fun S=>
    (kF fu j 2).bind fun W=>
    jy W fun k l=>
    (ix ([(⟨#[120]⟩:BA),(⟨#[121]⟩:BA)]:List BA) k).bind fun U=>
    some ((⟨2,0,0,S,U,([]:List Ge)⟩:Ge),c,l)
   else
    (yc fu r_kit_expr r_kit_element c b).bind fun W=>W.el (fun m=>
    if m=true then
     (r_kit_element c a (wr (K+1))).bind fun W=>
     jy W fun p W=>jy W fun t u=>
     some (p,t,u)
    else
     if b=10 then
      (kF fu a 2).bind fun W=>
      jy W fun v w=>
      (r_kit_expr c w (wr (K+1))).bind fun W=>
      jy W fun x W=>jy W fun z A=>
      some ((⟨(wr (4+v)),0,0,be,be,([x]:List Ge)⟩:Ge),z,A)
     else
      (kF fu a 12).bind fun W=>
      jy W fun B C=>
      (r_kit_expr c C (wr (K+1))).bind fun W=>
      jy W fun D W=>jy W fun E F=>
      (r_kit_expr E F (wr (K+1))).bind fun W=>
      jy W fun G W=>jy W fun H I=>
      some ((⟨(wr (6+B)),0,0,be,be,([D,G]:List Ge)⟩:Ge),H,I)
    ) (fun o=>some o)
   ) (fun o=>some o)
  ) (fun o=>some o)
 ) (fun o=>some o)
def uZ (fu:Nat)(r_kit_expr:uE) (r_kit_element:qA) (m:Gm) (e:jM) (p:Int):Option (Ge × Gm × jM):=
 (kF fu e (m.b.length:Int)).bind fun t=>
 jy t fun f h=>
 (ix m.b f).bind fun o=>
 (kF fu h 3).bind fun t=>
 jy t fun i a=>
 if 0 < i then
  (kF fu a 3).bind fun t=>
  jy t fun j k=>
  (rX fu j).bind fun l=>
  some ((⟨3,0,0,o,be,([l]:List Ge)⟩:Ge),m,k)
 else
  (r_kit_expr m a p).bind fun t=>
  jy t fun b t=>jy t fun c d=>
  some ((⟨3,0,0,o,be,([b]:List Ge)⟩:Ge),c,d)
def uQ:Nat→(Gm→jM→Int→Option (Ge × Gm × jM)) × (Gm→jM→Int→Option (Ge × Gm × jM))
 | 0=>((fun _ _ _=>none),(fun _ _ _=>none))
 | fu+1=>(zG fu ((uQ fu).1) ((uQ fu).2),uZ fu ((uQ fu).1) ((uQ fu).2))
def l8 (fu:Nat):=(uQ fu).1
def mW (fu:Nat):=(uQ fu).2
theorem KL (fu:Nat)(r_kit_expr:uE) (r_kit_element:qA) (H_kit_expr:yL r_kit_expr) (H_kit_element:uD r_kit_element):yL (zG fu r_kit_expr r_kit_element):=by
 intro w0 co j aC x1 a7 p m o D E t u F U v x H W z A I X R hP a4 a5 a6 c
 unfold zG at c
 have a:=hP.bx
 clear hP
 generalize hG:lT _=G at a ⊢
 refine cf Try.func83 r (lK [(0,Pt a7),(1,V x1)] ⟨r,r,y⟩ fun cp=>q (g (tu a (jV jU) fun w1 b1 a=>n (q (g (s (mp r) (s (xn r) (s (oO r) (s (xG r (a.bk 1 r) r) ?_)))))))))
 obtain ⟨ak,N,h2,c⟩:=lZ c
 have hc:=(jW fu) (a.pr [2] [0,1,3,4,5] [0] r)  h2
 refine sc (ec nW r) hc ?_
 rintro _ w2 ⟨rfl,S⟩
 replace a:=a.cn [2] [0,1,3,4,5] S
 refine s (xi r) (n (q (oM (q ?_))))
 obtain ⟨Y3,ap,c⟩:=bs c
 refine oq (fun f w=>∃ (ar:Bool),Has f [(0,Pt a7),(1,V x1),(4,Pt b1),(5,V ak),(13,.bool ar)]∧Bx w0 w co G [.box p 132 #[Z m N.l o,V N.a],.box b1 138 #[V 0,V 0,V 0,T be,T be,sn],.box a7 135 #[Pt p,V j.f,V j.e,Z D j.d E,Z t j.a u,Z v j.c x,Z z j.b A,V j.g,V j.h],O U t u 9 BA F,O W v x 9 BA H,O X z A 9 BA I] [.l m o N.l,.l D E j.d,.els F j.a,.els H j.c,.els I j.b]∧Ld.go ar=Y3) (fun J3 aP=>?_) ?_
 ·unfold xV at ap
  refine g (s (mi r) (s (Bq r r) (s (kL r) ?_)))
  rcases iv ap with ⟨h4,ap⟩|⟨h4,ap⟩
  ·rw [decide_eq_true h4]
   exact jC r (jC r (s (kr r r) (s (kC r) (n (aP _ _ ⟨true,⟨r,r,r,r,r,y⟩,(a.dp [0,2,3,4,5]),sm ap⟩)))))
  rw [decide_eq_false h4]
  exact kg r (s (mi r) (kg r (s (qo r r) (s (jY r r) (s (kC r) (n (aP _ _ ⟨(decide (ak < 3)),⟨r,r,r,r,r,y⟩,(a.dp [0,2,3,4,5]),sm ap⟩)))))))
 clear a
 rintro f w ⟨ar,hf,a,aY⟩
 obtain ⟨cp,rfl⟩:=iA _ _ hf
 clear hf
 subst aY
 replace c:=gi c
 rcases iv c with ⟨h5,c⟩|⟨h5,c⟩
 ·refine jN (cb h5) (q (g (s (mp r) (s (xn r) (s (oO r) (s (xG r (a.bk 2 r) r) ?_))))))
  obtain ⟨bA,bB,h6,c⟩:=lZ c
  have hc:=(Hl fu) (a.pr [0] [1,2,3,4,5] [0] r)  h6
  refine sc (ec Ue r) hc ?_
  rintro _ w6 ⟨rfl,S⟩
  replace a:=a.cn [0] [1,2,3,4,5] S
  obtain ⟨Q,h7,c⟩:=bs c
  have hc:=(qP fu) (a.pr [] [0,1,2,3,4,5] [] r)  h7
  refine sc (ec Cu r) hc ?_
  rintro _ w7 ⟨a8,a9,rfl,S⟩
  replace a:=a.cn [] [0,1,2,3,4,5] S
  refine lg (nX a 1 [V Q.e,V Q.d,V Q.g,T Q.b,T Q.c,Z a8 Q.a a9] r jU r r) fun w8 a=>n (kT ?_)
  obtain rfl:=sm c
  exact jI r (tV r mV r jU r (a.bk 1 r)) (mM (mM (⟨a8,a9,r,(a.ad [2,0,3,4,5] [0,1,3,4,5,6])⟩)))
 replace h5:=nt h5
 refine jK (cb h5) (q ?_)
 obtain ⟨Y9,aq,c⟩:=bs c
 refine oq (fun f w=>∃ (au:Bool),Has f [(0,Pt a7),(1,V x1),(4,Pt b1),(5,V ak),(26,.bool au)]∧Bx w0 w co G [.box p 132 #[Z m N.l o,V N.a],.box b1 138 #[V 0,V 0,V 0,T be,T be,sn],.box a7 135 #[Pt p,V j.f,V j.e,Z D j.d E,Z t j.a u,Z v j.c x,Z z j.b A,V j.g,V j.h],O U t u 9 BA F,O W v x 9 BA H,O X z A 9 BA I] [.l m o N.l,.l D E j.d,.els F j.a,.els H j.c,.els I j.b]∧Ld.go au=Y9) (fun J9 aR=>?_) ?_
 ·unfold xX at aq
  refine g (s (mi r) (s (qo r r) (s (kL r) ?_)))
  rcases iv aq with ⟨aG,aq⟩|⟨aG,aq⟩
  ·rw [decide_eq_true aG]
   exact kg r (s (mp r) (kg r (s (xn r) (kg r (s (mQ r) (kg r (s (zM r (a.bk 2 r) r) (kg r (s (lX kQ r) (kg r (s (uX r r) (s (kr r r) (s (kC r) (n (aR _ _ ⟨(decide (0 < (j.a.length:Int))),⟨r,r,r,r,r,y⟩,a,sm aq⟩)))))))))))))))
  rw [decide_eq_false aG]
  exact jC r (jC r (jC r (jC r (jC r (jC r (s (jY r r) (s (kC r) (n (aR _ _ ⟨false,⟨r,r,r,r,r,y⟩,a,sm aq⟩)))))))))
 clear a
 rintro f w ⟨au,hf,a,aZ⟩
 obtain ⟨cp,rfl⟩:=iA _ _ hf
 clear hf
 subst aZ
 replace c:=gi c
 rcases iv c with ⟨av,c⟩|⟨av,c⟩
 ·refine jN (cb av) (q (pX a [2,3] [2] [] (by kernel_rfl) ?_))
  replace a:=a.drew
  have e:=(a.ad [2,3] [2])
  refine pF 0 r (mp r) e (pF 1 r (xn r) e (pF 2 r (mQ r) e (uF 3 r (fun hS=>zM r (hS.bk 0 r) r) e (pF 4 r (mp r) e (pF 5 r (xn r) e (pF 6 r (oO r) e (uF 7 r (fun hS=>xG r (hS.bk 0 r) r) e (pF 8 r (mp r) e (pF 9 r (xn r) e (pF 10 r (mQ r) e (uF 11 r (fun hS=>zM r (hS.bk 0 r) r) e (pF 12 r (lX kQ r) e ?_))))))))))))
  obtain ⟨b0,b2,b3,c⟩:=lZ c
  have hc:=(jW fu) (a.pr [0] [1,2,3,4,5] [0] r)  b3
  refine hO 13 (oc r r (ec nW r) hc ?_)
  rintro _ bH ⟨rfl,S⟩
  replace a:=a.cn [0] [1,2,3,4,5] S
  have e:=(a.ad [2,3] [3])
  refine ⟨(sF e),?_⟩
  obtain ⟨b4,ao,c⟩:=bs c
  obtain ⟨bI,aS,ao⟩:=kJ ao
  refine pF 14 r (kW kQ oQ r r aS (a.vw 3 3 r r) ao) e (tU 15 r (fun _ hS=>jT uq r r ((uy (ds:=[T b4]) (hS.vw 1 0 r r) ao (fun _ h=>h)) 0 _ r)) (sF e) ?_)
  obtain ⟨B,b5,c⟩:=bs c
  have hc:=(oL fu) (a.pr [] [0,1,2,3,4,5] [] r)  b5
  refine hO 16 (oc r r (ec D9 r) hc ?_)
  rintro _ bJ ⟨Y,a0,rfl,S⟩
  replace a:=a.cn [] [0,1,2,3,4,5] S
  have e:=(a.ad [2,3] [4])
  refine ⟨(sF e),(hO 17 (os r r (nX a 1 [V B.e,V B.d,V B.g,T B.b,T B.c,Z Y B.a a0] r jU r r) fun bK a=>?_))⟩
  have e:=(a.ad [2,3] [4])
  refine ⟨(sF e),(hD (kT ?_))⟩
  obtain rfl:=sm c
  exact jI r (tV r mV r jU r (a.bk 1 r)) (mM (mM (⟨Y,a0,r,(a.ad [2,0,3,4,5] [0,1,3,4,5,6])⟩)))
 replace av:=nt av
 refine jK (cb av) (q ?_)
 obtain ⟨b6,ab,c⟩:=bs c
 refine oq (fun f w=>∃ (al:Bool),Has f [(0,Pt a7),(1,V x1),(4,Pt b1),(5,V ak),(54,.bool al)]∧Bx w0 w co G [.box p 132 #[Z m N.l o,V N.a],.box b1 138 #[V 0,V 0,V 0,T be,T be,sn],.box a7 135 #[Pt p,V j.f,V j.e,Z D j.d E,Z t j.a u,Z v j.c x,Z z j.b A,V j.g,V j.h],O U t u 9 BA F,O W v x 9 BA H,O X z A 9 BA I] [.l m o N.l,.l D E j.d,.els F j.a,.els H j.c,.els I j.b]∧Ld.go al=b6) (fun bL aD=>?_) ?_
 ·unfold yB at ab
  refine g (s (mi r) (s (kD r r) (s (kL r) ?_)))
  rcases iv ab with ⟨aH,ab⟩|⟨aH,ab⟩
  ·rw [decide_eq_true aH]
   exact kg r (s (mp r) (kg r (s (xn r) (kg r (s (qh r) (kg r (s (zM r (a.bk 2 r) r) (kg r (s (lX kQ r) (kg r (s (uX r r) (s (kr r r) (s (kC r) (n (aD _ _ ⟨(decide (0 < (j.c.length:Int))),⟨r,r,r,r,r,y⟩,a,sm ab⟩)))))))))))))))
  rw [decide_eq_false aH]
  exact jC r (jC r (jC r (jC r (jC r (jC r (s (jY r r) (s (kC r) (n (aD _ _ ⟨false,⟨r,r,r,r,r,y⟩,a,sm ab⟩)))))))))
 clear a
 rintro f w ⟨al,hf,a,aT⟩
 obtain ⟨cp,rfl⟩:=iA _ _ hf
 clear hf
 subst aT
 replace c:=gi c
 rcases iv c with ⟨aw,c⟩|⟨aw,c⟩
 ·refine jN (cb aw) (q ?_)
  obtain ⟨b7,b8,aU,c⟩:=lZ c
  obtain ⟨aj,ac,c⟩:=bs c
  obtain ⟨bM,aE,ac⟩:=kJ ac
  obtain ⟨b9,am,aI,c⟩:=lZ c
  obtain ⟨aa,a3,c⟩:=bs c
  obtain ⟨bN,ax,a3⟩:=kJ a3
  refine oq (fun f w=>Has f [(4,Pt b1)]∧Bx w0 w co G [.box p 132 #[Z m am.l o,V am.a],.box b1 138 #[V 2,V 0,V 0,T aj,T aa,sn],.box a7 135 #[Pt p,V j.f,V j.e,Z D j.d E,Z t j.a u,Z v j.c x,Z z j.b A,V j.g,V j.h],O U t u 9 BA F,O W v x 9 BA H,O X z A 9 BA I] [.l D E j.d,.els F j.a,.els H j.c,.els I j.b,.l m o am.l]) (fun Jd hJd=>?_) ?_
  ·refine pX a [2,4] [3] [] (by kernel_rfl) ?_
   replace a:=a.drew
   have e:=(a.ad [2,4] [3])
   refine pF 0 r (mp r) e (pF 1 r (xn r) e (pF 2 r (qh r) e (uF 3 r (fun hS=>zM r (hS.bk 0 r) r) e (pF 4 r (mp r) e (pF 5 r (xn r) e (pF 6 r (oO r) e (uF 7 r (fun hS=>xG r (hS.bk 0 r) r) e (pF 8 r (mp r) e (pF 9 r (xn r) e (pF 10 r (qh r) e (uF 11 r (fun hS=>zM r (hS.bk 0 r) r) e (pF 12 r (lX kQ r) e (pF 17 r (mp r) e (pF 18 r (xn r) e (pF 19 r (oO r) e (uF 20 r (fun hS=>xG r (hS.bk 0 r) r) e (mH 13 [16] (by kernel_rfl) (jL ?_ (jL ?_ lH)))))))))))))))))))
   ·have hc:=(jW fu) (a.pr [0] [1,2,3,4,5] [0] r)  aU
    refine oc r r (ec nW r) hc ?_
    rintro _ ba ⟨rfl,S⟩
    replace a:=a.cn [0] [1,2,3,4,5] S
    have e:=(a.ad [2,4] [4])
    refine ⟨(sF e),(pF 14 r (kW kQ oQ r r aE (a.vw 4 4 r r) ac) e (tU 15 r (fun _ hS=>jT uq r r ((uy (ds:=[T aj]) (hS.vw 1 0 r r) ac (fun _ h=>h)) 0 _ r)) (sF e) (mH 16 [21] (by kernel_rfl) (jL ?_ (jL ?_ lH)))))⟩
    ·refine oo r r (jP a [[T (⟨#[120]⟩:BA)],[T (⟨#[121]⟩:BA)]] ([(⟨#[120]⟩:BA),(⟨#[121]⟩:BA)]:List BA) (vC r r) r r (by decide) ⟨r,⟨r,y⟩⟩) ?_
     rintro _ bO ⟨bP,rfl,a⟩
     have e:=(a.ad [3,5] [5])
     refine ⟨(sF e),?_⟩
     have hc:=(jW fu) (a.pr [1] [0,2,3,4,5,6] [1] r)  aI
     refine hO 21 (oc r r (ec nW r) hc ?_)
     rintro _ aV ⟨rfl,S⟩
     replace a:=a.cn [1] [0,2,3,4,5,6] S
     have e:=(a.ad [3,5] [6])
     refine ⟨(sF e),(pF 22 r (kW kQ oQ r r ax (a.vw 1 1 r r) a3) e (hO 23 (uH r r (jT uq r r ((uy (ds:=[T aa]) (a.vw 1 1 r r) a3 (fun _ h=>h)) 0 _ r)) (sF e) (pF 24 r (uG r r r) e (hO 25 (os r r (nX a 2 [V 2,V 0,V 0,T aj,T aa,sn] r jU r r) fun bQ a=>?_))))))⟩
     have e:=(a.ad [3,5] [6])
     exact ⟨(sF e),(hD (hJd _ _ ⟨⟨r,y⟩,(a.ad [0,2,3,4,5,6] [4,5,6,7,0])⟩))⟩
    have hc:=(jW fu) (a.pr [0] [1,2,3,4,5] [0] r)  aI
    refine oc r r (ec nW r) hc ?_
    rintro _ aV ⟨rfl,S⟩
    replace a:=a.cn [0] [1,2,3,4,5] S
    have e:=(a.ad [2,4] [5])
    refine ⟨(sF e),(hO 16 (oo r r (jP a [[T (⟨#[120]⟩:BA)],[T (⟨#[121]⟩:BA)]] ([(⟨#[120]⟩:BA),(⟨#[121]⟩:BA)]:List BA) (vC r r) r r (by decide) ⟨r,⟨r,y⟩⟩) ?_))⟩
    rintro _ bR ⟨bS,rfl,a⟩
    have e:=(a.ad [3,5] [6])
    refine ⟨(sF e),(pF 22 r (kW kQ oQ r r ax (a.vw 0 0 r r) a3) e (hO 23 (uH r r (jT uq r r ((uy (ds:=[T aa]) (a.vw 0 0 r r) a3 (fun _ h=>h)) 0 _ r)) (sF e) (pF 24 r (uG r r r) e (hO 25 (os r r (nX a 2 [V 2,V 0,V 0,T aj,T aa,sn] r jU r r) fun bT a=>?_))))))⟩
    have e:=(a.ad [3,5] [6])
    exact ⟨(sF e),(hD (hJd _ _ ⟨⟨r,y⟩,(a.ad [1,2,3,4,5,6] [4,5,6,7,1])⟩))⟩
   refine oo r r (jP a [[T (⟨#[120]⟩:BA)],[T (⟨#[121]⟩:BA)]] ([(⟨#[120]⟩:BA),(⟨#[121]⟩:BA)]:List BA) (vC r r) r r (by decide) ⟨r,⟨r,y⟩⟩) ?_
   rintro _ bU ⟨bV,rfl,a⟩
   have e:=(a.ad [3,5] [4])
   refine ⟨(sF e),?_⟩
   have hc:=(jW fu) (a.pr [1] [0,2,3,4,5,6] [1] r)  aU
   refine hO 13 (oc r r (ec nW r) hc ?_)
   rintro _ ba ⟨rfl,S⟩
   replace a:=a.cn [1] [0,2,3,4,5,6] S
   have e:=(a.ad [3,5] [5])
   refine ⟨(sF e),(pF 14 r (kW kQ oQ r r aE (a.vw 5 5 r r) ac) e (tU 15 r (fun _ hS=>jT uq r r ((uy (ds:=[T aj]) (hS.vw 1 0 r r) ac (fun _ h=>h)) 0 _ r)) (sF e) ?_))⟩
   have hc:=(jW fu) (a.pr [0] [1,2,3,4,5,6] [0] r)  aI
   refine hO 21 (oc r r (ec nW r) hc ?_)
   rintro _ aV ⟨rfl,S⟩
   replace a:=a.cn [0] [1,2,3,4,5,6] S
   have e:=(a.ad [3,5] [6])
   refine ⟨(sF e),(pF 22 r (kW kQ oQ r r ax (a.vw 1 2 r r) a3) e (hO 23 (uH r r (jT uq r r ((uy (ds:=[T aa]) (a.vw 1 2 r r) a3 (fun _ h=>h)) 0 _ r)) (sF e) (pF 24 r (uG r r r) e (hO 25 (os r r (nX a 2 [V 2,V 0,V 0,T aj,T aa,sn] r jU r r) fun bW a=>?_))))))⟩
   have e:=(a.ad [3,5] [6])
   exact ⟨(sF e),(hD (hJd _ _ ⟨⟨r,y⟩,(a.ad [0,2,3,4,5,6] [4,5,6,7,0])⟩))⟩
  clear a
  rintro f w ⟨hf,a⟩
  obtain ⟨cp,rfl⟩:=iA _ _ hf
  clear hf
  refine kT ?_
  replace a:=a.ku (d:=.l none 0 ([]:List Ge)) om
  obtain rfl:=sm c
  exact jI r (tV r mV r jU r (a.bk 1 r)) (mM (mM (⟨none,0,r,(a.ad [2,0,3,4,5] [0,5,1,2,3,4])⟩)))
 replace aw:=nt aw
 refine jK (cb aw) (q ?_)
 obtain ⟨bb,ae,c⟩:=bs c
 refine oq (fun f w=>∃ (an:Bool),Has f [(0,Pt a7),(1,V x1),(4,Pt b1),(5,V ak),(90,.bool an)]∧Bx w0 w co G [.box p 132 #[Z m N.l o,V N.a],.box b1 138 #[V 0,V 0,V 0,T be,T be,sn],.box a7 135 #[Pt p,V j.f,V j.e,Z D j.d E,Z t j.a u,Z v j.c x,Z z j.b A,V j.g,V j.h],O U t u 9 BA F,O W v x 9 BA H,O X z A 9 BA I] [.l m o N.l,.l D E j.d,.els F j.a,.els H j.c,.els I j.b]∧Ld.go an=bb) (fun bX aF=>?_) ?_
 ·unfold yc at ae
  refine g (s (mi r) (s (kD r r) (s (kL r) ?_)))
  rcases iv ae with ⟨aJ,ae⟩|⟨aJ,ae⟩
  ·rw [decide_eq_true aJ]
   exact kg r (s (mp r) (kg r (s (xn r) (kg r (s (qQ r) (kg r (s (zM r (a.bk 2 r) r) (kg r (s (lX kQ r) (kg r (s (uX r r) (s (kr r r) (s (kC r) (n (aF _ _ ⟨(decide (0 < (j.b.length:Int))),⟨r,r,r,r,r,y⟩,a,sm ae⟩)))))))))))))))
  rw [decide_eq_false aJ]
  exact jC r (jC r (jC r (jC r (jC r (jC r (s (jY r r) (s (kC r) (n (aF _ _ ⟨false,⟨r,r,r,r,r,y⟩,a,sm ae⟩)))))))))
 clear a
 rintro f w ⟨an,hf,a,aW⟩
 obtain ⟨cp,rfl⟩:=iA _ _ hf
 clear hf
 subst aW
 replace c:=gi c
 rcases iv c with ⟨ay,c⟩|⟨ay,c⟩
 ·refine jN (cb ay) (q (g (s (mp r) (s (mi r) (s (kE r r) ?_)))))
  obtain ⟨C,bc,bd,bg,c⟩:=vD c
  have hc:=H_kit_element (a.pr [2,0,3,4,5] [1] [0,1,2,3,4] r) (a.le a4) (a.le a5) (a.le a6) bg
  refine sc (ec PN r) hc ?_
  rintro _ bY ⟨a1,a2,rfl,S⟩
  replace a:=a.cn [2,0,3,4,5] [1] S
  refine lg (nX a 5 [V C.e,V C.d,V C.g,T C.b,T C.c,Z a1 C.a a2] r jU r r) fun bZ a=>n (kT ?_)
  obtain rfl:=sm c
  exact jI r (tV r mV r jU r (a.bk 5 r)) (mM (mM (⟨a1,a2,r,(a.ad [0,1,2,3,4] [0,1,2,3,4,5])⟩)))
 replace ay:=nt ay
 refine jK (cb ay) (q (g (s (mi r) (s (kD r r) (s (kC r) (n ?_))))))
 rcases iv c with ⟨aK,c⟩|⟨aK,c⟩
 ·refine jN (bt aK) (q (g (s (mp r) (s (xn r) (s (oO r) (s (xG r (a.bk 2 r) r) ?_))))))
  obtain ⟨az,bh,bi,c⟩:=lZ c
  have hc:=(jW fu) (a.pr [0] [1,2,3,4,5] [0] r)  bi
  refine sc (ec nW r) hc ?_
  rintro _ c0 ⟨rfl,S⟩
  replace a:=a.cn [0] [1,2,3,4,5] S
  refine s (kE r r) (s (mp r) (s (mi r) (s (kE r r) ?_)))
  obtain ⟨L,bj,bl,bm,c⟩:=vD c
  have hc:=H_kit_expr (a.pr [2,0,3,4,5] [1] [0,2,3,4,5] r) (a.le a4) (a.le a5) (a.le a6) bm
  refine sc (ec Ag r) hc ?_
  rintro _ c1 ⟨af,ag,rfl,S⟩
  replace a:=a.cn [2,0,3,4,5] [1] S
  refine nU (jP a [[V L.e,V L.d,V L.g,T L.b,T L.c,Z af L.a ag]] ([L]:List Ge) (kS r) r r (by decide) ⟨(jB.inn ⟨af,ag,r,(a.dl 0 r)⟩),y⟩) ?_
  rintro _ c2 ⟨aL,rfl,a⟩
  refine s (tC r r) (lg (nX a 6 [V (wr (4+az)),V 0,V 0,T be,T be,.slice (ad aL) ([L]:List Ge).length 1] r jU r r) fun c3 a=>n (kT ?_))
  replace a:=a.fz 0 0 r r
  obtain rfl:=sm c
  exact jI r (tV r mV r jU r (a.bk 5 r)) (mM (mM (⟨(ad aL),1,r,(a.ad [0,1,2,3,4] [0,2,3,4,5,6])⟩)))
 refine jK (bf aK) (wk (q (g (s (mp r) (s (xn r) (s (oO r) (s (xG r (a.bk 2 r) r) ?_)))))))
 obtain ⟨aA,bn,bo,c⟩:=lZ c
 have hc:=(jW fu) (a.pr [0] [1,2,3,4,5] [0] r)  bo
 refine sc (ec nW r) hc ?_
 rintro _ c4 ⟨rfl,S⟩
 replace a:=a.cn [0] [1,2,3,4,5] S
 refine s (kE r r) (s (xi r) (n (q (g (s (mp r) (s (mi r) (s (kE r r) ?_)))))))
 obtain ⟨b,bp,bq,br,c⟩:=vD c
 have hc:=H_kit_expr (a.pr [2,0,3,4,5] [1] [0,2,3,4,5] r) (a.le a4) (a.le a5) (a.le a6) br
 refine sc (ec Ag r) hc ?_
 rintro _ c5 ⟨J,K,rfl,S⟩
 replace a:=a.cn [2,0,3,4,5] [1] S
 refine tu a (jV jU) fun c6 c7 a=>lg (nX a 0 [V b.e,V b.d,V b.g,T b.b,T b.c,Z J b.a K] r jU r r) fun c8 a=>n (q (pX a [0] [] [] (by kernel_rfl) ?_))
 replace a:=a.drew
 have e:=(a.ad [0] [])
 refine pF 0 r (mi r) e (uF 1 r (fun hS=>ng [V b.e,V b.d,V b.g,T b.b,T b.c,Z J b.a K] mV jU r (hS.bk 0 r)) e (pF 2 r (mp r) e (pF 3 r (mi r) e (pF 4 r (kE r r) e ?_))))
 obtain ⟨M,bu,bv,bw,c⟩:=vD c
 have hc:=H_kit_expr (a.pr [1,2,3,4,5] [0,6] [1,2,3,4,5] r) (a.le a4) (a.le a5) (a.le a6) bw
 refine hO 5 (oc r r (ec Ag r) hc ?_)
 rintro _ c9 ⟨ah,ai,rfl,S⟩
 replace a:=a.cn [1,2,3,4,5] [0,6] S
 have e:=(a.ad [5] [])
 refine ⟨(sF e),(hO 6 (oo r r (jP a [[V b.e,V b.d,V b.g,T b.b,T b.c,Z J b.a K],[V M.e,V M.d,V M.g,T M.b,T M.c,Z ah M.a ai]] ([b,M]:List Ge) (vS r r) r r (by decide) ⟨(jB.inn ⟨J,K,r,(a.dl 6 r)⟩),⟨(jB.inn ⟨ah,ai,r,(a.dl 0 r)⟩),y⟩⟩) ?_))⟩
 rintro _ cc ⟨aM,rfl,a⟩
 have e:=(a.ad [6] [])
 refine ⟨(sF e),(pF 7 r (tC r r) e (hO 8 (os r r (nX a 7 [V (wr (6+aA)),V 0,V 0,T be,T be,.slice (ad aM) ([b,M]:List Ge).length 2] r jU r r) fun cd a=>?_)))⟩
 have e:=(a.ad [6] [])
 refine ⟨(sF e),(hD (kT ?_))⟩
 replace a:=a.fz 0 0 r r
 obtain rfl:=sm c
 exact jI r (tV r mV r jU r (a.bk 6 r)) (mM (mM (⟨(ad aM),2,r,(a.ad [0,1,2,3,4] [0,2,3,4,5,6])⟩)))
theorem FI (fu:Nat)(r_kit_expr:uE) (r_kit_element:qA) (H_kit_expr:yL r_kit_expr) (H_kit_element:uD r_kit_element):uD (uZ fu r_kit_expr r_kit_element):=by
 intro w0 aA J K x1 a0 t u v L M w x N Q z A S U B C W X R hP D E F d
 unfold uZ at d
 have a:=hP.bx
 clear hP
 generalize hG:lT _=G at a ⊢
 refine cf Try.func110 r (lK [(0,Pt a0),(1,V x1)] ⟨r,r,y⟩ fun aB=>q (g (tu a (jV jU) fun w1 b1 a=>n (q (pX a [1,5] [4] [] (by kernel_rfl) ?_)))))
 replace a:=a.drew
 have m:=(a.ad [1,5] [4])
 refine pF 0 r (mp r) m (pF 1 r (xn r) m (pF 2 r (qQ r) m (uF 3 r (fun hS=>zM r (hS.bk 0 r) r) m (pF 4 r (mp r) m (pF 5 r (xn r) m (pF 6 r (oO r) m (uF 7 r (fun hS=>xG r (hS.bk 0 r) r) m (pF 8 r (mp r) m (pF 9 r (xn r) m (pF 10 r (qQ r) m (uF 11 r (fun hS=>zM r (hS.bk 0 r) r) m (pF 12 r (lX kQ r) m ?_))))))))))))
 obtain ⟨a9,aa,h2,d⟩:=lZ d
 have hc:=(jW fu) (a.pr [2] [0,1,3,4,5] [0] r)  h2
 refine hO 13 (oc r r (ec nW r) hc ?_)
 rintro _ w2 ⟨rfl,H⟩
 replace a:=a.cn [2] [0,1,3,4,5] H
 have m:=(a.ad [2,5] [5])
 refine ⟨(sF m),?_⟩
 obtain ⟨e3,I,d⟩:=bs d
 obtain ⟨k3,a2,I⟩:=kJ I
 refine pF 14 r (kW kQ oQ r r a2 (a.vw 5 5 r r) I) m (tU 15 r (fun _ hS=>jT uq r r ((uy (ds:=[T e3]) (hS.vw 1 0 r r) I (fun _ h=>h)) 0 _ r)) (sF m) (pF 16 r (mF r) m (hD (q (q (g (s (mp r) (s (xn r) (s (oO r) (s (xG r (a.bk 2 r) r) ?_))))))))))
 obtain ⟨ab,ac,h4,d⟩:=lZ d
 have hc:=(jW fu) (a.pr [0] [1,2,3,4,5] [0] r)  h4
 refine sc (ec nW r) hc ?_
 rintro _ w4 ⟨rfl,H⟩
 replace a:=a.cn [0] [1,2,3,4,5] H
 refine s (uX r r) (n ?_)
 rcases iv d with ⟨h5,d⟩|⟨h5,d⟩
 ·refine jN (bt h5) (q (g (s (kY r) (s (mp r) (s (xn r) (s (oO r) (s (xG r (a.bk 2 r) r) ?_)))))))
  obtain ⟨ae,af,h6,d⟩:=lZ d
  have hc:=(jW fu) (a.pr [0] [1,2,3,4,5] [0] r)  h6
  refine sc (ec nW r) hc ?_
  rintro _ w6 ⟨rfl,H⟩
  replace a:=a.cn [0] [1,2,3,4,5] H
  obtain ⟨c,h7,d⟩:=bs d
  have hc:=(qP fu) (a.pr [] [0,1,2,3,4,5] [] r)  h7
  refine sc (ec Cu r) hc ?_
  rintro _ w7 ⟨o,p,rfl,H⟩
  replace a:=a.cn [] [0,1,2,3,4,5] H
  refine nU (jP a [[V c.e,V c.d,V c.g,T c.b,T c.c,Z o c.a p]] ([c]:List Ge) (kS r) r r (by decide) ⟨(jB.inn ⟨o,p,r,(a.dl 0 r)⟩),y⟩) ?_
  rintro _ w8 ⟨b8,rfl,a⟩
  refine s (Bu r r r) (lg (nX a 2 [V 3,V 0,V 0,T e3,T be,.slice (ad b8) ([c]:List Ge).length 1] r jU r r) fun w9 a=>n (kT ?_))
  replace a:=a.fz 0 0 r r
  obtain rfl:=sm d
  exact jI r (tV r mV r jU r (a.bk 1 r)) (mM (mM (⟨(ad b8),1,r,(a.ad [2,0,3,4,5] [0,2,6,7,8,9])⟩)))
 refine jK (bf h5) (wk (q (g (s (kY r) (s (mp r) (s (mi r) ?_))))))
 obtain ⟨b,a5,a6,a7,d⟩:=vD d
 have hc:=H_kit_expr (a.pr [2,0,3,4,5] [1] [0,3,4,5,6] r) (a.le D) (a.le E) (a.le F) a7
 refine sc (ec Ag r) hc ?_
 rintro _ al ⟨e,j,rfl,H⟩
 replace a:=a.cn [2,0,3,4,5] [1] H
 refine nU (jP a [[V b.e,V b.d,V b.g,T b.b,T b.c,Z e b.a j]] ([b]:List Ge) (kS r) r r (by decide) ⟨(jB.inn ⟨e,j,r,(a.dl 0 r)⟩),y⟩) ?_
 rintro _ am ⟨Y,rfl,a⟩
 refine s (Bu r r r) (lg (nX a 6 [V 3,V 0,V 0,T e3,T be,.slice (ad Y) ([b]:List Ge).length 1] r jU r r) fun an a=>n (kT ?_))
 replace a:=a.fz 0 0 r r
 obtain rfl:=sm d
 exact jI r (tV r mV r jU r (a.bk 5 r)) (mM (mM (⟨(ad Y),1,r,(a.ad [0,1,2,3,4] [0,2,3,4,5,6])⟩)))
theorem Dt (fu:Nat):yL (l8 fu)∧uD (mW fu):=by
 induction fu with
 | zero=>exact ⟨by intro a b;intros;exact nn (by assumption),by intro a b;intros;exact nn (by assumption)⟩
 | succ fu ih=>exact ⟨KL fu (l8 fu) (mW fu) ih.1 ih.2,FI fu (l8 fu) (mW fu) ih.1 ih.2⟩
theorem rM (fu:Nat):yL (l8 fu):=(Dt fu).1
theorem ET (fu:Nat):uD (mW fu):=(Dt fu).2
def KO (m:Gm→jM→Gs→Option (Bool × Gm × jM × Gs)):Prop:=∀ {w0:World} {a4:Nat→Prop} {I:Gm} {J:jM} {d:Gs} {a0:Nat} {e:Nat} {a:Option Addr} {b:Nat} {u:Option Addr} {x:Nat} {h:Option Addr} {i:Nat} {z:List (List Value)} {K:Nat} {j:Option Addr} {k:Nat} {A:List (List Value)} {L:Nat} {o:Option Addr} {p:Nat} {B:List (List Value)} {M:Nat} {a1:Nat} {C:Option Addr} {D:Nat} {N:Option Addr} {P:Nat} {S:List (List Value)} {Q:Nat} {E:Option Addr} {F:Nat} {G:Option Addr} {H:Nat} {R:Bool × Gm × jM × Gs},Pre w0 a4 [.box a0 135 #[Pt e,V I.f,V I.e,Z u I.d x,Z h I.a i,Z j I.c k,Z o I.b p,V I.g,V I.h],.box e 132 #[Z a J.l b,V J.a],O K h i 9 BA z,O L j k 9 BA A,O M o p 9 BA B,.box a1 111 #[V d.c,V d.f,V d.n,T d.b,T d.k,V d.m,V d.g,Z C d.d D,T d.j,V d.i,Z N d.a P,Z E d.e F,Z G d.h H],O Q N P 138 Ge S] [.l a b J.l,.l u x I.d,.els z I.a,.els A I.c,.els B I.b,.l C D d.d,.els S d.a,.l E F d.e,.l G H d.h]→K≤w0.heap.size→L≤w0.heap.size→M≤w0.heap.size→Q≤w0.heap.size→m I J d=some R→
 Calls Try.prog 87 #[Pt a0,Pt a1] w0 (qW fun v w=>jy R fun r0 R=>jy R fun t R=>jy R fun U c=>∃ (W:OA)(X:Nat)(Y:LV),v=.bool r0∧Bx w0 w a4 (lT [.box a0 135 #[Pt e,V I.f,V I.e,Z u I.d x,Z h I.a i,Z j I.c k,Z o I.b p,V I.g,V I.h],.box e 132 #[Z a J.l b,V J.a],O K h i 9 BA z,O L j k 9 BA A,O M o p 9 BA B,.box a1 111 #[V d.c,V d.f,V d.n,T d.b,T d.k,V d.m,V d.g,Z C d.d D,T d.j,V d.i,Z N d.a P,Z E d.e F,Z G d.h H],O Q N P 138 Ge S]) [.box a0 135 #[Pt e,V t.f,V t.e,Z u t.d x,Z h t.a i,Z j t.c k,Z o t.b p,V t.g,V t.h],.box e 132 #[Z a U.l b,V U.a],O K h i 9 BA z,O L j k 9 BA A,O M o p 9 BA B,.box a1 111 #[V c.c,V c.f,V c.n,T c.b,T c.k,V c.m,V c.g,Z C c.d D,T c.j,V c.i,Z W c.a X,Z E c.e F,Z G c.h H],O Q W X 138 Ge Y] [.l a b U.l,.l u x t.d,.els z t.a,.els A t.c,.els B t.b,.l C D c.d,.els Y c.a,.l E F c.e,.l G H c.h])
def yj (fu:Nat)(e:Gm) (a:jM) (k:Gs):Option (Ld (Int × List Int × Int) (Bool × Gm × jM × Gs)):=
 if (wr (e.f+1)) < e.e then
  (kF fu a (wr (e.e - (wr (e.f+1))))).bind fun m=>
  jy m fun h b=>
  some (.go ((wr ((wr (e.f+1))+h)),b.l,b.a))
 else
  (kF fu a 4).bind fun m=>
  jy m fun i c=>
  if i≠3 then
   some (.out (false,e,c,k))
  else
   (kF fu c e.e).bind fun m=>
   jy m fun j d=>
   some (.go (j,d.l,d.a))
def tL (fu:Nat)(v:Int):Nat→Int→Int→Int→(List Int)→Int→Int→(List Int)→Int→(List BA)→(List BA)→(List BA)→(List Ge)→Option (Ld (Int × Int × Int × List Int × Int × Int × List Int × Int × List BA × List BA × List BA × List Ge) (Bool × Gm × jM × Gs))
 | 0,_,_,_,_,_,_,_,_,_,_,_,_=>none
 | z+1,c,i,j,d,k,m,o,p,t,e,h,b=>
 (ix d v).bind fun A=>
 if c < A then
  (l8 fu (⟨i,j,d,t,e,h,k,m⟩:Gm) (⟨o,p⟩:jM) 2).bind fun D=>
  jy D fun w D=>jy D fun a u=>
  (app b ([(⟨0,0,0,(⟨#[]⟩:BA),(⟨#[]⟩:BA),([]:List Ge)⟩:Ge)]:List Ge)).bind fun x=>
  (ix x (b.length:Int)).bind fun C=>
  (st x (b.length:Int) w).bind fun B=>
  tL fu v z (wr (c+1)) a.f a.e a.d a.g a.h u.l u.a a.a a.c a.b B
 else
  some (.go (c,i,j,d,k,m,o,p,t,e,h,b))
def xM (fu:Nat)(b:Gm) (v:jM) (a:Gs):Option (Bool × Gm × jM × Gs):=
 (yj fu b v a).bind fun B=>B.el (fun B=>
 jy B fun h B=>jy B fun w x=>
 (ix ([(⟨#[102]⟩:BA),(⟨#[103]⟩:BA),(⟨#[104]⟩:BA),(⟨#[107]⟩:BA)]:List BA) h).bind fun A=>
 (tL fu h fu 0 b.f b.e b.d b.g b.h w x b.a b.c b.b a.a).bind fun B=>B.el (fun B=>
 jy B fun z B=>jy B fun i B=>jy B fun j B=>jy B fun k B=>jy B fun l B=>jy B fun m B=>jy B fun p B=>jy B fun t B=>jy B fun u B=>jy B fun c B=>jy B fun d e=>
 some (true,(⟨i,j,k,u,c,d,l,m⟩:Gm),(⟨p,t⟩:jM),(⟨a.c,a.f,a.n,a.b,a.k,a.m,a.g,a.d,A,a.i,e,a.e,a.h⟩:Gs))
 ) (fun o=>some o)
 ) (fun o=>some o)
theorem Em (fu:Nat):KO (xM fu):=by
 intro w0 c0 x0 aM c ay L t u a2 a3 M N a4 an Q S a5 ao U W a6 ap az v x ai aj aq ar z A B C R hP aC aD aE aF hM
 unfold xM at hM
 have b:=hP.bx
 clear hP
 generalize hG:lT _=G at b ⊢
 refine cf Try.func87 r (lK [(0,Pt ay),(1,Pt az)] ⟨r,r,y⟩ fun c1=>q (g (s (kC r) (n (q (g (s (mp r) (s (xn r) (s (VP r) (s (l3 r (b.bk 0 r) r) (s (kE r r) (s (xi r) (n (q ?_))))))))))))))
 obtain ⟨Y1,K,hM⟩:=bs hM
 refine oq (fun f w=>∃ (aw:Int)(aA:List Int) (aG:Int),Has f [(0,Pt ay),(1,Pt az),(5,V aw)]∧Bx w0 w c0 G [.box ay 135 #[Pt L,V x0.f,V x0.e,Z a2 x0.d a3,Z M x0.a N,Z Q x0.c S,Z U x0.b W,V x0.g,V x0.h],.box L 132 #[Z t aA u,V aG],O an M N 9 BA a4,O ao Q S 9 BA a5,O ap U W 9 BA a6,.box az 111 #[V c.c,V c.f,V c.n,T c.b,T c.k,V c.m,V c.g,Z v c.d x,T c.j,V c.i,Z ai c.a aj,Z z c.e A,Z B c.h C],O ar ai aj 138 Ge aq] [.l t u aA,.l a2 a3 x0.d,.els a4 x0.a,.els a5 x0.c,.els a6 x0.b,.l v x c.d,.els aq c.a,.l z A c.e,.l B C c.h]∧Ld.go (aw,aA,aG)=Y1) (fun J1 b2=>?_) ?_
 ·unfold yj at K
  refine q (g (s (mi r) (s (mp r) (s (xn r) (s (Mh r) (s (l3 r (b.bk 0 r) r) (s (qo r r) (n ?_))))))))
  rcases iv K with ⟨h2,K⟩|⟨h2,K⟩
  ·refine jN (bt h2) (pX b [0] [] [] (by kernel_rfl) ?_)
   replace b:=b.drew
   have p:=(b.ad [0] [])
   refine pF 0 r (mi r) p (pF 1 r (mp r) p (pF 2 r (xn r) p (pF 3 r (oO r) p (uF 4 r (fun hS=>xG r (hS.bk 0 r) r) p (pF 5 r (mp r) p (pF 6 r (xn r) p (pF 7 r (Mh r) p (uF 8 r (fun hS=>l3 r (hS.bk 0 r) r) p (pF 9 r (mi r) p (pF 10 r (vW r r) p ?_))))))))))
   obtain ⟨b3,aN,h3,K⟩:=lZ K
   have hc:=(jW fu) (b.pr [1] [0,2,3,4,5,6] [0] r)  h3
   refine hO 11 (oc r r (ec nW r) hc ?_)
   rintro _ w3 ⟨rfl,hK⟩
   replace b:=b.cn [1] [0,2,3,4,5,6] hK
   have p:=(b.ad [1] [])
   exact ⟨(sF p),(pF 12 r (kE r r) p (pF 13 r (xi r) p (hD (b2 _ _ ⟨(wr ((wr (x0.f+1))+b3)),aN.l,aN.a,⟨r,r,r,y⟩,(b.ad [1,0,2,3,4,5,6] [0,2,3,4,5,6,7,8,9]),sm K⟩))))⟩
  refine jK (bf h2) (q (q (g (s (mp r) (s (xn r) (s (oO r) (s (xG r (b.bk 0 r) r) ?_)))))))
  obtain ⟨bv,bw,h4,K⟩:=lZ K
  have hc:=(jW fu) (b.pr [1] [0,2,3,4,5,6] [0] r)  h4
  refine sc (ec nW r) hc ?_
  rintro _ w4 ⟨rfl,hK⟩
  replace b:=b.cn [1] [0,2,3,4,5,6] hK
  refine s (rY r r) (n ?_)
  rcases iv K with ⟨h5,K⟩|⟨h5,K⟩
  ·refine jN (bt h5) (q (g (s (kC r) (n (kT ?_)))))
   obtain rfl:=sm K
   replace hM:=oi hM
   obtain rfl:=sm hM
   exact jI r (lq r) (mM (mM (mM (⟨ai,aj,aq,r,(b.ad [1,0,2,3,4,5,6] [0,2,3,4,5,6,7,8,9])⟩))))
  refine jK (bf h5) (wk (pX b [1] [] [] (by kernel_rfl) ?_))
  replace b:=b.drew
  have p:=(b.ad [1] [])
  refine pF 0 r (mp r) p (pF 1 r (xn r) p (pF 2 r (oO r) p (uF 3 r (fun hS=>xG r (hS.bk 0 r) r) p (pF 4 r (mp r) p (pF 5 r (xn r) p (pF 6 r (Mh r) p (uF 7 r (fun hS=>l3 r (hS.bk 0 r) r) p ?_)))))))
  obtain ⟨b4,aO,h6,K⟩:=lZ K
  have hc:=(jW fu) (b.pr [0] [1,2,3,4,5,6] [0] r)  h6
  refine hO 8 (oc r r (ec nW r) hc ?_)
  rintro _ w6 ⟨rfl,hK⟩
  replace b:=b.cn [0] [1,2,3,4,5,6] hK
  have p:=(b.ad [1] [])
  exact ⟨(sF p),(pF 9 r (xi r) p (hD (b2 _ _ ⟨b4,aO.l,aO.a,⟨r,r,r,y⟩,(b.ad [1,0,2,3,4,5,6] [0,3,4,5,6,7,8,9,10]),sm K⟩)))⟩
 clear b
 rintro f w ⟨aw,aA,aG,hf,b,bl⟩
 obtain ⟨c1,rfl⟩:=iA _ _ hf
 clear hf
 subst bl
 replace hM:=gi hM
 replace hM:=Bh hM
 refine q (g (s (mp r) (nU (jP b [[T (⟨#[102]⟩:BA)],[T (⟨#[103]⟩:BA)],[T (⟨#[104]⟩:BA)],[T (⟨#[107]⟩:BA)]] ([(⟨#[102]⟩:BA),(⟨#[103]⟩:BA),(⟨#[104]⟩:BA),(⟨#[107]⟩:BA)]:List BA) (qH r r r r) r r (by decide) ⟨r,⟨r,⟨r,⟨r,y⟩⟩⟩⟩) ?_)))
 rintro _ w7 ⟨b7,rfl,b⟩
 refine s (mi r) ?_
 obtain ⟨e8,aL,hM⟩:=bs hM
 obtain ⟨k8,bm,aL⟩:=kJ aL
 refine s (kW kQ oQ r r bm (b.vw 0 0 r r) aL) (s (jT uq r r ((uy (ds:=[T e8]) (b.vw 0 0 r r) aL (fun _ h=>h)) 0 _ r)) (s (xn r) (s (Cv r) (lg (t_n b 6 [T e8] r oQ r r) fun w9 b=>n (q (q (g (s (xi r) (n ?_)))))))))
 obtain ⟨b5,o,hM⟩:=bs hM
 refine oq (fun f w=>∃ (a7:Int)(aa:Int)(ab:Int)(X:List Int) (ac:Int)(ae:Int)(Y:List Int) (af:Int)(a0:List BA) (H:List BA) (I:List BA) (J:List Ge) (D:OA)(E:Nat)(F:LV),Has f []∧Bx w0 w c0 G [.box ay 135 #[Pt L,V aa,V ab,Z a2 X a3,Z M a0 N,Z Q H S,Z U I W,V ac,V ae],.box L 132 #[Z t Y u,V af],O an M N 9 BA a4,O ao Q S 9 BA a5,O ap U W 9 BA a6,.box az 111 #[V c.c,V c.f,V c.n,T c.b,T c.k,V c.m,V c.g,Z v c.d x,T e8,V c.i,Z D J E,Z z c.e A,Z B c.h C],O ar D E 138 Ge F] [.l a2 a3 X,.l t u Y,.els a4 a0,.els a5 H,.els a6 I,.l v x c.d,.els F J,.l z A c.e,.l B C c.h]∧Ld.go (a7,aa,ab,X,ac,ae,Y,af,a0,H,I,J)=b5) (fun bG b6=>?_) ?_
 ·refine oM (kM (fun c2 f w=>∃ (a7:Int)(aa:Int)(ab:Int)(X:List Int) (ac:Int)(ae:Int)(Y:List Int) (af:Int)(a0:List BA) (H:List BA) (I:List BA) (J:List Ge) (D:OA)(E:Nat)(F:LV),Has f [(0,Pt ay),(1,Pt az),(5,V aw),(6,V a7)]∧Bx w0 w c0 G [.box ay 135 #[Pt L,V aa,V ab,Z a2 X a3,Z M a0 N,Z Q H S,Z U I W,V ac,V ae],.box L 132 #[Z t Y u,V af],O an M N 9 BA a4,O ao Q S 9 BA a5,O ap U W 9 BA a6,.box az 111 #[V c.c,V c.f,V c.n,T c.b,T c.k,V c.m,V c.g,Z v c.d x,T e8,V c.i,Z D J E,Z z c.e A,Z B c.h C],O ar D E 138 Ge F] [.l a2 a3 X,.l t u Y,.els a4 a0,.els a5 H,.els a6 I,.l v x c.d,.els F J,.l z A c.e,.l B C c.h]∧tL fu aw c2 a7 aa ab X ac ae Y af a0 H I J=some b5) fu ⟨0,x0.f,x0.e,x0.d,x0.g,x0.h,aA,aG,x0.a,x0.c,x0.b,c.a,ai,aj,aq,⟨r,r,r,r,y⟩,(b.ad [1,2,3,4,5,6,7] [2,1,3,4,5,6,7,8,9]),o⟩ ?_)
  clear b o
  rintro aT f w ⟨a7,aa,ab,X,ac,ae,Y,af,a0,H,I,J,D,E,F,hf,b,o⟩ bH b8
  obtain ⟨c1,rfl⟩:=iA _ _ hf
  clear hf
  cases aT with
  | zero=>exact nn o
  | succ aT=>
   rw [tL] at o
   refine q (q (g (s (mi r) (s (mp r) (s (xn r) (s (Vv r) (s (OP r (b.bk 0 r) r) (s (mi r) ?_))))))))
   obtain ⟨bn,aH,o⟩:=bs o
   obtain ⟨bI,b9,aH⟩:=kJ aH
   refine s (kW ug nO r r b9 (b.dl 0 r) aH) (s (jT EC r r ((uy (ds:=[V bn]) (b.dl 0 r) aH (fun _ h=>h)) 0 _ r)) (s (qo r r) (n ?_)))
   rcases iv o with ⟨aU,o⟩|⟨aU,o⟩
   ·refine jN (bt aU) (wk (q (oM ?_)))
    obtain ⟨a,m,au,ba,o⟩:=vD o
    obtain ⟨aB,aP,o⟩:=bs o
    obtain ⟨bb,ax,o⟩:=bs o
    obtain ⟨aI,aQ,ax⟩:=kJ ax
    obtain ⟨av,ah,o⟩:=bs o
    obtain ⟨bo,bz,_,ah⟩:=uY ah
    obtain rfl:aI=bo:=by omega
    refine oq (fun f w=>∃ (a8:OA)(a9:Nat)(am:LV),Has f [(0,Pt ay),(1,Pt az),(5,V aw),(6,V a7)]∧Bx w0 w c0 G [.box ay 135 #[Pt L,V m.f,V m.e,Z a2 m.d a3,Z M m.a N,Z Q m.c S,Z U m.b W,V m.g,V m.h],.box L 132 #[Z t au.l u,V au.a],O an M N 9 BA a4,O ao Q S 9 BA a5,O ap U W 9 BA a6,.box az 111 #[V c.c,V c.f,V c.n,T c.b,T c.k,V c.m,V c.g,Z v c.d x,T e8,V c.i,Z a8 av a9,Z z c.e A,Z B c.h C],O ar a8 a9 138 Ge am] [.els a4 m.a,.els a5 m.c,.els a6 m.b,.l v x c.d,.els am av,.l z A c.e,.l B C c.h,.l a2 a3 m.d,.l t u au.l]) (fun Jd hJd=>?_) ?_
    ·refine Kr b [] [] [5] [] [13] (by kernel_rfl) ?_
     replace b:=b.drew
     have p:=(b.ad [] [])
     have hu:=(b.ad [5] [])
     refine pL 0 r (mp r) p hu (pL 1 r (xn r) p hu (pL 2 r (uT r) p hu (tS 1 3 r (fun _ hS=>AY r (hS.bk 0 r) r) (nu p hu) (pL 4 r (mp r) p hu (pL 6 r (lX tY r) p hu (mH 5 [7] (by kernel_rfl) (jL ?_ (jL ?_ lH))))))))
     ·have hc:=(rM fu) (b.pr [0,1,2,3,4] [5,6] [1,0,2,3,4] r) (b.le aC) (b.le aD) (b.le aE) ba
      refine oc r r (ec Ag r) hc ?_
      rintro _ bp ⟨e,j,rfl,hK⟩
      replace b:=b.cn [0,1,2,3,4] [5,6] hK
      have p:=(b.ad [] [])
      have hu:=(b.ad [5] [])
      refine ⟨(nu p hu),(hO 7 (oo r r (jP b [[V 0,V 0,V 0,T (⟨#[]⟩:BA),T (⟨#[]⟩:BA),sn]] ([(⟨0,0,0,(⟨#[]⟩:BA),(⟨#[]⟩:BA),([]:List Ge)⟩:Ge)]:List Ge) (kS r) r r (by decide) ⟨(jB.inn ⟨none,0,r,om⟩),y⟩) ?_))⟩
      rintro _ bJ ⟨bK,rfl,b⟩
      have p:=(b.ad [] [])
      have hu:=(b.ad [6] [])
      refine ⟨(nu p hu),(hO 8 (oo r r (kP b 7 13 r r tY jU r (by decide) (by decide) aF r r (b.zP 0 0 r r) aP) ?_))⟩
      rintro _ bq ⟨a8,a9,br,rfl,b⟩
      have p:=(b.ad [] [])
      have hu:=(b.ad [6] [])
      refine ⟨(nu p hu),?_⟩
      obtain ⟨bA,aR,bc⟩:=(b.de 13 rfl).get ax
      obtain ⟨aV,aW,rfl,aX⟩:=jB.out bc
      replace b:=b.ku (d:=.l aV aW bb.a) aX
      refine pL 9 r (kW tY jU r r aQ (b.vw 7 14 r r) ax) p hu (pL 11 r (xn r) p hu (pL 12 r (uT r) p hu (mH 10 [13] (by kernel_rfl) (jL ?_ (jL ?_ lH)))))
      ·refine os r r (JG b 7 14 aI 0 [V a.e,V a.d,V a.g,T a.b,T a.c,Z e a.a j] r r aR jU r r r r r (show _=[V a.e,V a.d,V a.g,T a.b,T a.c,Z e a.a j] from r) (jB.inn ⟨e,j,r,(b.dl 2 r)⟩) ah) ?_
       rintro aY ⟨am,b⟩
       try dsimp only [List.set] at b
       have ag:aB.length=av.length:=by rw [← ah,List.length_set]
       try dsimp only [Z] at b
       try rw [ag] at b
       try dsimp only [Z]
       try rw [ag]
       have p:=(b.ad [] [])
       have hu:=(b.ad [6] [])
       refine ⟨(nu p hu),(hO 13 (os r r (t_n b 6 [Z a8 av a9] r uw r r) fun bL b=>?_))⟩
       have p:=(b.ad [] [])
       exact ⟨(sy 13 p),(hD (hJd _ _ ⟨a8,a9,am,⟨r,r,r,r,y⟩,(b.ad [1,2,3,4,5,6,7] [5,6,7,13,14,15,16,4,3])⟩))⟩
      refine os r r (t_n b 6 [Z a8 aB a9] r uw r r) fun bM b=>?_
      have p:=(b.ad [] [])
      refine ⟨(sy 13 p),(hO 10 (os r r (JG b 7 14 aI 0 [V a.e,V a.d,V a.g,T a.b,T a.c,Z e a.a j] r r aR jU r r r r r (show _=[V a.e,V a.d,V a.g,T a.b,T a.c,Z e a.a j] from r) (jB.inn ⟨e,j,r,(b.dl 2 r)⟩) ah) ?_))⟩
      rintro aY ⟨am,b⟩
      try dsimp only [List.set] at b
      have ag:aB.length=av.length:=by rw [← ah,List.length_set]
      try dsimp only [Z] at b
      try rw [ag] at b
      try dsimp only [Z]
      try rw [ag]
      have p:=(b.ad [] [])
      exact ⟨(sy 13 p),(hD (hJd _ _ ⟨a8,a9,am,⟨r,r,r,r,y⟩,(b.ad [1,2,3,4,5,6,7] [5,6,7,13,14,15,16,4,3])⟩))⟩
     refine oo r r (jP b [[V 0,V 0,V 0,T (⟨#[]⟩:BA),T (⟨#[]⟩:BA),sn]] ([(⟨0,0,0,(⟨#[]⟩:BA),(⟨#[]⟩:BA),([]:List Ge)⟩:Ge)]:List Ge) (kS r) r r (by decide) ⟨(jB.inn ⟨none,0,r,om⟩),y⟩) ?_
     rintro _ bN ⟨bO,rfl,b⟩
     have p:=(b.ad [] [])
     have hu:=(b.ad [6] [])
     refine ⟨(nu p hu),?_⟩
     have hc:=(rM fu) (b.pr [1,2,3,4,5] [0,6,7] [2,1,3,4,5] r) (b.le aC) (b.le aD) (b.le aE) ba
     refine hO 5 (oc r r (ec Ag r) hc ?_)
     rintro _ bp ⟨e,j,rfl,hK⟩
     replace b:=b.cn [1,2,3,4,5] [0,6,7] hK
     have p:=(b.ad [] [])
     have hu:=(b.ad [6] [])
     refine ⟨(nu p hu),(hO 8 (oo r r (kP b 7 13 r r tY jU r (by decide) (by decide) aF r r (b.zP 5 6 r r) aP) ?_))⟩
     rintro _ bq ⟨a8,a9,br,rfl,b⟩
     have p:=(b.ad [] [])
     have hu:=(b.ad [6] [])
     refine ⟨(nu p hu),?_⟩
     obtain ⟨bB,aS,bd⟩:=(b.de 13 rfl).get ax
     obtain ⟨aZ,b0,rfl,b1⟩:=jB.out bd
     replace b:=b.ku (d:=.l aZ b0 bb.a) b1
     refine pL 9 r (kW tY jU r r aQ (b.vw 7 14 r r) ax) p hu (pL 11 r (xn r) p hu (pL 12 r (uT r) p hu (mH 10 [13] (by kernel_rfl) (jL ?_ (jL ?_ lH)))))
     ·refine os r r (JG b 7 14 aI 0 [V a.e,V a.d,V a.g,T a.b,T a.c,Z e a.a j] r r aS jU r r r r r (show _=[V a.e,V a.d,V a.g,T a.b,T a.c,Z e a.a j] from r) (jB.inn ⟨e,j,r,(b.dl 1 r)⟩) ah) ?_
      rintro aY ⟨am,b⟩
      try dsimp only [List.set] at b
      have ag:aB.length=av.length:=by rw [← ah,List.length_set]
      try dsimp only [Z] at b
      try rw [ag] at b
      try dsimp only [Z]
      try rw [ag]
      have p:=(b.ad [] [])
      have hu:=(b.ad [6] [])
      refine ⟨(nu p hu),(hO 13 (os r r (t_n b 6 [Z a8 av a9] r uw r r) fun bP b=>?_))⟩
      have p:=(b.ad [] [])
      exact ⟨(sy 13 p),(hD (hJd _ _ ⟨a8,a9,am,⟨r,r,r,r,y⟩,(b.ad [0,1,2,3,4,6,7] [4,5,6,13,14,15,16,3,2])⟩))⟩
     refine os r r (t_n b 6 [Z a8 aB a9] r uw r r) fun bQ b=>?_
     have p:=(b.ad [] [])
     refine ⟨(sy 13 p),(hO 10 (os r r (JG b 7 14 aI 0 [V a.e,V a.d,V a.g,T a.b,T a.c,Z e a.a j] r r aS jU r r r r r (show _=[V a.e,V a.d,V a.g,T a.b,T a.c,Z e a.a j] from r) (jB.inn ⟨e,j,r,(b.dl 1 r)⟩) ah) ?_))⟩
     rintro aY ⟨am,b⟩
     try dsimp only [List.set] at b
     have ag:aB.length=av.length:=by rw [← ah,List.length_set]
     try dsimp only [Z] at b
     try rw [ag] at b
     try dsimp only [Z]
     try rw [ag]
     have p:=(b.ad [] [])
     exact ⟨(sy 13 p),(hD (hJd _ _ ⟨a8,a9,am,⟨r,r,r,r,y⟩,(b.ad [0,1,2,3,4,6,7] [4,5,6,13,14,15,16,3,2])⟩))⟩
    clear b
    rintro f w ⟨a8,a9,am,hf,b⟩
    obtain ⟨c1,rfl⟩:=iA _ _ hf
    clear hf
    exact g (s (mi r) (s (kE r r) (s (xi r) (n (b8 aT _ _ (Nat.lt_succ_self _) ⟨(wr (a7+1)),m.f,m.e,m.d,m.g,m.h,au.l,au.a,m.a,m.c,m.b,av,a8,a9,am,⟨r,r,r,r,y⟩,(b.dp [7,8,0,1,2,3,4,5,6]),o⟩)))))
   exact jK (bf aU) (tT (b6 _ _ ⟨a7,aa,ab,X,ac,ae,Y,af,a0,H,I,J,D,E,F,y,b,sm o⟩))
 clear b
 rintro f w ⟨a7,aa,ab,X,ac,ae,Y,af,a0,H,I,J,D,E,F,hf,b,bg⟩
 obtain ⟨c1,rfl⟩:=iA _ _ hf
 clear hf
 subst bg
 replace hM:=gi hM
 replace hM:=Bh (mG (mG (mG hM)))
 refine q (g (s (kC r) (n (kT ?_))))
 obtain rfl:=sm hM
 exact jI r (lq r) (mM (mM (mM (⟨D,E,F,r,(b.dp [1,0,2,3,4,5,6,7,8])⟩))))
def FH (m:Gm→jM→Option (Gs × Gm × jM)):Prop:=∀ {w0:World} {a5:Nat→Prop} {i:Gm} {j:jM} {a3:Nat} {c:Nat} {a:Option Addr} {b:Nat} {e:Option Addr} {h:Nat} {k:Option Addr} {o:Nat} {D:List (List Value)} {p:Nat} {t:Option Addr} {u:Nat} {E:List (List Value)} {x:Nat} {z:Option Addr} {A:Nat} {F:List (List Value)} {B:Nat} {R:Gs × Gm × jM},Pre w0 a5 [.box a3 135 #[Pt c,V i.f,V i.e,Z e i.d h,Z k i.a o,Z t i.c u,Z z i.b A,V i.g,V i.h],.box c 132 #[Z a j.l b,V j.a],O p k o 9 BA D,O x t u 9 BA E,O B z A 9 BA F] [.l a b j.l,.l e h i.d,.els D i.a,.els E i.c,.els F i.b]→p≤w0.heap.size→x≤w0.heap.size→B≤w0.heap.size→m i j=some R→
 Calls Try.prog 82 #[Pt a3] w0 (qW fun v w=>jy R fun C R=>jy R fun d G=>∃ (S:OA)(U:Nat)(W:OA)(X:Nat)(Y:OA)(a0:Nat)(a1:OA)(a2:Nat)(H:OA)(I:Nat)(J:LV)(K:OA)(L:Nat)(M:LV)(N:OA)(P:Nat)(Q:LV),v=.agg #[V C.c,V C.f,V C.n,T C.b,T C.k,V C.m,V C.g,Z S C.d U,T C.j,V C.i,Z W C.a X,Z Y C.e a0,Z a1 C.h a2]∧Bx w0 w a5 (lT [.box a3 135 #[Pt c,V i.f,V i.e,Z e i.d h,Z k i.a o,Z t i.c u,Z z i.b A,V i.g,V i.h],.box c 132 #[Z a j.l b,V j.a],O p k o 9 BA D,O x t u 9 BA E,O B z A 9 BA F]) [.box a3 135 #[Pt c,V d.f,V d.e,Z e d.d h,Z H d.a I,Z K d.c L,Z N d.b P,V d.g,V d.h],.box c 132 #[Z a G.l b,V G.a],O p H I 9 BA J,O x K L 9 BA M,O B N P 9 BA Q] [.l S U C.d,.l W X C.a,.l Y a0 C.e,.l a1 a2 C.h,.l a b G.l,.l e h d.d,.els J d.a,.els M d.c,.els Q d.b])
def u6 (fu:Nat)(j:Gm) (d:jM):Option (Gs × Gm × jM):=
 (um fu j d).bind fun l=>
 jy l fun b a=>
 (kF fu d 5).bind fun l=>
 jy l fun e c=>
 if e=3 then
  (app a.c ([b]:List BA)).bind fun k=>
  some ((⟨1,0,0,b,(⟨#[80]⟩:BA),0,0,([]:List Ge),be,0,([]:List Ge),([]:List Gs),([]:List Gs)⟩:Gs),(⟨a.f,a.e,a.d,a.a,k,a.b,a.g,a.h⟩:Gm),c)
 else
  if e=4 then
   (app a.b ([b]:List BA)).bind fun h=>
   some ((⟨1,0,0,b,be,3,0,([]:List Ge),be,0,([]:List Ge),([]:List Gs),([]:List Gs)⟩:Gs),(⟨a.f,a.e,a.d,a.a,a.c,h,a.g,a.h⟩:Gm),c)
  else
   (app a.a ([b]:List BA)).bind fun i=>
   some ((⟨1,0,0,b,be,0,0,([]:List Ge),be,0,([]:List Ge),([]:List Gs),([]:List Gs)⟩:Gs),(⟨a.f,a.e,a.d,i,a.c,a.b,a.g,a.h⟩:Gm),c)
theorem Gw (fu:Nat):FH (u6 fu):=by
 intro w0 aL J K Y w H I x z j m A L o p B M t u C N R hP D E F v
 unfold u6 at v
 have a:=hP.bx
 clear hP
 generalize hG:lT _=G at a ⊢
 refine cf Try.func82 r (lK [(0,Pt Y)] ⟨r,y⟩ fun aM=>q (g (tu a (jV jQ) fun w1 b1 a=>n (q (g (s (mp r) ?_))))))
 obtain ⟨c,b,h2,v⟩:=lZ v
 have hc:=(AP fu) (a.pr [1,2,3,4,5] [0] [0,1,2,3,4] r) (a.le D) (a.le E) (a.le F) h2
 refine sc (ec QB r) hc ?_
 rintro _ w2 ⟨rfl,hK⟩
 replace a:=a.cn [1,2,3,4,5] [0] hK
 refine s (H6 r r) (tu a (jV jQ) fun w3 b3 a=>lg (nX a 0 [V 1,V 0,V 0,T c,T be,V 0,V 0,sn,T be,V 0,sn,sn,sn] r jQ r r) fun w4 a=>n (q (q (g (s (mp r) (s (xn r) (s (oO r) (s (xG r (a.bk 1 r) r) ?_))))))))
 obtain ⟨ac,ae,h5,v⟩:=lZ v
 have hc:=(jW fu) (a.pr [2] [0,1,3,4,5,6] [5] r)  h5
 refine sc (ec nW r) hc ?_
 rintro _ w5 ⟨rfl,hK⟩
 replace a:=a.cn [2] [0,1,3,4,5,6] hK
 refine n (oM (q (g (s (kD r r) (s (kC r) (n ?_))))))
 rcases iv v with ⟨h6,v⟩|⟨h6,v⟩
 ·refine jN (bt h6) (q (g (s (F9 r) (lg (t_n a 1 [T (⟨#[80]⟩:BA)] r oQ r r) fun w7 a=>n (Kr a [1] [] [1,2] [] [11] (by kernel_rfl) ?_)))))
  replace a:=a.drew
  have e:=(a.ad [1] [])
  have h:=(a.ad [1,2] [])
  refine pL 0 r (mp r) e h (pL 1 r (mp r) e h (pL 2 r (xn r) e h (pL 3 r (qh r) e h (tS 1 4 r (fun _ hS=>zM r (hS.bk 1 r) r) (nu e h) (pL 5 r (zF r) e h (tU 6 r (fun _ hS=>l9 r (hS.bk 0 r) r) (nu e h) (hO 7 (oo r r (jP a [[T c]] ([c]:List BA) (zK r) r r (by decide) ⟨r,y⟩) ?_))))))))
  rintro _ w8 ⟨b8,rfl,a⟩
  have e:=(a.ad [2] [])
  have h:=(a.ad [2,3] [])
  refine ⟨(nu e h),?_⟩
  obtain ⟨r9,a6,v⟩:=bs v
  refine hO 8 (oo r r (kP a 5 5 r r kQ oQ r (by decide) (by decide) E r r (a.zP 0 0 r r) a6) ?_)
  rintro _ w9 ⟨A9,C9,Q9,rfl,a⟩
  have e:=(a.ad [2] [])
  have h:=(a.ad [2,3] [])
  refine ⟨(nu e h),(pL 9 r (xn r) e h (pL 10 r (qh r) e h (hO 11 (os r r (t_n a 3 [Z A9 r9 C9] r oH r r) fun ak a=>?_))))⟩
  have e:=(a.ad [2] [])
  refine ⟨(sy 11 e),(hD (q (g (s (ng [V 1,V 0,V 0,T c,T (⟨#[80]⟩:BA),V 0,V 0,sn,T be,V 0,sn,sn,sn] lW jQ r (a.bk 2 r)) (lg (nX a 7 [V 1,V 0,V 0,T c,T (⟨#[80]⟩:BA),V 0,V 0,sn,T be,V 0,sn,sn,sn] r jQ r r) fun al a=>n (kT ?_))))))⟩
  replace a:=a.ku (d:=.l none 0 ([]:List Ge)) om
  replace a:=a.ku (d:=.l none 0 ([]:List Ge)) om
  replace a:=a.ku (d:=.l none 0 ([]:List Gs)) om
  replace a:=a.ku (d:=.l none 0 ([]:List Gs)) om
  obtain rfl:=sm v
  exact jI r (tV r lW r jQ r (a.bk 7 r)) (mM (mM (⟨none,0,none,0,none,0,none,0,j,m,A,A9,C9,Q9,t,u,C,r,(a.ad [3,1,4,5,6] [3,2,1,0,5,7,8,9,10])⟩)))
 refine jK (bf h6) (q (g (s (kD r r) (s (kC r) (n ?_)))))
 rcases iv v with ⟨Q,v⟩|⟨Q,v⟩
 ·refine jN (bt Q) (q (g (s (BD r) (lg (t_n a 1 [V 3] r nO r r) fun am a=>n (Kr a [1] [] [1,2] [] [11] (by kernel_rfl) ?_)))))
  replace a:=a.drew
  have e:=(a.ad [1] [])
  have h:=(a.ad [1,2] [])
  refine pL 0 r (mp r) e h (pL 1 r (mp r) e h (pL 2 r (xn r) e h (pL 3 r (qQ r) e h (tS 1 4 r (fun _ hS=>zM r (hS.bk 1 r) r) (nu e h) (pL 5 r (zF r) e h (tU 6 r (fun _ hS=>l9 r (hS.bk 0 r) r) (nu e h) (hO 7 (oo r r (jP a [[T c]] ([c]:List BA) (zK r) r r (by decide) ⟨r,y⟩) ?_))))))))
  rintro _ an ⟨ao,rfl,a⟩
  have e:=(a.ad [2] [])
  have h:=(a.ad [2,3] [])
  refine ⟨(nu e h),?_⟩
  obtain ⟨a0,a1,v⟩:=bs v
  refine hO 8 (oo r r (kP a 6 6 r r kQ oQ r (by decide) (by decide) F r r (a.zP 0 0 r r) a1) ?_)
  rintro _ ap ⟨S,U,a9,rfl,a⟩
  have e:=(a.ad [2] [])
  have h:=(a.ad [2,3] [])
  refine ⟨(nu e h),(pL 9 r (xn r) e h (pL 10 r (qQ r) e h (hO 11 (os r r (t_n a 3 [Z S a0 U] r oH r r) fun aq a=>?_))))⟩
  have e:=(a.ad [2] [])
  refine ⟨(sy 11 e),(hD (q (g (s (ng [V 1,V 0,V 0,T c,T be,V 3,V 0,sn,T be,V 0,sn,sn,sn] lW jQ r (a.bk 2 r)) (lg (nX a 7 [V 1,V 0,V 0,T c,T be,V 3,V 0,sn,T be,V 0,sn,sn,sn] r jQ r r) fun ar a=>n (kT ?_))))))⟩
  replace a:=a.ku (d:=.l none 0 ([]:List Ge)) om
  replace a:=a.ku (d:=.l none 0 ([]:List Ge)) om
  replace a:=a.ku (d:=.l none 0 ([]:List Gs)) om
  replace a:=a.ku (d:=.l none 0 ([]:List Gs)) om
  obtain rfl:=sm v
  exact jI r (tV r lW r jQ r (a.bk 7 r)) (mM (mM (⟨none,0,none,0,none,0,none,0,j,m,A,o,p,B,S,U,a9,r,(a.ad [3,1,4,5,6] [3,2,1,0,5,7,8,9,10])⟩)))
 refine jK (bf Q) (Kr a [1] [] [1,2] [] [11] (by kernel_rfl) ?_)
 replace a:=a.drew
 have e:=(a.ad [1] [])
 have h:=(a.ad [1,2] [])
 refine pL 0 r (mp r) e h (pL 1 r (mp r) e h (pL 2 r (xn r) e h (pL 3 r (mQ r) e h (tS 1 4 r (fun _ hS=>zM r (hS.bk 1 r) r) (nu e h) (pL 5 r (zF r) e h (tU 6 r (fun _ hS=>l9 r (hS.bk 0 r) r) (nu e h) (hO 7 (oo r r (jP a [[T c]] ([c]:List BA) (zK r) r r (by decide) ⟨r,y⟩) ?_))))))))
 rintro _ au ⟨av,rfl,a⟩
 have e:=(a.ad [2] [])
 have h:=(a.ad [2,3] [])
 refine ⟨(nu e h),?_⟩
 obtain ⟨a2,a3,v⟩:=bs v
 refine hO 8 (oo r r (kP a 4 4 r r kQ oQ r (by decide) (by decide) D r r (a.zP 0 0 r r) a3) ?_)
 rintro _ aw ⟨W,X,aa,rfl,a⟩
 have e:=(a.ad [2] [])
 have h:=(a.ad [2,3] [])
 refine ⟨(nu e h),(pL 9 r (xn r) e h (pL 10 r (mQ r) e h (hO 11 (os r r (t_n a 3 [Z W a2 X] r oH r r) fun ax a=>?_))))⟩
 have e:=(a.ad [2] [])
 refine ⟨(sy 11 e),(hD (q (g (s (ng [V 1,V 0,V 0,T c,T be,V 0,V 0,sn,T be,V 0,sn,sn,sn] lW jQ r (a.bk 2 r)) (lg (nX a 7 [V 1,V 0,V 0,T c,T be,V 0,V 0,sn,T be,V 0,sn,sn,sn] r jQ r r) fun ay a=>n (kT ?_))))))⟩
 replace a:=a.ku (d:=.l none 0 ([]:List Ge)) om
 replace a:=a.ku (d:=.l none 0 ([]:List Ge)) om
 replace a:=a.ku (d:=.l none 0 ([]:List Gs)) om
 replace a:=a.ku (d:=.l none 0 ([]:List Gs)) om
 obtain rfl:=sm v
 exact jI r (tV r lW r jQ r (a.bk 7 r)) (mM (mM (⟨none,0,none,0,none,0,none,0,W,X,aa,o,p,B,t,u,C,r,(a.ad [3,1,4,5,6] [3,2,1,0,5,7,8,9,10])⟩)))
def GD (m:Gm→jM→Option (Gs × Gm × jM)):Prop:=∀ {S:World} {U:Nat→Prop} {A:Gm} {B:jM} {Q:Nat} {c:Nat} {a:Option Addr} {b:Nat} {p:Option Addr} {t:Nat} {d:Option Addr} {e:Nat} {u:List (List Value)} {C:Nat} {h:Option Addr} {i:Nat} {x:List (List Value)} {D:Nat} {j:Option Addr} {k:Nat} {z:List (List Value)} {E:Nat} {R:Gs × Gm × jM},Pre S U [.box Q 135 #[Pt c,V A.f,V A.e,Z p A.d t,Z d A.a e,Z h A.c i,Z j A.b k,V A.g,V A.h],.box c 132 #[Z a B.l b,V B.a],O C d e 9 BA u,O D h i 9 BA x,O E j k 9 BA z] [.l a b B.l,.l p t A.d,.els u A.a,.els x A.c,.els z A.b]→C≤S.heap.size→D≤S.heap.size→E≤S.heap.size→m A B=some R→
 Calls Try.prog 88 #[Pt Q] S (qW fun v w=>jy R fun F R=>jy R fun o G=>∃ (H:OA)(I:Nat)(J:OA)(K:Nat)(L:OA)(M:Nat)(N:OA)(P:Nat),v=.agg #[V F.c,V F.f,V F.n,T F.b,T F.k,V F.m,V F.g,Z H F.d I,T F.j,V F.i,Z J F.a K,Z L F.e M,Z N F.h P]∧Bx S w U (lT [.box Q 135 #[Pt c,V A.f,V A.e,Z p A.d t,Z d A.a e,Z h A.c i,Z j A.b k,V A.g,V A.h],.box c 132 #[Z a B.l b,V B.a],O C d e 9 BA u,O D h i 9 BA x,O E j k 9 BA z]) [.box Q 135 #[Pt c,V o.f,V o.e,Z p o.d t,Z d o.a e,Z h o.c i,Z j o.b k,V o.g,V o.h],.box c 132 #[Z a G.l b,V G.a],O C d e 9 BA u,O D h i 9 BA x,O E j k 9 BA z] [.l H I F.d,.l J K F.a,.l L M F.e,.l N P F.h,.l a b G.l,.l p t o.d,.els u o.a,.els x o.c,.els z o.b])
def vF (fu:Nat)(h:Gm) (p:Int)(d:jM):Option (Ld (List Ge × List Int × Int × Int × Int × Int × BA × BA × Int × Int × List Ge × BA × Int × List Gs × List Gs × Int × Int × List Int × Int × Int × List BA × List BA × List BA) (Gs × Gm × jM)):=
 if p < 2 then
  (xM fu h d (⟨3,0,0,be,be,0,0,([]:List Ge),be,0,([]:List Ge),([]:List Gs),([]:List Gs)⟩:Gs)).bind fun u=>
  jy u fun i u=>jy u fun b u=>jy u fun c a=>
  if i=true then
   if 0 < (b.a.length:Int) then
    (kF fu c 4).bind fun u=>
    jy u fun j e=>
    if 0 < j then
     (kF fu e (b.a.length:Int)).bind fun u=>
     jy u fun k m=>
     (ix b.a k).bind fun t=>
     (nQ fu t).bind fun o=>
     some (.out ((⟨a.c,a.f,a.n,a.b,a.k,a.m,a.g,([o]:List Ge),a.j,a.i,a.a,a.e,a.h⟩:Gs),b,m))
    else
     some (.out (a,b,e))
   else
    some (.out (a,b,c))
  else
   some (.go (a.a,c.l,c.a,a.c,a.f,a.n,a.b,a.k,a.m,a.g,a.d,a.j,a.i,a.e,a.h,b.f,b.e,b.d,b.g,b.h,b.a,b.c,b.b))
 else
  some (.go (([]:List Ge),d.l,d.a,3,0,0,be,be,0,0,([]:List Ge),be,0,([]:List Gs),([]:List Gs),h.f,h.e,h.d,h.g,h.h,h.a,h.c,h.b))
def vI (fu:Nat)(b:Int)(a:List BA):Option (Ld (Bool) (Gs × Gm × jM)):=
 if b=6 then
  some (.go (decide (0 < (a.length:Int))))
 else
  some (.go false)
def vM (fu:Nat)(b:Int)(a:List BA):Option (Ld (Bool) (Gs × Gm × jM)):=
 if b=7 then
  some (.go (decide (0 < (a.length:Int))))
 else
  some (.go false)
def vH (fu:Nat)(w:Int)(m:List Int) (p:Int)(e:Int)(h:Int)(i:List Int) (j:Int)(k:Int)(b:List BA) (c:List BA) (d:List BA):Option (Ld (List Ge × List Int × Int × Int × Int × List Int × Int × Int × List BA × List BA × List BA) (Gs × Gm × jM)):=
 (vI fu w c).bind fun M=>M.el (fun x=>
 if x=true then
  (kF fu (⟨m,p⟩:jM) (c.length:Int)).bind fun M=>
  jy M fun z A=>
  (ix c z).bind fun J=>
  (kF fu A 2).bind fun M=>
  jy M fun B t=>
  (ix ([(⟨#[120]⟩:BA),(⟨#[121]⟩:BA)]:List BA) B).bind fun K=>
  some (.go (([(⟨2,0,0,J,K,([]:List Ge)⟩:Ge)]:List Ge),t.l,t.a,e,h,i,j,k,b,c,d))
 else
  (vM fu w d).bind fun M=>M.el (fun C=>
  if C=true then
   (mW fu (⟨e,h,i,b,c,d,j,k⟩:Gm) (⟨m,p⟩:jM) 1).bind fun M=>
   jy M fun D M=>jy M fun a u=>
   some (.go (([D]:List Ge),u.l,u.a,a.f,a.e,a.d,a.g,a.h,a.a,a.c,a.b))
  else
   if 0 < (b.length:Int) then
    (kF fu (⟨m,p⟩:jM) (b.length:Int)).bind fun M=>
    jy M fun E v=>
    (ix b E).bind fun L=>
    (nQ fu L).bind fun F=>
    some (.go (([F]:List Ge),v.l,v.a,e,h,i,j,k,b,c,d))
   else
    (l8 fu (⟨e,h,i,b,c,d,j,k⟩:Gm) (⟨m,p⟩:jM) 0).bind fun M=>
    jy M fun G M=>jy M fun H I=>
    some (.out ((⟨9,0,0,be,be,0,0,([]:List Ge),be,0,([G]:List Ge),([]:List Gs),([]:List Gs)⟩:Gs),H,I))
  ) (fun o=>some (.out o))
 ) (fun o=>some (.out o))
def wV (fu:Nat)(Y:Gm) (E:jM):Option (Gs × Gm × jM):=
 (kF fu E 8).bind fun a0=>
 jy a0 fun c F=>
 (vF fu Y c F).bind fun a0=>a0.el (fun a0=>
 jy a0 fun P a0=>jy a0 fun G a0=>jy a0 fun H a0=>jy a0 fun Q a0=>jy a0 fun R a0=>jy a0 fun S a0=>jy a0 fun U a0=>jy a0 fun W a0=>jy a0 fun X a0=>jy a0 fun I a0=>jy a0 fun J a0=>jy a0 fun K a0=>jy a0 fun L a0=>jy a0 fun M a0=>jy a0 fun N a0=>jy a0 fun d a0=>jy a0 fun e a0=>jy a0 fun f a0=>jy a0 fun h a0=>jy a0 fun i a0=>jy a0 fun j a0=>jy a0 fun k l=>
 (vH fu c G H d e f h i j k l).bind fun a0=>a0.el (fun a0=>
 jy a0 fun m a0=>jy a0 fun p a0=>jy a0 fun t a0=>jy a0 fun u a0=>jy a0 fun v a0=>jy a0 fun w a0=>jy a0 fun x a0=>jy a0 fun z a0=>jy a0 fun A a0=>jy a0 fun a b=>
 (l8 fu (⟨u,v,w,A,a,b,x,z⟩:Gm) (⟨p,t⟩:jM) 0).bind fun a0=>
 jy a0 fun B a0=>jy a0 fun C D=>
 some ((⟨2,0,0,be,be,0,0,m,be,0,([B]:List Ge),([]:List Gs),([]:List Gs)⟩:Gs),C,D)
 ) (fun o=>some o)
 ) (fun o=>some o)
theorem GV (fu:Nat):GD (wV fu):=by
 intro w0 du x0 bC al B t u N Q C D S ab E F U ac H I W ae R hP am an ao o
 unfold wV at o
 have b:=hP.bx
 clear hP
 generalize hG:lT _=G at b ⊢
 refine cf Try.func88 r ?_
 refine lK [(0,Pt al)] ⟨r,y⟩ fun dv=>?_
 refine q (g (tu b (jV jQ) fun w1 b1 b=>?_))
 refine n (q (g (s (CU r) (tu b (jV jQ) fun w2 b2 b=>?_))))
 refine lg (nX b 0 [V 3,V 0,V 0,T be,T be,V 0,V 0,sn,T be,V 0,sn,sn,sn] r jQ r r) fun w3 b=>?_
 refine n (q (g (s (mp r) (s (xn r) (s (oO r) (s (xG r (b.bk 2 r) r) ?_))))))
 obtain ⟨bD,bE,h4,o⟩:=lZ o
 have hc:=(jW fu) (b.pr [3] [0,1,2,4,5,6] [0] r)  h4
 refine sc (ec nW r) hc ?_
 rintro _ w4 ⟨rfl,hK⟩
 replace b:=b.cn [3] [0,1,2,4,5,6] hK
 refine s (xi r) (n (q ?_))
 replace b:=b.Ca Ge 138
 obtain ⟨Y6,p,o⟩:=bs o
 refine oq (fun f w=>∃ (b9:List Ge) (aT:OA)(aU:Nat)(aV:LV)(aj:List Int) (aQ:Int)(bg:Int)(bh:Int)(bi:Int)(bj:BA) (bl:BA) (bm:Int)(aW:Int)(aD:List Ge) (aE:OA)(aF:Nat)(aX:BA) (aY:Int)(aG:List Gs) (aH:OA)(aI:Nat)(aJ:List Gs) (aK:OA)(aL:Nat)(a3:Int)(a4:Int)(J:List Int) (a5:Int)(a6:Int)(K:List BA) (z:List BA) (A:List BA),Has f [(0,Pt al),(2,Pt b1),(3,Pt b2),(4,V bD)]∧Bx w0 w du G [O w0.heap.size aT aU 138 Ge aV,.box B 132 #[Z t aj u,V aQ],.box b2 111 #[V bg,V bh,V bi,T bj,T bl,V bm,V aW,Z aE aD aF,T aX,V aY,Z aT b9 aU,Z aH aG aI,Z aK aJ aL],.box b1 111 #[V 0,V 0,V 0,T be,T be,V 0,V 0,sn,T be,V 0,sn,sn,sn],.box al 135 #[Pt B,V a3,V a4,Z N J Q,Z C K D,Z E z F,Z H A I,V a5,V a6],O ab C D 9 BA S,O ac E F 9 BA U,O ae H I 9 BA W] [.l t u aj,.l aE aF aD,.l aH aI aG,.l aK aL aJ,.l N Q J,.els aV b9,.els S K,.els U z,.els W A]∧Ld.go (b9,aj,aQ,bg,bh,bi,bj,bl,bm,aW,aD,aX,aY,aG,aJ,a3,a4,J,a5,a6,K,z,A)=Y6) (fun J6 bT=>?_) ?_
 ·unfold vF at p
  refine q (g (s (mi r) (s (qo r r) (s (kL r) ?_))))
  rcases iv p with ⟨h7,p⟩|⟨h7,p⟩
  ·rw [decide_eq_true h7]
   refine kg r (s (mp r) ?_)
   replace b:=b.ku (d:=.l none 0 ([]:List Ge)) om
   replace b:=b.ku (d:=.l none 0 ([]:List Gs)) om
   replace b:=b.ku (d:=.l none 0 ([]:List Gs)) om
   obtain ⟨c2,a7,bn,a,c3,p⟩:=Xn p
   refine kg r ?_
   have hc:=(Em fu) (b.pr [4,1,5,6,7,2,0] [3] [4,6,7,8,9,2,3,1,0] r) (b.le am) (b.le an) (b.le ao) b.rD.size c3
   refine sc (ec TS r) hc ?_
   rintro _ cE ⟨e,j,aZ,rfl,hK⟩
   replace b:=b.cn [4,1,5,6,7,2,0] [3] hK
   refine s (kr r r) (n ?_)
   rcases iv p with ⟨bo,p⟩|⟨bo,p⟩
   ·refine jN (cb bo) (q (q (g (s (mp r) (s (xn r) (s (mQ r) (s (zM r (b.bk 0 r) r) (s (lX kQ r) (s (uX r r) (s (kL r) ?_))))))))))
    rcases iv p with ⟨bI,p⟩|⟨bI,p⟩
    ·rw [decide_eq_true bI]
     refine kg r (s (mp r) (kg r (s (xn r) (kg r (s (oO r) (kg r (s (xG r (b.bk 0 r) r) ?_)))))))
     obtain ⟨c4,c5,c6,p⟩:=lZ p
     refine kg r ?_
     have hc:=(jW fu) (b.pr [1] [0,2,3,4,5,6,7] [0] r)  c6
     refine sc (ec nW r) hc ?_
     rintro _ cF ⟨rfl,hK⟩
     replace b:=b.cn [1] [0,2,3,4,5,6,7] hK
     refine kg r (s (uX r r) (s (kr r r) (n ?_)))
     rcases iv p with ⟨bJ,p⟩|⟨bJ,p⟩
     ·refine jN (bt bJ) (pX b [1,2] [3] [] (by kernel_rfl) ?_)
      replace b:=b.drew
      have m:=(b.ad [1,2] [3])
      refine pF 0 r (mp r) m (pF 1 r (xn r) m (pF 2 r (mQ r) m (uF 3 r (fun hS=>zM r (hS.bk 0 r) r) m (pF 4 r (mp r) m (pF 5 r (xn r) m (pF 6 r (oO r) m (uF 7 r (fun hS=>xG r (hS.bk 0 r) r) m (pF 8 r (mp r) m (pF 9 r (xn r) m (pF 10 r (mQ r) m (uF 11 r (fun hS=>zM r (hS.bk 0 r) r) m (pF 12 r (lX kQ r) m ?_))))))))))))
      obtain ⟨c7,c8,c9,p⟩:=lZ p
      have hc:=(jW fu) (b.pr [0] [1,2,3,4,5,6,7] [0] r)  c9
      refine hO 13 (oc r r (ec nW r) hc ?_)
      rintro _ cG ⟨rfl,hK⟩
      replace b:=b.cn [0] [1,2,3,4,5,6,7] hK
      have m:=(b.ad [1,2] [4])
      refine ⟨(sF m),?_⟩
      obtain ⟨cc,ba,p⟩:=bs p
      obtain ⟨cH,bU,ba⟩:=kJ ba
      refine pF 14 r (kW kQ oQ r r bU (b.vw 2 4 r r) ba) m (tU 15 r (fun _ hS=>jT uq r r ((uy (ds:=[T cc]) (hS.vw 1 0 r r) ba (fun _ h=>h)) 0 _ r)) (sF m) ?_)
      obtain ⟨L,cd,p⟩:=bs p
      have hc:=(oL fu) (b.pr [] [0,1,2,3,4,5,6,7] [] r)  cd
      refine hO 16 (oc r r (ec D9 r) hc ?_)
      rintro _ cI ⟨au,av,rfl,hK⟩
      replace b:=b.cn [] [0,1,2,3,4,5,6,7] hK
      have m:=(b.ad [1,2] [5])
      refine ⟨(sF m),?_⟩
      refine hO 17 (oo r r (jP b [[V L.e,V L.d,V L.g,T L.b,T L.c,Z au L.a av]] ([L]:List Ge) (kS r) r r (by decide) ⟨(jB.inn ⟨au,av,r,(b.dl 0 r)⟩),y⟩) ?_)
      rintro _ cJ ⟨bc,rfl,b⟩
      have m:=(b.ad [2,3] [6])
      refine ⟨(sF m),?_⟩
      refine pF 18 r (xK r) m ?_
      refine hO 19 (os r r (t_n b 6 [.slice (ad bc) ([L]:List Ge).length 1] r uw r r) fun cK b=>?_)
      have m:=(b.ad [2,3] [6])
      refine ⟨(sF m),?_⟩
      refine hD (q (g (s (ng [V a.c,V a.f,V a.n,T a.b,T a.k,V a.m,V a.g,.slice (ad bc) ([L]:List Ge).length 1,T a.j,V a.i,Z e a.a j,Z none a.e 0,Z none a.h 0] lW jQ r (b.bk 6 r)) (lg (nX b 8 [V a.c,V a.f,V a.n,T a.b,T a.k,V a.m,V a.g,.slice (ad bc) ([L]:List Ge).length 1,T a.j,V a.i,Z e a.a j,Z none a.e 0,Z none a.h 0] r jQ r r) fun cL b=>?_))))
      refine n (kT ?_)
      replace b:=b.fz 0 0 r r
      replace b:=b.fz 6 10 r r
      obtain rfl:=sm p
      replace o:=oi o
      obtain rfl:=sm o
      refine jI r (tV r lW r jQ r (b.bk 6 r)) ?_
      exact mM (mM (⟨(ad bc),1,e,j,none,0,none,0,r,(b.ad [1,0,2,3,4] [1,0,11,12,3,6,7,8,9])⟩))
     refine jK (bf bJ) (wk (q (g (s (ng [V a.c,V a.f,V a.n,T a.b,T a.k,V a.m,V a.g,Z none a.d 0,T a.j,V a.i,Z e a.a j,Z none a.e 0,Z none a.h 0] lW jQ r (b.bk 5 r)) (lg (nX b 7 [V a.c,V a.f,V a.n,T a.b,T a.k,V a.m,V a.g,Z none a.d 0,T a.j,V a.i,Z e a.a j,Z none a.e 0,Z none a.h 0] r jQ r r) fun cM b=>?_)))))
     refine n (kT ?_)
     replace b:=b.fz 6 7 r r
     obtain rfl:=sm p
     replace o:=oi o
     obtain rfl:=sm o
     refine jI r (tV r lW r jQ r (b.bk 6 r)) ?_
     exact mM (mM (⟨none,0,e,j,none,0,none,0,r,(b.ad [1,0,2,3,4] [7,0,8,9,1,3,4,5,6])⟩))
    rw [decide_eq_false bI]
    refine jC r (jC r (jC r (jC r (jC r (jC r (s (jY r r) (n (jK r (wk (q (g (s (ng [V a.c,V a.f,V a.n,T a.b,T a.k,V a.m,V a.g,Z none a.d 0,T a.j,V a.i,Z e a.a j,Z none a.e 0,Z none a.h 0] lW jQ r (b.bk 5 r)) (lg (nX b 7 [V a.c,V a.f,V a.n,T a.b,T a.k,V a.m,V a.g,Z none a.d 0,T a.j,V a.i,Z e a.a j,Z none a.e 0,Z none a.h 0] r jQ r r) fun cN b=>?_)))))))))))))
    refine n (kT ?_)
    replace b:=b.fz 6 6 r r
    obtain rfl:=sm p
    replace o:=oi o
    obtain rfl:=sm o
    refine jI r (tV r lW r jQ r (b.bk 6 r)) ?_
    exact mM (mM (⟨none,0,e,j,none,0,none,0,r,(b.ad [0,1,2,3,4] [6,0,7,8,1,2,3,4,5])⟩))
   replace bo:=nt bo
   refine jK (cb bo) (wk ?_)
   exact bT _ _ ⟨a.a,e,j,aZ,bn.l,bn.a,a.c,a.f,a.n,a.b,a.k,a.m,a.g,a.d,none,0,a.j,a.i,a.e,none,0,a.h,none,0,a7.f,a7.e,a7.d,a7.g,a7.h,a7.a,a7.c,a7.b,⟨r,r,r,r,y⟩,(b.ad [6,1,5,7,0,2,3,4] [0,5,7,8,1,6,2,3,4]),sm p⟩
  rw [decide_eq_false h7]
  refine jC r (jC r (s (jY r r) (n (jK r (wk ?_)))))
  replace b:=b.ku (d:=.l none 0 ([]:List Ge)) om
  replace b:=b.ku (d:=.l none 0 ([]:List Gs)) om
  replace b:=b.ku (d:=.l none 0 ([]:List Gs)) om
  exact bT _ _ ⟨([]:List Ge),none,0,[],bE.l,bE.a,3,0,0,be,be,0,0,([]:List Ge),none,0,be,0,([]:List Gs),none,0,([]:List Gs),none,0,x0.f,x0.e,x0.d,x0.g,x0.h,x0.a,x0.c,x0.b,⟨r,r,r,r,y⟩,(b.dp [4,2,1,0,6,3,7,8,9]),sm p⟩
 clear b
 rintro f w ⟨b9,aT,aU,aV,aj,aQ,bg,bh,bi,bj,bl,bm,aW,aD,aE,aF,aX,aY,aG,aH,aI,aJ,aK,aL,a3,a4,J,a5,a6,K,z,A,hf,b,cg⟩
 obtain ⟨dv,rfl⟩:=iA _ _ hf
 clear hf
 subst cg
 replace o:=gi o
 replace o:=pi (mG (mG (mG (mG (mG (mG (mG o)))))))
 refine q (g (s (CU r) (lg (nX b 2 [V 2,V 0,V 0,T be,T be,V 0,V 0,sn,T be,V 0,sn,sn,sn] r jQ r r) fun cO b=>?_)))
 refine n (q ?_)
 replace b:=b.Ca Ge 138
 obtain ⟨ch,c,o⟩:=bs o
 refine oq (fun f w=>∃ (a8:List Ge) (X:OA)(Y:Nat)(aM:LV)(aN:List Int) (b0:Int)(b3:Int)(b4:Int)(aO:List Int) (b5:Int)(b6:Int)(aP:List BA) (ap:List BA) (aq:List BA),Has f [(0,Pt al),(2,Pt b1),(3,Pt b2)]∧Bx w0 w du G [O w0.heap.size X Y 138 Ge aM,.box B 132 #[Z t aN u,V b0],.box b2 111 #[V 2,V 0,V 0,T be,T be,V 0,V 0,Z X a8 Y,T be,V 0,sn,sn,sn],.box b1 111 #[V 0,V 0,V 0,T be,T be,V 0,V 0,sn,T be,V 0,sn,sn,sn],.box al 135 #[Pt B,V b3,V b4,Z N aO Q,Z C aP D,Z E ap F,Z H aq I,V b5,V b6],O ab C D 9 BA S,O ac E F 9 BA U,O ae H I 9 BA W] [.l t u aN,.l N Q aO,.els aM a8,.els S aP,.els U ap,.els W aq]∧Ld.go (a8,aN,b0,b3,b4,aO,b5,b6,aP,ap,aq)=ch) (fun cP bp=>?_) ?_
 ·unfold vH at c
  refine oM (q ?_)
  obtain ⟨ci,aw,c⟩:=bs c
  refine oq (fun f w=>∃ (b7:Bool),Has f [(0,Pt al),(2,Pt b1),(3,Pt b2),(4,V bD),(56,.bool b7)]∧Bx w0 w du G [O w0.heap.size none 0 138 Ge [],.box B 132 #[Z t aj u,V aQ],.box b2 111 #[V 2,V 0,V 0,T be,T be,V 0,V 0,.slice none ([]:List Ge).length 0,T be,V 0,sn,sn,sn],.box b1 111 #[V 0,V 0,V 0,T be,T be,V 0,V 0,sn,T be,V 0,sn,sn,sn],.box al 135 #[Pt B,V a3,V a4,Z N J Q,Z C K D,Z E z F,Z H A I,V a5,V a6],O ab C D 9 BA S,O ac E F 9 BA U,O ae H I 9 BA W] [.els [] ([]:List Ge),.l t u aj,.l N Q J,.els S K,.els U z,.els W A]∧Ld.go b7=ci) (fun cQ bF=>?_) ?_
  ·unfold vI at aw
   refine g (s (mi r) (s (kD r r) (s (kL r) ?_)))
   rcases iv aw with ⟨bK,aw⟩|⟨bK,aw⟩
   ·rw [decide_eq_true bK]
    refine kg r (s (mp r) (kg r (s (xn r) (kg r (s (qh r) (kg r (s (zM r (b.bk 5 r) r) (kg r (s (lX kQ r) (kg r (s (uX r r) (s (kr r r) (s (kC r) ?_)))))))))))))
    refine n ?_
    exact bF _ _ ⟨(decide (0 < (z.length:Int))),⟨r,r,r,r,r,y⟩,(b.ad [0,2,3,4,5,6,7,8] [0,1,5,7,8,9]),sm aw⟩
   rw [decide_eq_false bK]
   refine jC r (jC r (jC r (jC r (jC r (jC r (s (jY r r) (s (kC r) (n ?_))))))))
   exact bF _ _ ⟨false,⟨r,r,r,r,r,y⟩,(b.ad [0,2,3,4,5,6,7,8] [0,1,5,7,8,9]),sm aw⟩
  clear b
  rintro f w ⟨b7,hf,b,bV⟩
  obtain ⟨dv,rfl⟩:=iA _ _ hf
  clear hf
  subst bV
  replace c:=gi c
  rcases iv c with ⟨bq,c⟩|⟨bq,c⟩
  ·refine jN (cb bq) ?_
   obtain ⟨cj,ck,bW,c⟩:=lZ c
   obtain ⟨a1,ax,c⟩:=bs c
   obtain ⟨cR,bG,ax⟩:=kJ ax
   obtain ⟨cm,ar,bL,c⟩:=lZ c
   obtain ⟨a0,ak,c⟩:=bs c
   obtain ⟨cS,br,ak⟩:=kJ ak
   refine oq (fun f w=>∃ (aR:Nat),Has f [(0,Pt al),(2,Pt b1),(3,Pt b2)]∧Bx w0 w du G [.box B 132 #[Z t ar.l u,V ar.a],.box b2 111 #[V 2,V 0,V 0,T be,T be,V 0,V 0,.slice (ad aR) ([(⟨2,0,0,a1,a0,([]:List Ge)⟩:Ge)]:List Ge).length 1,T be,V 0,sn,sn,sn],.box b1 111 #[V 0,V 0,V 0,T be,T be,V 0,V 0,sn,T be,V 0,sn,sn,sn],.box al 135 #[Pt B,V a3,V a4,Z N J Q,Z C K D,Z E z F,Z H A I,V a5,V a6],O ab C D 9 BA S,O ac E F 9 BA U,O ae H I 9 BA W,O w0.heap.size (ad aR) 1 138 Ge [[V 2,V 0,V 0,T a1,T a0,sn]]] [.l N Q J,.els S K,.els U z,.els W A,.els [[V 2,V 0,V 0,T a1,T a0,sn]] ([(⟨2,0,0,a1,a0,([]:List Ge)⟩:Ge)]:List Ge),.l t u ar.l]) (fun Jd hJd=>?_) ?_
   ·refine pX b [4,6] [4] [] (by kernel_rfl) ?_
    replace b:=b.drew
    have m:=(b.ad [4,6] [4])
    refine pF 0 r (mp r) m (pF 1 r (xn r) m (pF 2 r (qh r) m (uF 3 r (fun hS=>zM r (hS.bk 0 r) r) m (pF 4 r (mp r) m (pF 5 r (xn r) m (pF 6 r (oO r) m (uF 7 r (fun hS=>xG r (hS.bk 0 r) r) m (pF 8 r (mp r) m (pF 9 r (xn r) m (pF 10 r (qh r) m (uF 11 r (fun hS=>zM r (hS.bk 0 r) r) m (pF 12 r (lX kQ r) m (pF 17 r (mp r) m ?_)))))))))))))
    refine pF 18 r (xn r) m (pF 19 r (oO r) m (uF 20 r (fun hS=>xG r (hS.bk 0 r) r) m ?_))
    refine mH 13 [16] (by kernel_rfl) (jL ?_ (jL ?_ lH))
    ·have hc:=(jW fu) (b.pr [1] [0,2,3,4,5,6,7] [1] r)  bW
     refine oc r r (ec nW r) hc ?_
     rintro _ cn ⟨rfl,hK⟩
     replace b:=b.cn [1] [0,2,3,4,5,6,7] hK
     have m:=(b.ad [4,6] [5])
     refine ⟨(sF m),?_⟩
     refine pF 14 r (kW kQ oQ r r bG (b.vw 6 5 r r) ax) m (tU 15 r (fun _ hS=>jT uq r r ((uy (ds:=[T a1]) (hS.vw 1 0 r r) ax (fun _ h=>h)) 0 _ r)) (sF m) ?_)
     refine mH 16 [21] (by kernel_rfl) (jL ?_ (jL ?_ lH))
     ·refine oo r r (jP b [[T (⟨#[120]⟩:BA)],[T (⟨#[121]⟩:BA)]] ([(⟨#[120]⟩:BA),(⟨#[121]⟩:BA)]:List BA) (vC r r) r r (by decide) ⟨r,⟨r,y⟩⟩) ?_
      rintro _ cT ⟨cU,rfl,b⟩
      have m:=(b.ad [5,7] [6])
      refine ⟨(sF m),?_⟩
      have hc:=(jW fu) (b.pr [1] [0,2,3,4,5,6,7,8] [1] r)  bL
      refine hO 21 (oc r r (ec nW r) hc ?_)
      rintro _ bX ⟨rfl,hK⟩
      replace b:=b.cn [1] [0,2,3,4,5,6,7,8] hK
      have m:=(b.ad [5,7] [7])
      refine ⟨(sF m),?_⟩
      refine pF 22 r (kW kQ oQ r r br (b.vw 1 1 r r) ak) m ?_
      refine hO 23 (uH r r (jT uq r r ((uy (ds:=[T a0]) (b.vw 1 1 r r) ak (fun _ h=>h)) 0 _ r)) (sF m) ?_)
      refine pF 24 r (uG r r r) m ?_
      refine hO 25 (oo r r (jP b [[V 2,V 0,V 0,T a1,T a0,sn]] ([(⟨2,0,0,a1,a0,([]:List Ge)⟩:Ge)]:List Ge) (kS r) r r (by decide) ⟨(jB.inn ⟨none,0,r,om⟩),y⟩) ?_)
      rintro _ cV ⟨aR,rfl,b⟩
      have m:=(b.ad [6,8] [8])
      refine ⟨(sF m),?_⟩
      refine pF 26 r (xK r) m ?_
      refine hO 27 (os r r (t_n b 4 [.slice (ad aR) ([(⟨2,0,0,a1,a0,([]:List Ge)⟩:Ge)]:List Ge).length 1] r uw r r) fun cW b=>?_)
      have m:=(b.ad [6,8] [8])
      refine ⟨(sF m),?_⟩
      refine hD ?_
      exact hJd _ _ ⟨aR,⟨r,r,r,y⟩,(b.ad [1,4,5,6,7,8,9,0] [6,7,8,9,0,1])⟩
     have hc:=(jW fu) (b.pr [0] [1,2,3,4,5,6,7] [0] r)  bL
     refine oc r r (ec nW r) hc ?_
     rintro _ bX ⟨rfl,hK⟩
     replace b:=b.cn [0] [1,2,3,4,5,6,7] hK
     have m:=(b.ad [4,6] [6])
     refine ⟨(sF m),?_⟩
     refine hO 16 (oo r r (jP b [[T (⟨#[120]⟩:BA)],[T (⟨#[121]⟩:BA)]] ([(⟨#[120]⟩:BA),(⟨#[121]⟩:BA)]:List BA) (vC r r) r r (by decide) ⟨r,⟨r,y⟩⟩) ?_)
     rintro _ cX ⟨cY,rfl,b⟩
     have m:=(b.ad [5,7] [7])
     refine ⟨(sF m),?_⟩
     refine pF 22 r (kW kQ oQ r r br (b.vw 0 0 r r) ak) m ?_
     refine hO 23 (uH r r (jT uq r r ((uy (ds:=[T a0]) (b.vw 0 0 r r) ak (fun _ h=>h)) 0 _ r)) (sF m) ?_)
     refine pF 24 r (uG r r r) m ?_
     refine hO 25 (oo r r (jP b [[V 2,V 0,V 0,T a1,T a0,sn]] ([(⟨2,0,0,a1,a0,([]:List Ge)⟩:Ge)]:List Ge) (kS r) r r (by decide) ⟨(jB.inn ⟨none,0,r,om⟩),y⟩) ?_)
     rintro _ cZ ⟨bM,rfl,b⟩
     have m:=(b.ad [6,8] [8])
     refine ⟨(sF m),?_⟩
     refine pF 26 r (xK r) m ?_
     refine hO 27 (os r r (t_n b 4 [.slice (ad bM) ([(⟨2,0,0,a1,a0,([]:List Ge)⟩:Ge)]:List Ge).length 1] r uw r r) fun d0 b=>?_)
     have m:=(b.ad [6,8] [8])
     refine ⟨(sF m),?_⟩
     refine hD ?_
     exact hJd _ _ ⟨bM,⟨r,r,r,y⟩,(b.ad [2,4,5,6,7,8,9,0] [6,7,8,9,0,2])⟩
    refine oo r r (jP b [[T (⟨#[120]⟩:BA)],[T (⟨#[121]⟩:BA)]] ([(⟨#[120]⟩:BA),(⟨#[121]⟩:BA)]:List BA) (vC r r) r r (by decide) ⟨r,⟨r,y⟩⟩) ?_
    rintro _ d1 ⟨d2,rfl,b⟩
    have m:=(b.ad [5,7] [5])
    refine ⟨(sF m),?_⟩
    have hc:=(jW fu) (b.pr [2] [0,1,3,4,5,6,7,8] [2] r)  bW
    refine hO 13 (oc r r (ec nW r) hc ?_)
    rintro _ cn ⟨rfl,hK⟩
    replace b:=b.cn [2] [0,1,3,4,5,6,7,8] hK
    have m:=(b.ad [5,7] [6])
    refine ⟨(sF m),?_⟩
    refine pF 14 r (kW kQ oQ r r bG (b.vw 7 6 r r) ax) m (tU 15 r (fun _ hS=>jT uq r r ((uy (ds:=[T a1]) (hS.vw 1 0 r r) ax (fun _ h=>h)) 0 _ r)) (sF m) ?_)
    have hc:=(jW fu) (b.pr [0] [1,2,3,4,5,6,7,8] [0] r)  bL
    refine hO 21 (oc r r (ec nW r) hc ?_)
    rintro _ bX ⟨rfl,hK⟩
    replace b:=b.cn [0] [1,2,3,4,5,6,7,8] hK
    have m:=(b.ad [5,7] [7])
    refine ⟨(sF m),?_⟩
    refine pF 22 r (kW kQ oQ r r br (b.vw 1 2 r r) ak) m ?_
    refine hO 23 (uH r r (jT uq r r ((uy (ds:=[T a0]) (b.vw 1 2 r r) ak (fun _ h=>h)) 0 _ r)) (sF m) ?_)
    refine pF 24 r (uG r r r) m ?_
    refine hO 25 (oo r r (jP b [[V 2,V 0,V 0,T a1,T a0,sn]] ([(⟨2,0,0,a1,a0,([]:List Ge)⟩:Ge)]:List Ge) (kS r) r r (by decide) ⟨(jB.inn ⟨none,0,r,om⟩),y⟩) ?_)
    rintro _ d3 ⟨bN,rfl,b⟩
    have m:=(b.ad [6,8] [8])
    refine ⟨(sF m),?_⟩
    refine pF 26 r (xK r) m ?_
    refine hO 27 (os r r (t_n b 4 [.slice (ad bN) ([(⟨2,0,0,a1,a0,([]:List Ge)⟩:Ge)]:List Ge).length 1] r uw r r) fun d4 b=>?_)
    have m:=(b.ad [6,8] [8])
    refine ⟨(sF m),?_⟩
    refine hD ?_
    exact hJd _ _ ⟨bN,⟨r,r,r,y⟩,(b.ad [1,4,5,6,7,8,9,0] [6,7,8,9,0,1])⟩
   clear b
   rintro f w ⟨aR,hf,b⟩
   obtain ⟨dv,rfl⟩:=iA _ _ hf
   clear hf
   exact bp _ _ ⟨([(⟨2,0,0,a1,a0,([]:List Ge)⟩:Ge)]:List Ge),(ad aR),1,[[V 2,V 0,V 0,T a1,T a0,sn]],ar.l,ar.a,a3,a4,J,a5,a6,K,z,A,⟨r,r,r,y⟩,(b.ad [7,0,1,2,3,4,5,6] [5,0,4,1,2,3]),sm c⟩
  replace bq:=nt bq
  refine jK (cb bq) (q ?_)
  obtain ⟨co,ay,c⟩:=bs c
  refine oq (fun f w=>∃ (b8:Bool),Has f [(0,Pt al),(2,Pt b1),(3,Pt b2),(94,.bool b8)]∧Bx w0 w du G [O w0.heap.size none 0 138 Ge [],.box B 132 #[Z t aj u,V aQ],.box b2 111 #[V 2,V 0,V 0,T be,T be,V 0,V 0,.slice none ([]:List Ge).length 0,T be,V 0,sn,sn,sn],.box b1 111 #[V 0,V 0,V 0,T be,T be,V 0,V 0,sn,T be,V 0,sn,sn,sn],.box al 135 #[Pt B,V a3,V a4,Z N J Q,Z C K D,Z E z F,Z H A I,V a5,V a6],O ab C D 9 BA S,O ac E F 9 BA U,O ae H I 9 BA W] [.els [] ([]:List Ge),.l t u aj,.l N Q J,.els S K,.els U z,.els W A]∧Ld.go b8=co) (fun d5 bH=>?_) ?_
  ·unfold vM at ay
   refine g (s (mi r) (s (kD r r) (s (kL r) ?_)))
   rcases iv ay with ⟨bO,ay⟩|⟨bO,ay⟩
   ·rw [decide_eq_true bO]
    refine kg r (s (mp r) (kg r (s (xn r) (kg r (s (qQ r) (kg r (s (zM r (b.bk 4 r) r) (kg r (s (lX kQ r) (kg r (s (uX r r) (s (kr r r) (s (kC r) ?_)))))))))))))
    refine n ?_
    exact bH _ _ ⟨(decide (0 < (A.length:Int))),⟨r,r,r,r,y⟩,b,sm ay⟩
   rw [decide_eq_false bO]
   refine jC r (jC r (jC r (jC r (jC r (jC r (s (jY r r) (s (kC r) (n ?_))))))))
   exact bH _ _ ⟨false,⟨r,r,r,r,y⟩,b,sm ay⟩
  clear b
  rintro f w ⟨b8,hf,b,bY⟩
  obtain ⟨dv,rfl⟩:=iA _ _ hf
  clear hf
  subst bY
  replace c:=gi c
  rcases iv c with ⟨bu,c⟩|⟨bu,c⟩
  ·refine jN (cb bu) (g (s (mp r) ?_))
   obtain ⟨v,a9,bv,cp,c⟩:=vD c
   have hc:=(ET fu) (b.pr [4,1,5,6,7] [0,2,3] [1,2,3,4,5] r) (b.le am) (b.le an) (b.le ao) cp
   refine sc (ec PN r) hc ?_
   rintro _ d6 ⟨af,ag,rfl,hK⟩
   replace b:=b.cn [4,1,5,6,7] [0,2,3] hK
   refine nU (jP b [[V v.e,V v.d,V v.g,T v.b,T v.c,Z af v.a ag]] ([v]:List Ge) (kS r) r r (by decide) ⟨(jB.inn ⟨af,ag,r,(b.dl 0 r)⟩),y⟩) ?_
   rintro _ d7 ⟨bP,rfl,b⟩
   refine s (xK r) (lg (t_n b 7 [.slice (ad bP) ([v]:List Ge).length 1] r uw r r) fun d8 b=>?_)
   refine n ?_
   exact bp _ _ ⟨([v]:List Ge),(ad bP),1,[[V v.e,V v.d,V v.g,T v.b,T v.c,Z af v.a ag]],bv.l,bv.a,a9.f,a9.e,a9.d,a9.g,a9.h,a9.a,a9.c,a9.b,⟨r,r,r,y⟩,(b.ad [0,2,7,8,1,3,4,5] [2,3,0,4,5,6]),sm c⟩
  replace bu:=nt bu
  refine jK (cb bu) (q (g (s (mp r) (s (xn r) (s (mQ r) (s (zM r (b.bk 4 r) r) (s (lX kQ r) (s (uX r r) (s (kC r) (n ?_))))))))))
  rcases iv c with ⟨bQ,c⟩|⟨bQ,c⟩
  ·refine jN (bt bQ) (pX b [4,5] [3] [] (by kernel_rfl) ?_)
   replace b:=b.drew
   have m:=(b.ad [4,5] [3])
   refine pF 0 r (mp r) m (pF 1 r (xn r) m (pF 2 r (mQ r) m (uF 3 r (fun hS=>zM r (hS.bk 0 r) r) m (pF 4 r (mp r) m (pF 5 r (xn r) m (pF 6 r (oO r) m (uF 7 r (fun hS=>xG r (hS.bk 0 r) r) m (pF 8 r (mp r) m (pF 9 r (xn r) m (pF 10 r (mQ r) m (uF 11 r (fun hS=>zM r (hS.bk 0 r) r) m (pF 12 r (lX kQ r) m ?_))))))))))))
   obtain ⟨cq,bw,cr,c⟩:=lZ c
   have hc:=(jW fu) (b.pr [1] [0,2,3,4,5,6,7] [1] r)  cr
   refine hO 13 (oc r r (ec nW r) hc ?_)
   rintro _ d9 ⟨rfl,hK⟩
   replace b:=b.cn [1] [0,2,3,4,5,6,7] hK
   have m:=(b.ad [4,5] [4])
   refine ⟨(sF m),?_⟩
   obtain ⟨ct,bb,c⟩:=bs c
   obtain ⟨da,bZ,bb⟩:=kJ bb
   refine pF 14 r (kW kQ oQ r r bZ (b.vw 5 4 r r) bb) m (tU 15 r (fun _ hS=>jT uq r r ((uy (ds:=[T ct]) (hS.vw 1 0 r r) bb (fun _ h=>h)) 0 _ r)) (sF m) ?_)
   obtain ⟨x,cu,c⟩:=bs c
   have hc:=(oL fu) (b.pr [] [0,1,2,3,4,5,6,7] [] r)  cu
   refine hO 16 (oc r r (ec D9 r) hc ?_)
   rintro _ db ⟨ah,ai,rfl,hK⟩
   replace b:=b.cn [] [0,1,2,3,4,5,6,7] hK
   have m:=(b.ad [4,5] [5])
   refine ⟨(sF m),?_⟩
   refine hO 17 (oo r r (jP b [[V x.e,V x.d,V x.g,T x.b,T x.c,Z ah x.a ai]] ([x]:List Ge) (kS r) r r (by decide) ⟨(jB.inn ⟨ah,ai,r,(b.dl 0 r)⟩),y⟩) ?_)
   rintro _ QY ⟨bR,rfl,b⟩
   have m:=(b.ad [5,6] [6])
   refine ⟨(sF m),?_⟩
   refine pF 18 r (xK r) m ?_
   refine hO 19 (os r r (t_n b 3 [.slice (ad bR) ([x]:List Ge).length 1] r uw r r) fun dc b=>?_)
   have m:=(b.ad [5,6] [6])
   refine ⟨(sF m),?_⟩
   refine hD ?_
   exact bp _ _ ⟨([x]:List Ge),(ad bR),1,[[V x.e,V x.d,V x.g,T x.b,T x.c,Z ah x.a ai]],bw.l,bw.a,a3,a4,J,a5,a6,K,z,A,⟨r,r,r,y⟩,(b.ad [0,1,3,4,5,6,7,8] [2,5,0,6,7,8]),sm c⟩
  refine jK (bf bQ) (q (g (s (mp r) ?_)))
  obtain ⟨a2,cv,cw,cx,c⟩:=vD c
  have hc:=(rM fu) (b.pr [4,1,5,6,7] [0,2,3] [1,2,3,4,5] r) (b.le am) (b.le an) (b.le ao) cx
  refine sc (ec Ag r) hc ?_
  rintro _ dd ⟨az,aA,rfl,hK⟩
  replace b:=b.cn [4,1,5,6,7] [0,2,3] hK
  refine nU (jP b [[V a2.e,V a2.d,V a2.g,T a2.b,T a2.c,Z az a2.a aA]] ([a2]:List Ge) (kS r) r r (by decide) ⟨(jB.inn ⟨az,aA,r,(b.dl 0 r)⟩),y⟩) ?_
  rintro _ de ⟨bS,rfl,b⟩
  refine s (qb r r) (lg (nX b 8 [V 9,V 0,V 0,T be,T be,V 0,V 0,sn,T be,V 0,.slice (ad bS) ([a2]:List Ge).length 1,sn,sn] r jQ r r) fun df b=>?_)
  refine n (kT ?_)
  replace b:=b.fz 0 0 r r
  replace b:=b.ku (d:=.l none 0 ([]:List Ge)) om
  replace b:=b.ku (d:=.l none 0 ([]:List Gs)) om
  replace b:=b.ku (d:=.l none 0 ([]:List Gs)) om
  obtain rfl:=sm c
  replace o:=oi o
  obtain rfl:=sm o
  refine jI r (tV r lW r jQ r (b.bk 7 r)) ?_
  exact mM (mM (⟨none,0,(ad bS),1,none,0,none,0,r,(b.ad [0,1,2,3,4] [2,3,1,0,5,6,7,8,9])⟩))
 clear b
 rintro f w ⟨a8,X,Y,aM,aN,b0,b3,b4,aO,b5,b6,aP,ap,aq,hf,b,c0⟩
 obtain ⟨dv,rfl⟩:=iA _ _ hf
 clear hf
 subst c0
 replace o:=gi o
 replace o:=pi (mG (mG (mG o)))
 refine q (g (s (mp r) ?_))
 obtain ⟨M,cy,cz,cA,o⟩:=vD o
 have hc:=(rM fu) (b.pr [4,1,5,6,7] [0,2,3] [0,1,3,4,5] r) (b.le am) (b.le an) (b.le ao) cA
 refine sc (ec Ag r) hc ?_
 rintro _ dg ⟨aB,aC,rfl,hK⟩
 replace b:=b.cn [4,1,5,6,7] [0,2,3] hK
 refine nU (jP b [[V M.e,V M.d,V M.g,T M.b,T M.c,Z aB M.a aC]] ([M]:List Ge) (kS r) r r (by decide) ⟨(jB.inn ⟨aB,aC,r,(b.dl 0 r)⟩),y⟩) ?_
 rintro _ dh ⟨bd,rfl,b⟩
 refine s (uT r) (lg (t_n b 7 [.slice (ad bd) ([M]:List Ge).length 1] r uw r r) fun di b=>?_)
 refine n (q (g (s (ng [V 2,V 0,V 0,T be,T be,V 0,V 0,Z X a8 Y,T be,V 0,.slice (ad bd) ([M]:List Ge).length 1,sn,sn] lW jQ r (b.bk 7 r)) (lg (nX b 8 [V 2,V 0,V 0,T be,T be,V 0,V 0,Z X a8 Y,T be,V 0,.slice (ad bd) ([M]:List Ge).length 1,sn,sn] r jQ r r) fun dj b=>?_))))
 refine n (kT ?_)
 replace b:=b.fz 6 9 r r
 replace b:=b.fz 0 1 r r
 replace b:=b.ku (d:=.l none 0 ([]:List Gs)) om
 replace b:=b.ku (d:=.l none 0 ([]:List Gs)) om
 obtain rfl:=sm o
 refine jI r (tV r lW r jQ r (b.bk 6 r)) ?_
 exact mM (mM (⟨X,Y,(ad bd),1,none,0,none,0,r,(b.ad [0,1,2,3,4] [3,2,1,0,5,6,7,8,9])⟩))
abbrev nJ:=lD→jM→Int→Int→Option ((List jD) × lD × jM)
abbrev nI:=lD→jM→Int→Option ((List jD) × lD × jM)
abbrev mJ:=lD→jM→Int→Int→Option ((List jD) × lD × jM)
def yM (m:Gm→jM→Int→Int→Option ((List Gs) × Gm × jM)):Prop:=∀ {X:World} {a2:Nat→Prop} {i:Gm} {j:jM} {Y:Int} {x2:Int} {W:Nat} {c:Nat} {a:Option Addr} {b:Nat} {e:Option Addr} {h:Nat} {k:Option Addr} {o:Nat} {C:List (List Value)} {p:Nat} {t:Option Addr} {u:Nat} {D:List (List Value)} {x:Nat} {z:Option Addr} {A:Nat} {E:List (List Value)} {B:Nat} {R:(List Gs) × Gm × jM},Pre X a2 [.box W 135 #[Pt c,V i.f,V i.e,Z e i.d h,Z k i.a o,Z t i.c u,Z z i.b A,V i.g,V i.h],.box c 132 #[Z a j.l b,V j.a],O p k o 9 BA C,O x t u 9 BA D,O B z A 9 BA E] [.l a b j.l,.l e h i.d,.els C i.a,.els D i.c,.els E i.b]→p≤X.heap.size→x≤X.heap.size→B≤X.heap.size→m i j Y x2=some R→
 Calls Try.prog 84 #[Pt W,V Y,V x2] X (qW fun v w=>jy R fun r0 R=>jy R fun d F=>∃ (Q:OA)(S:Nat)(U:LV)(G:OA)(H:Nat)(I:LV)(J:OA)(K:Nat)(L:LV)(M:OA)(N:Nat)(P:LV),v=Z Q r0 S∧Bx X w a2 (lT [.box W 135 #[Pt c,V i.f,V i.e,Z e i.d h,Z k i.a o,Z t i.c u,Z z i.b A,V i.g,V i.h],.box c 132 #[Z a j.l b,V j.a],O p k o 9 BA C,O x t u 9 BA D,O B z A 9 BA E]) [O X.heap.size Q S 111 Gs U,.box W 135 #[Pt c,V d.f,V d.e,Z e d.d h,Z G d.a H,Z J d.c K,Z M d.b N,V d.g,V d.h],.box c 132 #[Z a F.l b,V F.a],O p G H 9 BA I,O x J K 9 BA L,O B M N 9 BA P] [.els U r0,.l a b F.l,.l e h d.d,.els I d.a,.els L d.c,.els P d.b])
def yO (m:Gm→jM→Int→Option ((List Gs) × Gm × jM)):Prop:=∀ {X:World} {a1:Nat→Prop} {i:Gm} {j:jM} {Y:Int} {W:Nat} {c:Nat} {a:Option Addr} {b:Nat} {e:Option Addr} {h:Nat} {k:Option Addr} {o:Nat} {C:List (List Value)} {p:Nat} {t:Option Addr} {u:Nat} {D:List (List Value)} {x:Nat} {z:Option Addr} {A:Nat} {E:List (List Value)} {B:Nat} {R:(List Gs) × Gm × jM},Pre X a1 [.box W 135 #[Pt c,V i.f,V i.e,Z e i.d h,Z k i.a o,Z t i.c u,Z z i.b A,V i.g,V i.h],.box c 132 #[Z a j.l b,V j.a],O p k o 9 BA C,O x t u 9 BA D,O B z A 9 BA E] [.l a b j.l,.l e h i.d,.els C i.a,.els D i.c,.els E i.b]→p≤X.heap.size→x≤X.heap.size→B≤X.heap.size→m i j Y=some R→
 Calls Try.prog 85 #[Pt W,V Y] X (qW fun v w=>jy R fun r0 R=>jy R fun d F=>∃ (Q:OA)(S:Nat)(U:LV)(G:OA)(H:Nat)(I:LV)(J:OA)(K:Nat)(L:LV)(M:OA)(N:Nat)(P:LV),v=Z Q r0 S∧Bx X w a1 (lT [.box W 135 #[Pt c,V i.f,V i.e,Z e i.d h,Z k i.a o,Z t i.c u,Z z i.b A,V i.g,V i.h],.box c 132 #[Z a j.l b,V j.a],O p k o 9 BA C,O x t u 9 BA D,O B z A 9 BA E]) [O X.heap.size Q S 111 Gs U,.box W 135 #[Pt c,V d.f,V d.e,Z e d.d h,Z G d.a H,Z J d.c K,Z M d.b N,V d.g,V d.h],.box c 132 #[Z a F.l b,V F.a],O p G H 9 BA I,O x J K 9 BA L,O B M N 9 BA P] [.els U r0,.l a b F.l,.l e h d.d,.els I d.a,.els L d.c,.els P d.b])
def uO (m:Gm→jM→Int→Int→Option ((List Gs) × Gm × jM)):Prop:=∀ {X:World} {a2:Nat→Prop} {i:Gm} {j:jM} {Y:Int} {x2:Int} {W:Nat} {c:Nat} {a:Option Addr} {b:Nat} {e:Option Addr} {h:Nat} {k:Option Addr} {o:Nat} {C:List (List Value)} {p:Nat} {t:Option Addr} {u:Nat} {D:List (List Value)} {x:Nat} {z:Option Addr} {A:Nat} {E:List (List Value)} {B:Nat} {R:(List Gs) × Gm × jM},Pre X a2 [.box W 135 #[Pt c,V i.f,V i.e,Z e i.d h,Z k i.a o,Z t i.c u,Z z i.b A,V i.g,V i.h],.box c 132 #[Z a j.l b,V j.a],O p k o 9 BA C,O x t u 9 BA D,O B z A 9 BA E] [.l a b j.l,.l e h i.d,.els C i.a,.els D i.c,.els E i.b]→p≤X.heap.size→x≤X.heap.size→B≤X.heap.size→m i j Y x2=some R→
 Calls Try.prog 58 #[Pt W,V Y,V x2] X (qW fun v w=>jy R fun r0 R=>jy R fun d F=>∃ (Q:OA)(S:Nat)(U:LV)(G:OA)(H:Nat)(I:LV)(J:OA)(K:Nat)(L:LV)(M:OA)(N:Nat)(P:LV),v=Z Q r0 S∧Bx X w a2 (lT [.box W 135 #[Pt c,V i.f,V i.e,Z e i.d h,Z k i.a o,Z t i.c u,Z z i.b A,V i.g,V i.h],.box c 132 #[Z a j.l b,V j.a],O p k o 9 BA C,O x t u 9 BA D,O B z A 9 BA E]) [O X.heap.size Q S 111 Gs U,.box W 135 #[Pt c,V d.f,V d.e,Z e d.d h,Z G d.a H,Z J d.c K,Z M d.b N,V d.g,V d.h],.box c 132 #[Z a F.l b,V F.a],O p G H 9 BA I,O x J K 9 BA L,O B M N 9 BA P] [.els U r0,.l a b F.l,.l e h d.d,.els I d.a,.els L d.c,.els P d.b])
def zD (fu:Nat)(r_kit_stmts:mJ) (r_kit_body:nJ) (r_kit_loop:nI) (e:Gm) (b:jM) (i:Int)(j:Int):Option ((List Gs) × Gm × jM):=
 (r_kit_stmts e b i j).bind fun t=>
 jy t fun c t=>jy t fun a d=>
 (sl a.a 0 (e.a.length:Int)).bind fun k=>
 (sl a.c 0 (e.c.length:Int)).bind fun l=>
 (sl a.b 0 (e.b.length:Int)).bind fun m=>
 (app ([]:List BA) k).bind fun o=>
 (app ([]:List BA) l).bind fun p=>
 (app ([]:List BA) m).bind fun h=>
 some (c,(⟨a.f,a.e,a.d,o,p,h,a.g,a.h⟩:Gm),d)
def zq (fu:Nat)(r_kit_stmts:mJ) (r_kit_body:nJ) (r_kit_loop:nI) (u:Gm) (c:jM) (v:Int):Option ((List Gs) × Gm × jM):=
 (um fu u c).bind fun x=>
 jy x fun b a=>
 (app a.a ([b]:List BA)).bind fun w=>
 (nQ fu b).bind fun m=>
 (kF fu c 4).bind fun x=>
 jy x fun o p=>
 (rX fu (wr (1+o))).bind fun d=>
 (r_kit_body (⟨a.f,a.e,a.d,w,a.c,a.b,a.g,a.h⟩:Gm) p (wr (v+1)) 4).bind fun x=>
 jy x fun e x=>jy x fun h i=>
 (nQ fu b).bind fun j=>
 (nQ fu b).bind fun k=>
 (rX fu 1).bind fun l=>
 (app e ([(⟨2,0,0,be,be,0,0,([j]:List Ge),be,0,([(⟨6,0,0,be,be,([k,l]:List Ge)⟩:Ge)]:List Ge),([]:List Gs),([]:List Gs)⟩:Gs)]:List Gs)).bind fun t=>
 some (([(⟨1,0,0,b,be,0,0,([]:List Ge),be,0,([]:List Ge),([]:List Gs),([]:List Gs)⟩:Gs),(⟨5,0,0,be,be,0,0,([]:List Ge),be,0,([(⟨14,0,0,be,be,([m,d]:List Ge)⟩:Ge)]:List Ge),t,([]:List Gs)⟩:Gs)]:List Gs),h,i)
def wF (fu:Nat)(r_kit_stmts:mJ) (r_kit_body:nJ) (r_kit_loop:nI) (a:Int)(b:Int):Option (Ld (Bool) ((List Gs) × Gm × jM)):=
 if b < 3 then
  some (.go (decide (a < 14)))
 else
  some (.go false)
def vY (fu:Nat)(r_kit_stmts:mJ) (r_kit_body:nJ) (r_kit_loop:nI) (b:Int)(a:Int):Option (Ld (Bool) ((List Gs) × Gm × jM)):=
 if a=3 then
  some (.go (decide (b < 4)))
 else
  some (.go false)
def xg (fu:Nat)(r_kit_stmts:mJ) (r_kit_body:nJ) (r_kit_loop:nI) (j:Int)(a:Gm) (e:jM):Option (Ld (List Gs × Int × Int × List Int × Int × Int × List Int × Int × List BA × List BA × List BA) ((List Gs) × Gm × jM)):=
 (kF fu e 2).bind fun k=>
 jy k fun h c=>
 if h=1 then
  (r_kit_body a c (wr (j+1)) 3).bind fun k=>
  jy k fun i k=>jy k fun b d=>
  some (.go (i,b.f,b.e,b.d,b.g,b.h,d.l,d.a,b.a,b.c,b.b))
 else
  some (.go (([]:List Gs),a.f,a.e,a.d,a.g,a.h,c.l,c.a,a.a,a.c,a.b))
def xk (fu:Nat)(r_kit_stmts:mJ) (r_kit_body:nJ) (r_kit_loop:nI) (c:Int)(a:Int)(b:Int):Option (Ld (Bool) ((List Gs) × Gm × jM)):=
 if b=4 then
  if c < 4 then
   some (.go (decide (a < 14)))
  else
   some (.go false)
 else
  some (.go false)
def wQ (fu:Nat)(r_kit_stmts:mJ) (r_kit_body:nJ) (r_kit_loop:nI) (c:Int)(a:Int)(b:Int):Option (Ld (Bool) ((List Gs) × Gm × jM)):=
 if b=5 then
  if c < 4 then
   some (.go (decide (a < 14)))
  else
   some (.go false)
 else
  some (.go false)
def xC (fu:Nat)(r_kit_stmts:mJ) (r_kit_body:nJ) (r_kit_loop:nI) (d:Int)(a:jM):Option (Ld (Bool × List Int × Int) ((List Gs) × Gm × jM)):=
 if d=7 then
  (kF fu a 3).bind fun e=>
  jy e fun c b=>
  some (.go ((decide (c=0)),b.l,b.a))
 else
  some (.go (false,a.l,a.a))
def wO (fu:Nat)(r_kit_stmts:mJ) (r_kit_body:nJ) (r_kit_loop:nI) (j:Int)(k:Int)(m:List Int) (o:Int)(p:Int)(d:List BA) (e:List BA) (h:List BA) (t:List Int) (u:Int):Option (Ld (Bool × List Ge × Int × Int × Int × BA × BA × Int × Int × List Ge × BA × Int × List Gs × List Gs × List Int × Int × Int × Int × List Int × Int × Int × List BA × List BA × List BA) ((List Gs) × Gm × jM)):=
 (kF fu (⟨t,u⟩:jM) 2).bind fun x=>
 jy x fun v c=>
 if v=0 then
  some (.go (true,([]:List Ge),6,0,0,be,be,0,0,([]:List Ge),be,0,([]:List Gs),([]:List Gs),c.l,c.a,j,k,m,o,(wr (p - 1)),d,e,h))
 else
  (xM fu (⟨j,k,m,d,e,h,o,(wr (p - 1))⟩:Gm) c (⟨6,0,0,be,be,0,0,([]:List Ge),be,0,([]:List Ge),([]:List Gs),([]:List Gs)⟩:Gs)).bind fun x=>
  jy x fun w x=>jy x fun b x=>jy x fun i a=>
  some (.go ((!w),a.a,a.c,a.f,a.n,a.b,a.k,a.m,a.g,a.d,a.j,a.i,a.e,a.h,i.l,i.a,b.f,b.e,b.d,b.g,b.h,b.a,b.c,b.b))
def wH (fu:Nat)(r_kit_stmts:mJ) (r_kit_body:nJ) (r_kit_loop:nI) (Q:Int)(R:Int)(S:List Int) (U:Int)(W:Int)(A:List BA) (B:List BA) (C:List BA) (D:List Int) (E:Int):Option (Ld (List Ge × Int × Int × Int × BA × BA × Int × Int × List Ge × BA × Int × List Gs × List Gs × List Int × Int × Int × Int × List Int × Int × Int × List BA × List BA × List BA) ((List Gs) × Gm × jM)):=
 (wO fu r_kit_stmts r_kit_body r_kit_loop Q R S U W A B C D E).bind fun X=>X.el (fun X=>
 jy X fun F X=>jy X fun G X=>jy X fun H X=>jy X fun I X=>jy X fun J X=>jy X fun K X=>jy X fun L X=>jy X fun M X=>jy X fun N X=>jy X fun u X=>jy X fun v X=>jy X fun w X=>jy X fun x X=>jy X fun z X=>jy X fun b X=>jy X fun c X=>jy X fun d X=>jy X fun e X=>jy X fun h X=>jy X fun i X=>jy X fun j X=>jy X fun k X=>jy X fun m p=>
 if F=true then
  (l8 fu (⟨d,e,h,k,m,p,i,j⟩:Gm) (⟨b,c⟩:jM) 0).bind fun X=>
  jy X fun P X=>jy X fun a t=>
  some (.go (([P]:List Ge),6,0,0,be,be,0,0,([]:List Ge),be,0,([]:List Gs),([]:List Gs),t.l,t.a,a.f,a.e,a.d,a.g,a.h,a.a,a.c,a.b))
 else
  some (.go (G,H,I,J,K,L,M,N,u,v,w,x,z,b,c,d,e,h,i,j,k,m,p))
 ) (fun o=>some (.out o))
def wE (fu:Nat)(r_kit_stmts:mJ) (r_kit_body:nJ) (r_kit_loop:nI) (e:Int)(b:List Int) (c:Int):Option (Ld (Bool × List Int × Int) ((List Gs) × Gm × jM)):=
 if e=8 then
  (kF fu (⟨b,c⟩:jM) 3).bind fun f=>
  jy f fun d a=>
  some (.go ((decide (d=0)),a.l,a.a))
 else
  some (.go (false,b,c))
def vL (fu:Nat)(r_kit_stmts:mJ) (r_kit_body:nJ) (r_kit_loop:nI) (f:Int)(e:Int)(b:List Int) (c:Int):Option (Ld (Bool × List Int × Int) ((List Gs) × Gm × jM)):=
 if e=9 then
  (kF fu (⟨b,c⟩:jM) 8).bind fun h=>
  jy h fun d a=>
  if d=0 then
   some (.go ((decide (f < 4)),a.l,a.a))
  else
   some (.go (false,a.l,a.a))
 else
  some (.go (false,b,c))
def lN (fu:Nat)(r_kit_stmts:mJ) (r_kit_body:nJ) (r_kit_loop:nI) (D:Int)(Y:Int):Nat→Int→(List Gs)→Int→Int→(List Int)→Int→Int→(List Int)→Int→(List BA)→(List BA)→(List BA)→Option (Ld (Int × List Gs × Int × Int × List Int × Int × Int × List Int × Int × List BA × List BA × List BA) ((List Gs) × Gm × jM))
 | 0,_,_,_,_,_,_,_,_,_,_,_,_=>none
 | n1+1,j,p,t,u,v,d,k,E,F,a,b,c=>
 if j < Y then
  if 0 < k then
   (AR fu (⟨E,F⟩:jM)).bind fun b0=>
   if b0=true then
    (kF fu (⟨E,F⟩:jM) 16).bind fun bg=>
    jy bg fun B C=>
    (wF fu r_kit_stmts r_kit_body r_kit_loop d B).bind fun bg=>bg.el (fun b1=>
    if b1=true then
     (u6 fu (⟨t,u,v,a,b,c,d,(wr (k - 1))⟩:Gm) C).bind fun bg=>
     jy bg fun aq bg=>jy bg fun w N=>
     (app p ([aq]:List Gs)).bind fun b6=>
     lN fu r_kit_stmts r_kit_body r_kit_loop D Y n1 (wr (j+1)) b6 w.f w.e w.d w.g w.h N.l N.a w.a w.c w.b
    else
     (vY fu r_kit_stmts r_kit_body r_kit_loop D B).bind fun bg=>bg.el (fun ar=>
     if ar=true then
      (l8 fu (⟨t,u,v,a,b,c,d,(wr (k - 1))⟩:Gm) C 0).bind fun bg=>
      jy bg fun au bg=>jy bg fun av aw=>
      (r_kit_body av aw (wr (D+1)) 4).bind fun bg=>
      jy bg fun ax bg=>jy bg fun ay az=>
      (xg fu r_kit_stmts r_kit_body r_kit_loop D ay az).bind fun bg=>bg.el (fun bg=>
      jy bg fun aA bg=>jy bg fun aB bg=>jy bg fun aC bg=>jy bg fun aD bg=>jy bg fun aE bg=>jy bg fun aF bg=>jy bg fun aG bg=>jy bg fun aH bg=>jy bg fun aI bg=>jy bg fun a1 a2=>
      (app p ([(⟨4,0,0,be,be,0,0,([]:List Ge),be,0,([au]:List Ge),ax,aA⟩:Gs)]:List Gs)).bind fun b7=>
      lN fu r_kit_stmts r_kit_body r_kit_loop D Y n1 (wr (j+1)) b7 aB aC aD aE aF aG aH aI a1 a2
      ) (fun o=>some (.out o))
     else
      (xk fu r_kit_stmts r_kit_body r_kit_loop D d B).bind fun bg=>bg.el (fun aJ=>
      if aJ=true then
       (r_kit_loop (⟨t,u,v,a,b,c,d,(wr (k - 1))⟩:Gm) C D).bind fun bg=>
       jy bg fun aK bg=>jy bg fun x P=>
       (app p aK).bind fun b8=>
       lN fu r_kit_stmts r_kit_body r_kit_loop D Y n1 (wr (j+1)) b8 x.f x.e x.d x.g x.h P.l P.a x.a x.c x.b
      else
       (wQ fu r_kit_stmts r_kit_body r_kit_loop D d B).bind fun bg=>bg.el (fun aL=>
       if aL=true then
        (r_kit_body (⟨t,u,v,a,b,c,d,(wr (k - 1))⟩:Gm) C (wr (D+1)) 4).bind fun bg=>
        jy bg fun aM bg=>jy bg fun aN Q=>
        (um fu aN Q).bind fun bg=>
        jy bg fun R z=>
        (app z.a ([R]:List BA)).bind fun b9=>
        (r_kit_body (⟨z.f,z.e,z.d,b9,z.c,z.b,z.g,z.h⟩:Gm) Q (wr (D+1)) 3).bind fun bg=>
        jy bg fun aO bg=>jy bg fun m S=>
        (sl m.a 0 (wr ((m.a.length:Int) - 1))).bind fun ba=>
        (app ([]:List BA) ba).bind fun bb=>
        (app p ([(⟨8,0,0,R,be,0,0,([]:List Ge),be,0,([]:List Ge),aM,aO⟩:Gs)]:List Gs)).bind fun bc=>
        lN fu r_kit_stmts r_kit_body r_kit_loop D Y n1 (wr (j+1)) bc m.f m.e m.d m.g m.h S.l S.a bb m.c m.b
       else
        if B=6 then
         (l8 fu (⟨t,u,v,a,b,c,d,(wr (k - 1))⟩:Gm) C 0).bind fun bg=>
         jy bg fun aP bg=>jy bg fun A U=>
         (app p ([(⟨9,0,0,be,be,0,0,([]:List Ge),be,0,([aP]:List Ge),([]:List Gs),([]:List Gs)⟩:Gs)]:List Gs)).bind fun bd=>
         lN fu r_kit_stmts r_kit_body r_kit_loop D Y n1 (wr (j+1)) bd A.f A.e A.d A.g A.h U.l U.a A.a A.c A.b
        else
         (xC fu r_kit_stmts r_kit_body r_kit_loop B C).bind fun bg=>bg.el (fun bg=>
         jy bg fun aQ bg=>jy bg fun W X=>
         if aQ=true then
          (wH fu r_kit_stmts r_kit_body r_kit_loop t u v d k a b c W X).bind fun bg=>bg.el (fun bg=>
          jy bg fun aR bg=>jy bg fun aS bg=>jy bg fun aT bg=>jy bg fun aU bg=>jy bg fun aV bg=>jy bg fun aW bg=>jy bg fun aX bg=>jy bg fun aY bg=>jy bg fun aZ bg=>jy bg fun a3 bg=>jy bg fun a4 bg=>jy bg fun a5 bg=>jy bg fun a6 bg=>jy bg fun a7 bg=>jy bg fun a8 bg=>jy bg fun a9 bg=>jy bg fun aa bg=>jy bg fun ab bg=>jy bg fun ac bg=>jy bg fun ae bg=>jy bg fun af bg=>jy bg fun ag ah=>
          (app p ([(⟨aS,aT,aU,aV,aW,aX,aY,aZ,a3,a4,aR,a5,a6⟩:Gs)]:List Gs)).bind fun b2=>
          lN fu r_kit_stmts r_kit_body r_kit_loop D Y n1 (wr (j+1)) b2 a9 aa ab ac ae a7 a8 af ag ah
          ) (fun o=>some (.out o))
         else
          (wE fu r_kit_stmts r_kit_body r_kit_loop B W X).bind fun bg=>bg.el (fun bg=>
          jy bg fun ai bg=>jy bg fun G H=>
          if ai=true then
           (l8 fu (⟨t,u,v,a,b,c,d,(wr (k - 1))⟩:Gm) (⟨G,H⟩:jM) 1).bind fun bg=>
           jy bg fun aj bg=>jy bg fun e I=>
           (app p ([(⟨7,0,0,be,be,0,0,([]:List Ge),be,0,([aj]:List Ge),([]:List Gs),([]:List Gs)⟩:Gs)]:List Gs)).bind fun b3=>
           lN fu r_kit_stmts r_kit_body r_kit_loop D Y n1 (wr (j+1)) b3 e.f e.e e.d e.g e.h I.l I.a e.a e.c e.b
          else
           (vL fu r_kit_stmts r_kit_body r_kit_loop D B G H).bind fun bg=>bg.el (fun bg=>
           jy bg fun ak bg=>jy bg fun J K=>
           if ak=true then
            (l8 fu (⟨t,u,v,a,b,c,d,(wr (k - 1))⟩:Gm) (⟨J,K⟩:jM) 1).bind fun bg=>
            jy bg fun al bg=>jy bg fun am an=>
            (r_kit_body am an (wr (D+1)) 3).bind fun bg=>
            jy bg fun ao bg=>jy bg fun h L=>
            (app p ([(⟨5,0,0,be,be,0,0,([]:List Ge),be,0,([al]:List Ge),ao,([]:List Gs)⟩:Gs)]:List Gs)).bind fun b4=>
            lN fu r_kit_stmts r_kit_body r_kit_loop D Y n1 (wr (j+1)) b4 h.f h.e h.d h.g h.h L.l L.a h.a h.c h.b
           else
            (wV fu (⟨t,u,v,a,b,c,d,(wr (k - 1))⟩:Gm) (⟨J,K⟩:jM)).bind fun bg=>
            jy bg fun ap bg=>jy bg fun i M=>
            (app p ([ap]:List Gs)).bind fun b5=>
            lN fu r_kit_stmts r_kit_body r_kit_loop D Y n1 (wr (j+1)) b5 i.f i.e i.d i.g i.h M.l M.a i.a i.c i.b
           ) (fun o=>some (.out o))
          ) (fun o=>some (.out o))
         ) (fun o=>some (.out o))
       ) (fun o=>some (.out o))
      ) (fun o=>some (.out o))
     ) (fun o=>some (.out o))
    ) (fun o=>some (.out o))
   else
    some (.go (j,p,t,u,v,d,k,E,F,a,b,c))
  else
   some (.go (j,p,t,u,v,d,k,E,F,a,b,c))
 else
  some (.go (j,p,t,u,v,d,k,E,F,a,b,c))
def yI (fu:Nat)(r_kit_stmts:mJ) (r_kit_body:nJ) (r_kit_loop:nI) (a:Gm) (b:jM) (w:Int)(x:Int):Option ((List Gs) × Gm × jM):=
 (lN fu r_kit_stmts r_kit_body r_kit_loop w x fu 0 ([]:List Gs) a.f a.e a.d a.g a.h b.l b.a a.a a.c a.b).bind fun z=>z.el (fun z=>
 jy z fun v z=>jy z fun h z=>jy z fun i z=>jy z fun j z=>jy z fun k z=>jy z fun m z=>jy z fun p z=>jy z fun t z=>jy z fun u z=>jy z fun c z=>jy z fun d e=>
 some (h,(⟨i,j,k,c,d,e,m,p⟩:Gm),(⟨t,u⟩:jM))
 ) (fun o=>some o)
def nT:Nat→(Gm→jM→Int→Int→Option ((List Gs) × Gm × jM)) × (Gm→jM→Int→Option ((List Gs) × Gm × jM)) × (Gm→jM→Int→Int→Option ((List Gs) × Gm × jM))
 | 0=>((fun _ _ _ _=>none),(fun _ _ _=>none),(fun _ _ _ _=>none))
 | fu+1=>(zD fu ((nT fu).2.2) ((nT fu).1) ((nT fu).2.1),zq fu ((nT fu).2.2) ((nT fu).1) ((nT fu).2.1),yI fu ((nT fu).2.2) ((nT fu).1) ((nT fu).2.1))
def mg (fu:Nat):=(nT fu).1
def mD (fu:Nat):=(nT fu).2.1
def kZ (fu:Nat):=(nT fu).2.2
theorem Kk (fu:Nat)(r_kit_stmts:mJ) (r_kit_body:nJ) (r_kit_loop:nI) (H_kit_stmts:uO r_kit_stmts) (H_kit_body:yM r_kit_body) (H_kit_loop:yO r_kit_loop):yM (zD fu r_kit_stmts r_kit_body r_kit_loop):=by
 intro w0 cS x0 ap x1 x2 ar h Y a0 j m ac ae au af ag ah av ai aj ak aw al R hP a8 a9 aa hM
 unfold zD at hM
 have b:=hP.bx
 clear hP
 generalize hG:lT _=G at b ⊢
 refine cf Try.func84 r (lK [(0,Pt ar),(1,V x1),(2,V x2)] ⟨r,r,r,y⟩ fun cT=>q (g (s (nk r) (n (q (pX b [0] [] [] (by kernel_rfl) ?_))))))
 replace b:=b.drew
 have c:=(b.ad [0] [])
 refine pF 0 r (mp r) c (pF 1 r (xn r) c (pF 2 r (mQ r) c (uF 3 r (fun hS=>zM r (hS.bk 0 r) r) c (pF 4 r (lX kQ r) c (pF 5 r (mp r) c (pF 6 r (xn r) c (pF 7 r (qh r) c (uF 8 r (fun hS=>zM r (hS.bk 0 r) r) c (pF 9 r (lX kQ r) c (pF 10 r (mp r) c (pF 11 r (xn r) c (pF 12 r (qQ r) c (uF 13 r (fun hS=>zM r (hS.bk 0 r) r) c (pF 14 r (lX kQ r) c (pF 15 r (xi r) c (pF 16 r (xi r) c (pF 17 r (xi r) c (hD (q (g (s (mp r) (s (mi r) (s (mi r) ?_)))))))))))))))))))))))
 obtain ⟨aq,a,am,h1,hM⟩:=vD hM
 have hc:=H_kit_stmts (b.pr [0,1,2,3,4] [] [0,1,2,3,4] r) (b.le a8) (b.le a9) (b.le aa) h1
 refine sc (ec Ti r) hc ?_
 rintro _ w1 ⟨a1,a2,a3,a6,a7,ay,u,v,az,d,e,aA,rfl,hK⟩
 have aE:=b.rD.size
 replace b:=b.cn [0,1,2,3,4] [] hK
 replace b:=b.rb 0 w0.heap.size r aE
 refine s (nk r) (n (q ?_))
 obtain ⟨l2,aF,hM⟩:=bs hM
 obtain ⟨i2,j2,br,aG,aO,W,X⟩:=Bf aF
 obtain rfl:i2=0:=by omega
 have aB:l2.length=j2:=by rw [← X,List.length_take,List.length_drop];omega
 obtain ⟨l3,aH,hM⟩:=bs hM
 obtain ⟨i3,j3,bv,aI,aR,K,L⟩:=Bf aH
 obtain rfl:i3=0:=by omega
 have aC:l3.length=j3:=by rw [← L,List.length_take,List.length_drop];omega
 obtain ⟨l4,aJ,hM⟩:=bs hM
 obtain ⟨i4,j4,bz,aK,aU,M,N⟩:=Bf aJ
 obtain rfl:i4=0:=by omega
 have aD:l4.length=j4:=by rw [← N,List.length_take,List.length_drop];omega
 obtain ⟨F,a4,hM⟩:=bs hM
 obtain ⟨H,Q,hM⟩:=bs hM
 obtain ⟨E,I,hM⟩:=bs hM
 refine oq (fun f w=>∃ (x:OA)(A:Nat)(B:OA)(C:Nat)(p:OA)(t:Nat)(S:LV)(J:LV)(D:LV),Has f [(10,Z a1 aq a2)]∧Bx w0 w cS G [O w0.heap.size a1 a2 111 Gs a3,.box ar 135 #[Pt h,V a.f,V a.e,Z j a.d m,Z x F A,Z B H C,Z p E t,V a.g,V a.h],.box h 132 #[Z Y am.l a0,V am.a],O w0.heap.size x A 9 BA S,O w0.heap.size B C 9 BA J,O w0.heap.size p t 9 BA D] [.els a3 aq,.l Y a0 am.l,.l j m a.d,.els D E,.els S F,.els J H]) (fun Jd hJd=>?_) ?_
 ·refine Kr b [] [] [1] [] [29,32,35] (by kernel_rfl) ?_
  replace b:=b.drew
  have c:=(b.ad [] [])
  have o:=(b.ad [1] [])
  refine pL 0 r (mp r) c o (pL 1 r (mp r) c o (pL 2 r (mp r) c o (pL 4 r (mp r) c o (pL 5 r (xn r) c o (pL 6 r (mQ r) c o (tS 1 7 r (fun _ hS=>zM r (hS.bk 0 r) r) (nu c o) (pL 8 r (mi r) c o (tP 9 r (fun _=>show Yl _ _ _ _ _ _ _ _ _ (.slice a6 l2.length a7) from (congrArg (fun z=>Value.slice a6 z a7) aB).symm ▸ yQ j2 kQ oQ r r aG (Nat.le_trans W ((b.vw 3 3 r r)).cap)) (nu c o) (pL 12 r (mp r) c o (pL 13 r (xn r) c o (pL 14 r (qh r) c o (tS 1 15 r (fun _ hS=>zM r (hS.bk 0 r) r) (nu c o) (pL 16 r (mi r) c o (tP 17 r (fun _=>show Yl _ _ _ _ _ _ _ _ _ (.slice u l3.length v) from (congrArg (fun z=>Value.slice u z v) aC).symm ▸ yQ j3 kQ oQ r r aI (Nat.le_trans K ((b.vw 4 4 r r)).cap)) (nu c o) (pL 20 r (mp r) c o (pL 21 r (xn r) c o (pL 22 r (qQ r) c o (tS 1 23 r (fun _ hS=>zM r (hS.bk 0 r) r) (nu c o) (pL 24 r (mi r) c o (tP 25 r (fun _=>show Yl _ _ _ _ _ _ _ _ _ (.slice d l4.length e) from (congrArg (fun z=>Value.slice d z e) aD).symm ▸ yQ j4 kQ oQ r r aK (Nat.le_trans M ((b.vw 5 5 r r)).cap)) (nu c o) (mH 3 [11,19] (by kernel_rfl) (jL ?_ (jL ?_ (jL ?_ lH))))))))))))))))))))))))
  ·refine oo r r (jP b [] ([]:List BA) (mq) r r (by decide) y) ?_
   rintro _ bA ⟨bB,rfl,b⟩
   have c:=(b.ad [] [])
   have o:=(b.ad [2] [])
   refine ⟨(nu c o),(mH 10 [11,19] (by kernel_rfl) (jL ?_ (jL ?_ (jL ?_ lH))))⟩
   ·refine oo r r (kP b 0 0 r r kQ oQ r (by decide) (by decide) (Nat.le_refl _) r r (b.zO 4 4 r r W X) a4) ?_
    rintro _ w6 ⟨x,A,S,rfl,b⟩
    have c:=(b.ad [] [])
    have o:=(b.ad [2] [])
    refine ⟨(nu c o),(mH 11 [19] (by kernel_rfl) (jL ?_ (jL ?_ lH)))⟩
    ·refine oo r r (jP b [] ([]:List BA) (mq) r r (by decide) y) ?_
     rintro _ bC ⟨bD,rfl,b⟩
     have c:=(b.ad [] [])
     have o:=(b.ad [3] [])
     refine ⟨(nu c o),(mH 18 [19] (by kernel_rfl) (jL ?_ (jL ?_ lH)))⟩
     ·refine oo r r (kP b 0 0 r r kQ oQ r (by decide) (by decide) (Nat.le_refl _) r r (b.zO 6 6 r r K L) Q) ?_
      rintro _ w9 ⟨B,C,J,rfl,b⟩
      have c:=(b.ad [] [])
      have o:=(b.ad [3] [])
      refine ⟨(nu c o),(hO 19 (oo r r (jP b [] ([]:List BA) (mq) r r (by decide) y) ?_))⟩
      rintro _ bE ⟨bF,rfl,b⟩
      have c:=(b.ad [] [])
      have o:=(b.ad [4] [])
      refine ⟨(nu c o),(hO 26 (oo r r (kP b 0 0 r r kQ oQ r (by decide) (by decide) (Nat.le_refl _) r r (b.zO 8 8 r r M N) I) ?_))⟩
      rintro _ U ⟨p,t,D,rfl,b⟩
      have c:=(b.ad [] [])
      have o:=(b.ad [4] [])
      refine ⟨(nu c o),(pL 27 r (xn r) c o (pL 28 r (mQ r) c o (hO 29 (os r r (t_n b 4 [Z x F A] r oH r r) fun bG b=>?_))))⟩
      have c:=(b.ad [] [])
      refine ⟨(sy 29 c),(tP 30 r (fun _=>xn r) (sy 29 c) (tP 31 r (fun _=>qh r) (sy 29 c) (hO 32 (os r r (t_n b 4 [Z B H C] r oH r r) fun bH b=>?_))))⟩
      have c:=(b.ad [] [])
      refine ⟨(sy 29 c),(tP 33 r (fun _=>xn r) (sy 29 c) (tP 34 r (fun _=>qQ r) (sy 29 c) (hO 35 (os r r (t_n b 4 [Z p E t] r oH r r) fun bI b=>?_))))⟩
      have c:=(b.ad [] [])
      exact ⟨(sy 29 c),(hD (hJd _ _ ⟨x,A,B,C,p,t,S,J,D,⟨r,y⟩,(b.ad [3,4,5,2,1,0] [3,4,5,0,2,1])⟩))⟩
     refine oo r r (jP b [] ([]:List BA) (mq) r r (by decide) y) ?_
     rintro _ bJ ⟨bK,rfl,b⟩
     have c:=(b.ad [] [])
     have o:=(b.ad [4] [])
     refine ⟨(nu c o),(hO 18 (oo r r (kP b 1 1 r r kQ oQ r (by decide) (by decide) (Nat.le_refl _) r r (b.zO 7 7 r r K L) Q) ?_))⟩
     rintro _ w9 ⟨B,C,J,rfl,b⟩
     have c:=(b.ad [] [])
     have o:=(b.ad [4] [])
     refine ⟨(nu c o),(hO 26 (oo r r (kP b 0 0 r r kQ oQ r (by decide) (by decide) (Nat.le_refl _) r r (b.zO 8 8 r r M N) I) ?_))⟩
     rintro _ U ⟨p,t,D,rfl,b⟩
     have c:=(b.ad [] [])
     have o:=(b.ad [4] [])
     refine ⟨(nu c o),(pL 27 r (xn r) c o (pL 28 r (mQ r) c o (hO 29 (os r r (t_n b 4 [Z x F A] r oH r r) fun bL b=>?_))))⟩
     have c:=(b.ad [] [])
     refine ⟨(sy 29 c),(tP 30 r (fun _=>xn r) (sy 29 c) (tP 31 r (fun _=>qh r) (sy 29 c) (hO 32 (os r r (t_n b 4 [Z B H C] r oH r r) fun bM b=>?_))))⟩
     have c:=(b.ad [] [])
     refine ⟨(sy 29 c),(tP 33 r (fun _=>xn r) (sy 29 c) (tP 34 r (fun _=>qQ r) (sy 29 c) (hO 35 (os r r (t_n b 4 [Z p E t] r oH r r) fun bN b=>?_))))⟩
     have c:=(b.ad [] [])
     exact ⟨(sy 29 c),(hD (hJd _ _ ⟨x,A,B,C,p,t,S,J,D,⟨r,y⟩,(b.ad [3,4,5,2,1,0] [3,4,5,0,2,1])⟩))⟩
    refine oo r r (jP b [] ([]:List BA) (mq) r r (by decide) y) ?_
    rintro _ bO ⟨bP,rfl,b⟩
    have c:=(b.ad [] [])
    have o:=(b.ad [3] [])
    refine ⟨(nu c o),(hO 11 (oo r r (jP b [] ([]:List BA) (mq) r r (by decide) y) ?_))⟩
    rintro _ bQ ⟨bR,rfl,b⟩
    have c:=(b.ad [] [])
    have o:=(b.ad [4] [])
    refine ⟨(nu c o),(hO 18 (oo r r (kP b 0 0 r r kQ oQ r (by decide) (by decide) (Nat.le_refl _) r r (b.zO 7 7 r r K L) Q) ?_))⟩
    rintro _ w9 ⟨B,C,J,rfl,b⟩
    have c:=(b.ad [] [])
    have o:=(b.ad [4] [])
    refine ⟨(nu c o),(hO 26 (oo r r (kP b 1 1 r r kQ oQ r (by decide) (by decide) (Nat.le_refl _) r r (b.zO 8 8 r r M N) I) ?_))⟩
    rintro _ U ⟨p,t,D,rfl,b⟩
    have c:=(b.ad [] [])
    have o:=(b.ad [4] [])
    refine ⟨(nu c o),(pL 27 r (xn r) c o (pL 28 r (mQ r) c o (hO 29 (os r r (t_n b 4 [Z x F A] r oH r r) fun bS b=>?_))))⟩
    have c:=(b.ad [] [])
    refine ⟨(sy 29 c),(tP 30 r (fun _=>xn r) (sy 29 c) (tP 31 r (fun _=>qh r) (sy 29 c) (hO 32 (os r r (t_n b 4 [Z B H C] r oH r r) fun bT b=>?_))))⟩
    have c:=(b.ad [] [])
    refine ⟨(sy 29 c),(tP 33 r (fun _=>xn r) (sy 29 c) (tP 34 r (fun _=>qQ r) (sy 29 c) (hO 35 (os r r (t_n b 4 [Z p E t] r oH r r) fun bU b=>?_))))⟩
    have c:=(b.ad [] [])
    exact ⟨(sy 29 c),(hD (hJd _ _ ⟨x,A,B,C,p,t,S,J,D,⟨r,y⟩,(b.ad [3,4,5,2,0,1] [3,4,5,1,2,0])⟩))⟩
   ·refine oo r r (jP b [] ([]:List BA) (mq) r r (by decide) y) ?_
    rintro _ bV ⟨bW,rfl,b⟩
    have c:=(b.ad [] [])
    have o:=(b.ad [3] [])
    refine ⟨(nu c o),(mH 10 [19] (by kernel_rfl) (jL ?_ (jL ?_ lH)))⟩
    ·refine oo r r (kP b 1 1 r r kQ oQ r (by decide) (by decide) (Nat.le_refl _) r r (b.zO 5 5 r r W X) a4) ?_
     rintro _ w6 ⟨x,A,S,rfl,b⟩
     have c:=(b.ad [] [])
     have o:=(b.ad [3] [])
     refine ⟨(nu c o),(mH 18 [19] (by kernel_rfl) (jL ?_ (jL ?_ lH)))⟩
     ·refine oo r r (kP b 0 0 r r kQ oQ r (by decide) (by decide) (Nat.le_refl _) r r (b.zO 6 6 r r K L) Q) ?_
      rintro _ w9 ⟨B,C,J,rfl,b⟩
      have c:=(b.ad [] [])
      have o:=(b.ad [3] [])
      refine ⟨(nu c o),(hO 19 (oo r r (jP b [] ([]:List BA) (mq) r r (by decide) y) ?_))⟩
      rintro _ bX ⟨bY,rfl,b⟩
      have c:=(b.ad [] [])
      have o:=(b.ad [4] [])
      refine ⟨(nu c o),(hO 26 (oo r r (kP b 0 0 r r kQ oQ r (by decide) (by decide) (Nat.le_refl _) r r (b.zO 8 8 r r M N) I) ?_))⟩
      rintro _ U ⟨p,t,D,rfl,b⟩
      have c:=(b.ad [] [])
      have o:=(b.ad [4] [])
      refine ⟨(nu c o),(pL 27 r (xn r) c o (pL 28 r (mQ r) c o (hO 29 (os r r (t_n b 4 [Z x F A] r oH r r) fun bZ b=>?_))))⟩
      have c:=(b.ad [] [])
      refine ⟨(sy 29 c),(tP 30 r (fun _=>xn r) (sy 29 c) (tP 31 r (fun _=>qh r) (sy 29 c) (hO 32 (os r r (t_n b 4 [Z B H C] r oH r r) fun c0 b=>?_))))⟩
      have c:=(b.ad [] [])
      refine ⟨(sy 29 c),(tP 33 r (fun _=>xn r) (sy 29 c) (tP 34 r (fun _=>qQ r) (sy 29 c) (hO 35 (os r r (t_n b 4 [Z p E t] r oH r r) fun c1 b=>?_))))⟩
      have c:=(b.ad [] [])
      exact ⟨(sy 29 c),(hD (hJd _ _ ⟨x,A,B,C,p,t,S,J,D,⟨r,y⟩,(b.ad [3,4,5,2,1,0] [3,4,5,0,2,1])⟩))⟩
     refine oo r r (jP b [] ([]:List BA) (mq) r r (by decide) y) ?_
     rintro _ c2 ⟨c3,rfl,b⟩
     have c:=(b.ad [] [])
     have o:=(b.ad [4] [])
     refine ⟨(nu c o),(hO 18 (oo r r (kP b 1 1 r r kQ oQ r (by decide) (by decide) (Nat.le_refl _) r r (b.zO 7 7 r r K L) Q) ?_))⟩
     rintro _ w9 ⟨B,C,J,rfl,b⟩
     have c:=(b.ad [] [])
     have o:=(b.ad [4] [])
     refine ⟨(nu c o),(hO 26 (oo r r (kP b 0 0 r r kQ oQ r (by decide) (by decide) (Nat.le_refl _) r r (b.zO 8 8 r r M N) I) ?_))⟩
     rintro _ U ⟨p,t,D,rfl,b⟩
     have c:=(b.ad [] [])
     have o:=(b.ad [4] [])
     refine ⟨(nu c o),(pL 27 r (xn r) c o (pL 28 r (mQ r) c o (hO 29 (os r r (t_n b 4 [Z x F A] r oH r r) fun c4 b=>?_))))⟩
     have c:=(b.ad [] [])
     refine ⟨(sy 29 c),(tP 30 r (fun _=>xn r) (sy 29 c) (tP 31 r (fun _=>qh r) (sy 29 c) (hO 32 (os r r (t_n b 4 [Z B H C] r oH r r) fun c5 b=>?_))))⟩
     have c:=(b.ad [] [])
     refine ⟨(sy 29 c),(tP 33 r (fun _=>xn r) (sy 29 c) (tP 34 r (fun _=>qQ r) (sy 29 c) (hO 35 (os r r (t_n b 4 [Z p E t] r oH r r) fun c6 b=>?_))))⟩
     have c:=(b.ad [] [])
     exact ⟨(sy 29 c),(hD (hJd _ _ ⟨x,A,B,C,p,t,S,J,D,⟨r,y⟩,(b.ad [3,4,5,2,1,0] [3,4,5,0,2,1])⟩))⟩
    refine oo r r (jP b [] ([]:List BA) (mq) r r (by decide) y) ?_
    rintro _ c7 ⟨c8,rfl,b⟩
    have c:=(b.ad [] [])
    have o:=(b.ad [4] [])
    refine ⟨(nu c o),(hO 10 (oo r r (kP b 2 2 r r kQ oQ r (by decide) (by decide) (Nat.le_refl _) r r (b.zO 6 6 r r W X) a4) ?_))⟩
    rintro _ w6 ⟨x,A,S,rfl,b⟩
    have c:=(b.ad [] [])
    have o:=(b.ad [4] [])
    refine ⟨(nu c o),(hO 18 (oo r r (kP b 1 1 r r kQ oQ r (by decide) (by decide) (Nat.le_refl _) r r (b.zO 7 7 r r K L) Q) ?_))⟩
    rintro _ w9 ⟨B,C,J,rfl,b⟩
    have c:=(b.ad [] [])
    have o:=(b.ad [4] [])
    refine ⟨(nu c o),(hO 26 (oo r r (kP b 0 0 r r kQ oQ r (by decide) (by decide) (Nat.le_refl _) r r (b.zO 8 8 r r M N) I) ?_))⟩
    rintro _ U ⟨p,t,D,rfl,b⟩
    have c:=(b.ad [] [])
    have o:=(b.ad [4] [])
    refine ⟨(nu c o),(pL 27 r (xn r) c o (pL 28 r (mQ r) c o (hO 29 (os r r (t_n b 4 [Z x F A] r oH r r) fun c9 b=>?_))))⟩
    have c:=(b.ad [] [])
    refine ⟨(sy 29 c),(tP 30 r (fun _=>xn r) (sy 29 c) (tP 31 r (fun _=>qh r) (sy 29 c) (hO 32 (os r r (t_n b 4 [Z B H C] r oH r r) fun cc b=>?_))))⟩
    have c:=(b.ad [] [])
    refine ⟨(sy 29 c),(tP 33 r (fun _=>xn r) (sy 29 c) (tP 34 r (fun _=>qQ r) (sy 29 c) (hO 35 (os r r (t_n b 4 [Z p E t] r oH r r) fun cd b=>?_))))⟩
    have c:=(b.ad [] [])
    exact ⟨(sy 29 c),(hD (hJd _ _ ⟨x,A,B,C,p,t,S,J,D,⟨r,y⟩,(b.ad [3,4,5,2,1,0] [3,4,5,0,2,1])⟩))⟩
   refine oo r r (jP b [] ([]:List BA) (mq) r r (by decide) y) ?_
   rintro _ ce ⟨cg,rfl,b⟩
   have c:=(b.ad [] [])
   have o:=(b.ad [3] [])
   refine ⟨(nu c o),(mH 10 [11] (by kernel_rfl) (jL ?_ (jL ?_ lH)))⟩
   ·refine oo r r (kP b 1 1 r r kQ oQ r (by decide) (by decide) (Nat.le_refl _) r r (b.zO 5 5 r r W X) a4) ?_
    rintro _ w6 ⟨x,A,S,rfl,b⟩
    have c:=(b.ad [] [])
    have o:=(b.ad [3] [])
    refine ⟨(nu c o),(hO 11 (oo r r (jP b [] ([]:List BA) (mq) r r (by decide) y) ?_))⟩
    rintro _ ch ⟨ci,rfl,b⟩
    have c:=(b.ad [] [])
    have o:=(b.ad [4] [])
    refine ⟨(nu c o),(hO 18 (oo r r (kP b 0 0 r r kQ oQ r (by decide) (by decide) (Nat.le_refl _) r r (b.zO 7 7 r r K L) Q) ?_))⟩
    rintro _ w9 ⟨B,C,J,rfl,b⟩
    have c:=(b.ad [] [])
    have o:=(b.ad [4] [])
    refine ⟨(nu c o),(hO 26 (oo r r (kP b 1 1 r r kQ oQ r (by decide) (by decide) (Nat.le_refl _) r r (b.zO 8 8 r r M N) I) ?_))⟩
    rintro _ U ⟨p,t,D,rfl,b⟩
    have c:=(b.ad [] [])
    have o:=(b.ad [4] [])
    refine ⟨(nu c o),(pL 27 r (xn r) c o (pL 28 r (mQ r) c o (hO 29 (os r r (t_n b 4 [Z x F A] r oH r r) fun cj b=>?_))))⟩
    have c:=(b.ad [] [])
    refine ⟨(sy 29 c),(tP 30 r (fun _=>xn r) (sy 29 c) (tP 31 r (fun _=>qh r) (sy 29 c) (hO 32 (os r r (t_n b 4 [Z B H C] r oH r r) fun ck b=>?_))))⟩
    have c:=(b.ad [] [])
    refine ⟨(sy 29 c),(tP 33 r (fun _=>xn r) (sy 29 c) (tP 34 r (fun _=>qQ r) (sy 29 c) (hO 35 (os r r (t_n b 4 [Z p E t] r oH r r) fun cm b=>?_))))⟩
    have c:=(b.ad [] [])
    exact ⟨(sy 29 c),(hD (hJd _ _ ⟨x,A,B,C,p,t,S,J,D,⟨r,y⟩,(b.ad [3,4,5,2,0,1] [3,4,5,1,2,0])⟩))⟩
   refine oo r r (jP b [] ([]:List BA) (mq) r r (by decide) y) ?_
   rintro _ cn ⟨co,rfl,b⟩
   have c:=(b.ad [] [])
   have o:=(b.ad [4] [])
   refine ⟨(nu c o),(hO 10 (oo r r (kP b 2 2 r r kQ oQ r (by decide) (by decide) (Nat.le_refl _) r r (b.zO 6 6 r r W X) a4) ?_))⟩
   rintro _ w6 ⟨x,A,S,rfl,b⟩
   have c:=(b.ad [] [])
   have o:=(b.ad [4] [])
   refine ⟨(nu c o),(hO 18 (oo r r (kP b 0 0 r r kQ oQ r (by decide) (by decide) (Nat.le_refl _) r r (b.zO 7 7 r r K L) Q) ?_))⟩
   rintro _ w9 ⟨B,C,J,rfl,b⟩
   have c:=(b.ad [] [])
   have o:=(b.ad [4] [])
   refine ⟨(nu c o),(hO 26 (oo r r (kP b 1 1 r r kQ oQ r (by decide) (by decide) (Nat.le_refl _) r r (b.zO 8 8 r r M N) I) ?_))⟩
   rintro _ U ⟨p,t,D,rfl,b⟩
   have c:=(b.ad [] [])
   have o:=(b.ad [4] [])
   refine ⟨(nu c o),(pL 27 r (xn r) c o (pL 28 r (mQ r) c o (hO 29 (os r r (t_n b 4 [Z x F A] r oH r r) fun cp b=>?_))))⟩
   have c:=(b.ad [] [])
   refine ⟨(sy 29 c),(tP 30 r (fun _=>xn r) (sy 29 c) (tP 31 r (fun _=>qh r) (sy 29 c) (hO 32 (os r r (t_n b 4 [Z B H C] r oH r r) fun cq b=>?_))))⟩
   have c:=(b.ad [] [])
   refine ⟨(sy 29 c),(tP 33 r (fun _=>xn r) (sy 29 c) (tP 34 r (fun _=>qQ r) (sy 29 c) (hO 35 (os r r (t_n b 4 [Z p E t] r oH r r) fun cr b=>?_))))⟩
   have c:=(b.ad [] [])
   exact ⟨(sy 29 c),(hD (hJd _ _ ⟨x,A,B,C,p,t,S,J,D,⟨r,y⟩,(b.ad [3,4,5,2,0,1] [3,4,5,1,2,0])⟩))⟩
  ·refine oo r r (jP b [] ([]:List BA) (mq) r r (by decide) y) ?_
   rintro _ ct ⟨cu,rfl,b⟩
   have c:=(b.ad [] [])
   have o:=(b.ad [2] [])
   refine ⟨(nu c o),(mH 3 [19] (by kernel_rfl) (jL ?_ (jL ?_ lH)))⟩
   ·refine oo r r (jP b [] ([]:List BA) (mq) r r (by decide) y) ?_
    rintro _ cv ⟨cw,rfl,b⟩
    have c:=(b.ad [] [])
    have o:=(b.ad [3] [])
    refine ⟨(nu c o),(mH 10 [19] (by kernel_rfl) (jL ?_ (jL ?_ lH)))⟩
    ·refine oo r r (kP b 0 0 r r kQ oQ r (by decide) (by decide) (Nat.le_refl _) r r (b.zO 5 5 r r W X) a4) ?_
     rintro _ w6 ⟨x,A,S,rfl,b⟩
     have c:=(b.ad [] [])
     have o:=(b.ad [3] [])
     refine ⟨(nu c o),(mH 18 [19] (by kernel_rfl) (jL ?_ (jL ?_ lH)))⟩
     ·refine oo r r (kP b 1 1 r r kQ oQ r (by decide) (by decide) (Nat.le_refl _) r r (b.zO 6 6 r r K L) Q) ?_
      rintro _ w9 ⟨B,C,J,rfl,b⟩
      have c:=(b.ad [] [])
      have o:=(b.ad [3] [])
      refine ⟨(nu c o),(hO 19 (oo r r (jP b [] ([]:List BA) (mq) r r (by decide) y) ?_))⟩
      rintro _ cx ⟨cy,rfl,b⟩
      have c:=(b.ad [] [])
      have o:=(b.ad [4] [])
      refine ⟨(nu c o),(hO 26 (oo r r (kP b 0 0 r r kQ oQ r (by decide) (by decide) (Nat.le_refl _) r r (b.zO 8 8 r r M N) I) ?_))⟩
      rintro _ U ⟨p,t,D,rfl,b⟩
      have c:=(b.ad [] [])
      have o:=(b.ad [4] [])
      refine ⟨(nu c o),(pL 27 r (xn r) c o (pL 28 r (mQ r) c o (hO 29 (os r r (t_n b 4 [Z x F A] r oH r r) fun cz b=>?_))))⟩
      have c:=(b.ad [] [])
      refine ⟨(sy 29 c),(tP 30 r (fun _=>xn r) (sy 29 c) (tP 31 r (fun _=>qh r) (sy 29 c) (hO 32 (os r r (t_n b 4 [Z B H C] r oH r r) fun cA b=>?_))))⟩
      have c:=(b.ad [] [])
      refine ⟨(sy 29 c),(tP 33 r (fun _=>xn r) (sy 29 c) (tP 34 r (fun _=>qQ r) (sy 29 c) (hO 35 (os r r (t_n b 4 [Z p E t] r oH r r) fun cB b=>?_))))⟩
      have c:=(b.ad [] [])
      exact ⟨(sy 29 c),(hD (hJd _ _ ⟨x,A,B,C,p,t,S,J,D,⟨r,y⟩,(b.ad [3,4,5,1,2,0] [3,4,5,0,1,2])⟩))⟩
     refine oo r r (jP b [] ([]:List BA) (mq) r r (by decide) y) ?_
     rintro _ cC ⟨cD,rfl,b⟩
     have c:=(b.ad [] [])
     have o:=(b.ad [4] [])
     refine ⟨(nu c o),(hO 18 (oo r r (kP b 2 2 r r kQ oQ r (by decide) (by decide) (Nat.le_refl _) r r (b.zO 7 7 r r K L) Q) ?_))⟩
     rintro _ w9 ⟨B,C,J,rfl,b⟩
     have c:=(b.ad [] [])
     have o:=(b.ad [4] [])
     refine ⟨(nu c o),(hO 26 (oo r r (kP b 0 0 r r kQ oQ r (by decide) (by decide) (Nat.le_refl _) r r (b.zO 8 8 r r M N) I) ?_))⟩
     rintro _ U ⟨p,t,D,rfl,b⟩
     have c:=(b.ad [] [])
     have o:=(b.ad [4] [])
     refine ⟨(nu c o),(pL 27 r (xn r) c o (pL 28 r (mQ r) c o (hO 29 (os r r (t_n b 4 [Z x F A] r oH r r) fun cE b=>?_))))⟩
     have c:=(b.ad [] [])
     refine ⟨(sy 29 c),(tP 30 r (fun _=>xn r) (sy 29 c) (tP 31 r (fun _=>qh r) (sy 29 c) (hO 32 (os r r (t_n b 4 [Z B H C] r oH r r) fun cF b=>?_))))⟩
     have c:=(b.ad [] [])
     refine ⟨(sy 29 c),(tP 33 r (fun _=>xn r) (sy 29 c) (tP 34 r (fun _=>qQ r) (sy 29 c) (hO 35 (os r r (t_n b 4 [Z p E t] r oH r r) fun cG b=>?_))))⟩
     have c:=(b.ad [] [])
     exact ⟨(sy 29 c),(hD (hJd _ _ ⟨x,A,B,C,p,t,S,J,D,⟨r,y⟩,(b.ad [3,4,5,1,2,0] [3,4,5,0,1,2])⟩))⟩
    refine oo r r (jP b [] ([]:List BA) (mq) r r (by decide) y) ?_
    rintro _ cH ⟨cI,rfl,b⟩
    have c:=(b.ad [] [])
    have o:=(b.ad [4] [])
    refine ⟨(nu c o),(hO 10 (oo r r (kP b 1 1 r r kQ oQ r (by decide) (by decide) (Nat.le_refl _) r r (b.zO 6 6 r r W X) a4) ?_))⟩
    rintro _ w6 ⟨x,A,S,rfl,b⟩
    have c:=(b.ad [] [])
    have o:=(b.ad [4] [])
    refine ⟨(nu c o),(hO 18 (oo r r (kP b 2 2 r r kQ oQ r (by decide) (by decide) (Nat.le_refl _) r r (b.zO 7 7 r r K L) Q) ?_))⟩
    rintro _ w9 ⟨B,C,J,rfl,b⟩
    have c:=(b.ad [] [])
    have o:=(b.ad [4] [])
    refine ⟨(nu c o),(hO 26 (oo r r (kP b 0 0 r r kQ oQ r (by decide) (by decide) (Nat.le_refl _) r r (b.zO 8 8 r r M N) I) ?_))⟩
    rintro _ U ⟨p,t,D,rfl,b⟩
    have c:=(b.ad [] [])
    have o:=(b.ad [4] [])
    refine ⟨(nu c o),(pL 27 r (xn r) c o (pL 28 r (mQ r) c o (hO 29 (os r r (t_n b 4 [Z x F A] r oH r r) fun cJ b=>?_))))⟩
    have c:=(b.ad [] [])
    refine ⟨(sy 29 c),(tP 30 r (fun _=>xn r) (sy 29 c) (tP 31 r (fun _=>qh r) (sy 29 c) (hO 32 (os r r (t_n b 4 [Z B H C] r oH r r) fun cK b=>?_))))⟩
    have c:=(b.ad [] [])
    refine ⟨(sy 29 c),(tP 33 r (fun _=>xn r) (sy 29 c) (tP 34 r (fun _=>qQ r) (sy 29 c) (hO 35 (os r r (t_n b 4 [Z p E t] r oH r r) fun cL b=>?_))))⟩
    have c:=(b.ad [] [])
    exact ⟨(sy 29 c),(hD (hJd _ _ ⟨x,A,B,C,p,t,S,J,D,⟨r,y⟩,(b.ad [3,4,5,1,2,0] [3,4,5,0,1,2])⟩))⟩
   refine oo r r (jP b [] ([]:List BA) (mq) r r (by decide) y) ?_
   rintro _ cM ⟨cN,rfl,b⟩
   have c:=(b.ad [] [])
   have o:=(b.ad [3] [])
   refine ⟨(nu c o),(hO 3 (oo r r (jP b [] ([]:List BA) (mq) r r (by decide) y) ?_))⟩
   rintro _ cO ⟨cP,rfl,b⟩
   have c:=(b.ad [] [])
   have o:=(b.ad [4] [])
   refine ⟨(nu c o),(hO 10 (oo r r (kP b 0 0 r r kQ oQ r (by decide) (by decide) (Nat.le_refl _) r r (b.zO 6 6 r r W X) a4) ?_))⟩
   rintro _ w6 ⟨x,A,S,rfl,b⟩
   have c:=(b.ad [] [])
   have o:=(b.ad [4] [])
   refine ⟨(nu c o),(hO 18 (oo r r (kP b 2 2 r r kQ oQ r (by decide) (by decide) (Nat.le_refl _) r r (b.zO 7 7 r r K L) Q) ?_))⟩
   rintro _ w9 ⟨B,C,J,rfl,b⟩
   have c:=(b.ad [] [])
   have o:=(b.ad [4] [])
   refine ⟨(nu c o),(hO 26 (oo r r (kP b 1 1 r r kQ oQ r (by decide) (by decide) (Nat.le_refl _) r r (b.zO 8 8 r r M N) I) ?_))⟩
   rintro _ U ⟨p,t,D,rfl,b⟩
   have c:=(b.ad [] [])
   have o:=(b.ad [4] [])
   refine ⟨(nu c o),(pL 27 r (xn r) c o (pL 28 r (mQ r) c o (hO 29 (os r r (t_n b 4 [Z x F A] r oH r r) fun aV b=>?_))))⟩
   have c:=(b.ad [] [])
   refine ⟨(sy 29 c),(tP 30 r (fun _=>xn r) (sy 29 c) (tP 31 r (fun _=>qh r) (sy 29 c) (hO 32 (os r r (t_n b 4 [Z B H C] r oH r r) fun aW b=>?_))))⟩
   have c:=(b.ad [] [])
   refine ⟨(sy 29 c),(tP 33 r (fun _=>xn r) (sy 29 c) (tP 34 r (fun _=>qQ r) (sy 29 c) (hO 35 (os r r (t_n b 4 [Z p E t] r oH r r) fun aX b=>?_))))⟩
   have c:=(b.ad [] [])
   exact ⟨(sy 29 c),(hD (hJd _ _ ⟨x,A,B,C,p,t,S,J,D,⟨r,y⟩,(b.ad [3,4,5,0,2,1] [3,4,5,1,0,2])⟩))⟩
  refine oo r r (jP b [] ([]:List BA) (mq) r r (by decide) y) ?_
  rintro _ aY ⟨aZ,rfl,b⟩
  have c:=(b.ad [] [])
  have o:=(b.ad [2] [])
  refine ⟨(nu c o),(mH 3 [11] (by kernel_rfl) (jL ?_ (jL ?_ lH)))⟩
  ·refine oo r r (jP b [] ([]:List BA) (mq) r r (by decide) y) ?_
   rintro _ b0 ⟨b1,rfl,b⟩
   have c:=(b.ad [] [])
   have o:=(b.ad [3] [])
   refine ⟨(nu c o),(mH 10 [11] (by kernel_rfl) (jL ?_ (jL ?_ lH)))⟩
   ·refine oo r r (kP b 0 0 r r kQ oQ r (by decide) (by decide) (Nat.le_refl _) r r (b.zO 5 5 r r W X) a4) ?_
    rintro _ w6 ⟨x,A,S,rfl,b⟩
    have c:=(b.ad [] [])
    have o:=(b.ad [3] [])
    refine ⟨(nu c o),(hO 11 (oo r r (jP b [] ([]:List BA) (mq) r r (by decide) y) ?_))⟩
    rintro _ b2 ⟨b3,rfl,b⟩
    have c:=(b.ad [] [])
    have o:=(b.ad [4] [])
    refine ⟨(nu c o),(hO 18 (oo r r (kP b 0 0 r r kQ oQ r (by decide) (by decide) (Nat.le_refl _) r r (b.zO 7 7 r r K L) Q) ?_))⟩
    rintro _ w9 ⟨B,C,J,rfl,b⟩
    have c:=(b.ad [] [])
    have o:=(b.ad [4] [])
    refine ⟨(nu c o),(hO 26 (oo r r (kP b 2 2 r r kQ oQ r (by decide) (by decide) (Nat.le_refl _) r r (b.zO 8 8 r r M N) I) ?_))⟩
    rintro _ U ⟨p,t,D,rfl,b⟩
    have c:=(b.ad [] [])
    have o:=(b.ad [4] [])
    refine ⟨(nu c o),(pL 27 r (xn r) c o (pL 28 r (mQ r) c o (hO 29 (os r r (t_n b 4 [Z x F A] r oH r r) fun b4 b=>?_))))⟩
    have c:=(b.ad [] [])
    refine ⟨(sy 29 c),(tP 30 r (fun _=>xn r) (sy 29 c) (tP 31 r (fun _=>qh r) (sy 29 c) (hO 32 (os r r (t_n b 4 [Z B H C] r oH r r) fun b5 b=>?_))))⟩
    have c:=(b.ad [] [])
    refine ⟨(sy 29 c),(tP 33 r (fun _=>xn r) (sy 29 c) (tP 34 r (fun _=>qQ r) (sy 29 c) (hO 35 (os r r (t_n b 4 [Z p E t] r oH r r) fun b6 b=>?_))))⟩
    have c:=(b.ad [] [])
    exact ⟨(sy 29 c),(hD (hJd _ _ ⟨x,A,B,C,p,t,S,J,D,⟨r,y⟩,(b.ad [3,4,5,1,0,2] [3,4,5,2,1,0])⟩))⟩
   refine oo r r (jP b [] ([]:List BA) (mq) r r (by decide) y) ?_
   rintro _ b7 ⟨b8,rfl,b⟩
   have c:=(b.ad [] [])
   have o:=(b.ad [4] [])
   refine ⟨(nu c o),(hO 10 (oo r r (kP b 1 1 r r kQ oQ r (by decide) (by decide) (Nat.le_refl _) r r (b.zO 6 6 r r W X) a4) ?_))⟩
   rintro _ w6 ⟨x,A,S,rfl,b⟩
   have c:=(b.ad [] [])
   have o:=(b.ad [4] [])
   refine ⟨(nu c o),(hO 18 (oo r r (kP b 0 0 r r kQ oQ r (by decide) (by decide) (Nat.le_refl _) r r (b.zO 7 7 r r K L) Q) ?_))⟩
   rintro _ w9 ⟨B,C,J,rfl,b⟩
   have c:=(b.ad [] [])
   have o:=(b.ad [4] [])
   refine ⟨(nu c o),(hO 26 (oo r r (kP b 2 2 r r kQ oQ r (by decide) (by decide) (Nat.le_refl _) r r (b.zO 8 8 r r M N) I) ?_))⟩
   rintro _ U ⟨p,t,D,rfl,b⟩
   have c:=(b.ad [] [])
   have o:=(b.ad [4] [])
   refine ⟨(nu c o),(pL 27 r (xn r) c o (pL 28 r (mQ r) c o (hO 29 (os r r (t_n b 4 [Z x F A] r oH r r) fun b9 b=>?_))))⟩
   have c:=(b.ad [] [])
   refine ⟨(sy 29 c),(tP 30 r (fun _=>xn r) (sy 29 c) (tP 31 r (fun _=>qh r) (sy 29 c) (hO 32 (os r r (t_n b 4 [Z B H C] r oH r r) fun ba b=>?_))))⟩
   have c:=(b.ad [] [])
   refine ⟨(sy 29 c),(tP 33 r (fun _=>xn r) (sy 29 c) (tP 34 r (fun _=>qQ r) (sy 29 c) (hO 35 (os r r (t_n b 4 [Z p E t] r oH r r) fun bb b=>?_))))⟩
   have c:=(b.ad [] [])
   exact ⟨(sy 29 c),(hD (hJd _ _ ⟨x,A,B,C,p,t,S,J,D,⟨r,y⟩,(b.ad [3,4,5,1,0,2] [3,4,5,2,1,0])⟩))⟩
  refine oo r r (jP b [] ([]:List BA) (mq) r r (by decide) y) ?_
  rintro _ bc ⟨bd,rfl,b⟩
  have c:=(b.ad [] [])
  have o:=(b.ad [3] [])
  refine ⟨(nu c o),(hO 3 (oo r r (jP b [] ([]:List BA) (mq) r r (by decide) y) ?_))⟩
  rintro _ bg ⟨bh,rfl,b⟩
  have c:=(b.ad [] [])
  have o:=(b.ad [4] [])
  refine ⟨(nu c o),(hO 10 (oo r r (kP b 0 0 r r kQ oQ r (by decide) (by decide) (Nat.le_refl _) r r (b.zO 6 6 r r W X) a4) ?_))⟩
  rintro _ w6 ⟨x,A,S,rfl,b⟩
  have c:=(b.ad [] [])
  have o:=(b.ad [4] [])
  refine ⟨(nu c o),(hO 18 (oo r r (kP b 1 1 r r kQ oQ r (by decide) (by decide) (Nat.le_refl _) r r (b.zO 7 7 r r K L) Q) ?_))⟩
  rintro _ w9 ⟨B,C,J,rfl,b⟩
  have c:=(b.ad [] [])
  have o:=(b.ad [4] [])
  refine ⟨(nu c o),(hO 26 (oo r r (kP b 2 2 r r kQ oQ r (by decide) (by decide) (Nat.le_refl _) r r (b.zO 8 8 r r M N) I) ?_))⟩
  rintro _ U ⟨p,t,D,rfl,b⟩
  have c:=(b.ad [] [])
  have o:=(b.ad [4] [])
  refine ⟨(nu c o),(pL 27 r (xn r) c o (pL 28 r (mQ r) c o (hO 29 (os r r (t_n b 4 [Z x F A] r oH r r) fun bi b=>?_))))⟩
  have c:=(b.ad [] [])
  refine ⟨(sy 29 c),(tP 30 r (fun _=>xn r) (sy 29 c) (tP 31 r (fun _=>qh r) (sy 29 c) (hO 32 (os r r (t_n b 4 [Z B H C] r oH r r) fun bj b=>?_))))⟩
  have c:=(b.ad [] [])
  refine ⟨(sy 29 c),(tP 33 r (fun _=>xn r) (sy 29 c) (tP 34 r (fun _=>qQ r) (sy 29 c) (hO 35 (os r r (t_n b 4 [Z p E t] r oH r r) fun bl b=>?_))))⟩
  have c:=(b.ad [] [])
  exact ⟨(sy 29 c),(hD (hJd _ _ ⟨x,A,B,C,p,t,S,J,D,⟨r,y⟩,(b.ad [3,4,5,0,1,2] [3,4,5,2,0,1])⟩))⟩
 clear b
 rintro f w ⟨x,A,B,C,p,t,S,J,D,hf,b⟩
 obtain ⟨cT,rfl⟩:=iA _ _ hf
 clear hf
 refine q (g (s (nC r) (s (nk r) (n (kT ?_)))))
 replace b:=b.rb 3 af r a8
 replace b:=b.rb 4 ai r a9
 replace b:=b.rb 5 al r aa
 obtain rfl:=sm hM
 exact jI r (lq r) (mM (mM (⟨a1,a2,a3,x,A,S,B,C,J,p,t,D,r,(b.dp [0,1,2,4,5,3])⟩)))
theorem LB (fu:Nat)(r_kit_stmts:mJ) (r_kit_body:nJ) (r_kit_loop:nI) (H_kit_stmts:uO r_kit_stmts) (H_kit_body:yM r_kit_body) (H_kit_loop:yO r_kit_loop):yO (zq fu r_kit_stmts r_kit_body r_kit_loop):=by
 intro w0 c5 x0 aq x1 an B C D U W ag ah ar ai E F Y aj H I a0 ak R hP X aa ab x
 unfold zq at x
 have b:=hP.bx
 clear hP
 generalize hG:lT _=G at b ⊢
 refine cf Try.func85 r (lK [(0,Pt an),(1,V x1)] ⟨r,r,y⟩ fun c6=>q (g (s (nk r) (n (q (g (s (mp r) ?_)))))))
 obtain ⟨v,o,h1,x⟩:=lZ x
 have hc:=(AP fu) (b.pr [0,1,2,3,4] [] [0,1,2,3,4] r) (b.le X) (b.le aa) (b.le ab) h1
 refine sc (ec QB r) hc ?_
 rintro _ w1 ⟨rfl,z⟩
 replace b:=b.cn [0,1,2,3,4] [] z
 refine s (mF r) (n (q (g (s (mp r) (s (mp r) (s (xn r) (s (mQ r) (s (zM r (b.bk 0 r) r) (s (kY r) (nU (jP b [[T v]] ([v]:List BA) (zK r) r r (by decide) ⟨r,y⟩) ?_))))))))))
 rintro _ w2 ⟨b2,rfl,b⟩
 obtain ⟨r3,aP,x⟩:=bs x
 refine nU (kP b 3 3 r r kQ oQ r (by decide) (by decide) X r r (b.zP 0 0 r r) aP) ?_
 rintro _ w3 ⟨A3,C3,Q3,rfl,b⟩
 refine s (xn r) (s (mQ r) (lg (t_n b 1 [Z A3 r3 C3] r oH r r) fun w5 b=>n (q (g (s (kY r) (s (H6 r r) (tu b (jV jQ) fun w6 b6 b=>lg (nX b 0 [V 1,V 0,V 0,T v,T be,V 0,V 0,sn,T be,V 0,sn,sn,sn] r jQ r r) fun w7 b=>n (q ?_))))))))
 obtain ⟨c,h8,x⟩:=bs x
 obtain ⟨bc,al,h9,x⟩:=lZ x
 obtain ⟨a,ao,x⟩:=bs x
 refine oq (fun f w=>∃ (am:Nat)(A:Nat)(J:Nat),Has f [(0,Pt an),(1,V x1),(5,T v),(6,Pt b6),(7,Pt am)]∧Bx w0 w c5 G [.box b6 111 #[V 1,V 0,V 0,T v,T be,V 0,V 0,sn,T be,V 0,sn,sn,sn],.box an 135 #[Pt B,V o.f,V o.e,Z U o.d W,Z A3 r3 C3,Z E o.c F,Z H o.b I,V o.g,V o.h],.box B 132 #[Z C al.l D,V al.a],O ai A3 C3 9 BA Q3,O aj E F 9 BA Y,O ak H I 9 BA a0,O w0.heap.size (ad A) 1 138 Ge [[V 14,V 0,V 0,T be,T be,.slice (ad J) ([c,a]:List Ge).length 2]],.box am 111 #[V 5,V 0,V 0,T be,T be,V 0,V 0,sn,T be,V 0,.slice (ad A) ([(⟨14,0,0,be,be,([c,a]:List Ge)⟩:Ge)]:List Ge).length 1,sn,sn]] [.l U W o.d,.els Q3 r3,.els Y o.c,.els a0 o.b,.els [[V 14,V 0,V 0,T be,T be,.slice (ad J) ([c,a]:List Ge).length 2]] ([(⟨14,0,0,be,be,([c,a]:List Ge)⟩:Ge)]:List Ge),.l C D al.l]) (fun Jd hJd=>?_) ?_
 ·refine pX b [2] [] [] (by kernel_rfl) ?_
  replace b:=b.drew
  have h:=(b.ad [2] [])
  refine pF 0 r (kY r) h (pF 2 r (mp r) h (pF 3 r (xn r) h (pF 4 r (oO r) h (uF 5 r (fun hS=>xG r (hS.bk 0 r) r) h (mH 1 [13] (by kernel_rfl) (jL ?_ (jL ?_ lH)))))))
  ·have hc:=(oL fu) (b.pr [] [0,1,2,3,4,5,6] [] r)  h8
   refine oc r r (ec D9 r) hc ?_
   rintro _ w8 ⟨j,m,rfl,z⟩
   replace b:=b.cn [] [0,1,2,3,4,5,6] z
   have h:=(b.ad [2] [])
   refine ⟨(sF h),(mH 6 [13] (by kernel_rfl) (jL ?_ (jL ?_ lH)))⟩
   ·have hc:=(jW fu) (b.pr [3] [0,1,2,4,5,6] [7] r)  h9
    refine oc r r (ec nW r) hc ?_
    rintro _ w9 ⟨rfl,z⟩
    replace b:=b.cn [3] [0,1,2,4,5,6] z
    have h:=(b.ad [3] [])
    refine ⟨(sF h),(pF 7 r (kE r r) h (mH 8 [13] (by kernel_rfl) (jL ?_ (jL ?_ lH))))⟩
    ·have hc:=(qP fu) (b.pr [] [0,1,2,3,4,5,6] [] r)  ao
     refine oc r r (ec Cu r) hc ?_
     rintro _ au ⟨d,e,rfl,z⟩
     replace b:=b.cn [] [0,1,2,3,4,5,6] z
     have h:=(b.ad [3] [])
     refine ⟨(sF h),(mH 9 [13] (by kernel_rfl) (jL ?_ (jL ?_ lH)))⟩
     ·refine oo r r (jP b [[V c.e,V c.d,V c.g,T c.b,T c.c,Z j c.a m],[V a.e,V a.d,V a.g,T a.b,T a.c,Z d a.a e]] ([c,a]:List Ge) (vS r r) r r (by decide) ⟨(jB.inn ⟨j,m,r,(b.dl 2 r)⟩),⟨(jB.inn ⟨d,e,r,(b.dl 0 r)⟩),y⟩⟩) ?_
      rintro _ bh ⟨J,rfl,b⟩
      have h:=(b.ad [4] [])
      refine ⟨(sF h),(pF 10 r (tC r r) h (mH 11 [13] (by kernel_rfl) (jL ?_ (jL ?_ lH))))⟩
      ·replace b:=b.OO 0 0 r r
       try dsimp only [List.eraseIdx] at b
       refine oo r r (jP b [[V 14,V 0,V 0,T be,T be,.slice (ad J) ([c,a]:List Ge).length 2]] ([(⟨14,0,0,be,be,([c,a]:List Ge)⟩:Ge)]:List Ge) (kS r) r r (by decide) ⟨(jB.inn ⟨(ad J),2,r,(b.dl 0 r)⟩),y⟩) ?_
       rintro _ bi ⟨A,rfl,b⟩
       have h:=(b.ad [4] [])
       refine ⟨(sF h),(pF 12 r (qb r r) h (hO 13 (oo r r (nM b (jV jQ)) ?_)))⟩
       rintro _ bj ⟨am,rfl,b⟩
       have h:=(b.ad [5] [])
       refine ⟨(sF h),(hO 14 (os r r (nX b 0 [V 5,V 0,V 0,T be,T be,V 0,V 0,sn,T be,V 0,.slice (ad A) ([(⟨14,0,0,be,be,([c,a]:List Ge)⟩:Ge)]:List Ge).length 1,sn,sn] r jQ r r) fun bl b=>?_))⟩
       have h:=(b.ad [5] [])
       exact ⟨(sF h),(hD (hJd _ _ ⟨am,A,J,⟨r,r,r,r,r,y⟩,(b.ad [3,5,2,6,7,8,1,0] [7,8,9,10,0,3])⟩))⟩
      refine oo r r (nM b (jV jQ)) ?_
      rintro _ bm ⟨aR,rfl,b⟩
      have h:=(b.ad [5] [])
      refine ⟨(sF h),?_⟩
      replace b:=b.fz 1 0 r r
      refine hO 11 (oo r r (jP b [[V 14,V 0,V 0,T be,T be,.slice (ad J) ([c,a]:List Ge).length 2]] ([(⟨14,0,0,be,be,([c,a]:List Ge)⟩:Ge)]:List Ge) (kS r) r r (by decide) ⟨(jB.inn ⟨(ad J),2,r,(b.dl 0 r)⟩),y⟩) ?_)
      rintro _ bn ⟨av,rfl,b⟩
      have h:=(b.ad [5] [])
      refine ⟨(sF h),(pF 12 r (qb r r) h (hO 14 (os r r (nX b 1 [V 5,V 0,V 0,T be,T be,V 0,V 0,sn,T be,V 0,.slice (ad av) ([(⟨14,0,0,be,be,([c,a]:List Ge)⟩:Ge)]:List Ge).length 1,sn,sn] r jQ r r) fun bo b=>?_)))⟩
      have h:=(b.ad [5] [])
      exact ⟨(sF h),(hD (hJd _ _ ⟨aR,av,J,⟨r,r,r,r,r,y⟩,(b.ad [3,5,2,6,7,8,0,1] [7,8,9,10,0,3])⟩))⟩
     refine oo r r (nM b (jV jQ)) ?_
     rintro _ bp ⟨aS,rfl,b⟩
     have h:=(b.ad [4] [])
     refine ⟨(sF h),(hO 9 (oo r r (jP b [[V c.e,V c.d,V c.g,T c.b,T c.c,Z j c.a m],[V a.e,V a.d,V a.g,T a.b,T a.c,Z d a.a e]] ([c,a]:List Ge) (vS r r) r r (by decide) ⟨(jB.inn ⟨j,m,r,(b.dl 2 r)⟩),⟨(jB.inn ⟨d,e,r,(b.dl 0 r)⟩),y⟩⟩) ?_))⟩
     rintro _ bq ⟨aw,rfl,b⟩
     have h:=(b.ad [5] [])
     refine ⟨(sF h),(pF 10 r (tC r r) h ?_)⟩
     replace b:=b.fz 0 0 r r
     refine hO 11 (oo r r (jP b [[V 14,V 0,V 0,T be,T be,.slice (ad aw) ([c,a]:List Ge).length 2]] ([(⟨14,0,0,be,be,([c,a]:List Ge)⟩:Ge)]:List Ge) (kS r) r r (by decide) ⟨(jB.inn ⟨(ad aw),2,r,(b.dl 0 r)⟩),y⟩) ?_)
     rintro _ br ⟨ax,rfl,b⟩
     have h:=(b.ad [5] [])
     refine ⟨(sF h),(pF 12 r (qb r r) h (hO 14 (os r r (nX b 1 [V 5,V 0,V 0,T be,T be,V 0,V 0,sn,T be,V 0,.slice (ad ax) ([(⟨14,0,0,be,be,([c,a]:List Ge)⟩:Ge)]:List Ge).length 1,sn,sn] r jQ r r) fun bu b=>?_)))⟩
     have h:=(b.ad [5] [])
     exact ⟨(sF h),(hD (hJd _ _ ⟨aS,ax,aw,⟨r,r,r,r,r,y⟩,(b.ad [3,5,2,6,7,8,0,1] [7,8,9,10,0,3])⟩))⟩
    refine oo r r (nM b (jV jQ)) ?_
    rintro _ bv ⟨aT,rfl,b⟩
    have h:=(b.ad [4] [])
    refine ⟨(sF h),?_⟩
    have hc:=(qP fu) (b.pr [] [0,1,2,3,4,5,6,7] [] r)  ao
    refine hO 8 (oc r r (ec Cu r) hc ?_)
    rintro _ au ⟨d,e,rfl,z⟩
    replace b:=b.cn [] [0,1,2,3,4,5,6,7] z
    have h:=(b.ad [4] [])
    refine ⟨(sF h),(hO 9 (oo r r (jP b [[V c.e,V c.d,V c.g,T c.b,T c.c,Z j c.a m],[V a.e,V a.d,V a.g,T a.b,T a.c,Z d a.a e]] ([c,a]:List Ge) (vS r r) r r (by decide) ⟨(jB.inn ⟨j,m,r,(b.dl 2 r)⟩),⟨(jB.inn ⟨d,e,r,(b.dl 0 r)⟩),y⟩⟩) ?_))⟩
    rintro _ bw ⟨ay,rfl,b⟩
    have h:=(b.ad [5] [])
    refine ⟨(sF h),(pF 10 r (tC r r) h ?_)⟩
    replace b:=b.fz 0 0 r r
    refine hO 11 (oo r r (jP b [[V 14,V 0,V 0,T be,T be,.slice (ad ay) ([c,a]:List Ge).length 2]] ([(⟨14,0,0,be,be,([c,a]:List Ge)⟩:Ge)]:List Ge) (kS r) r r (by decide) ⟨(jB.inn ⟨(ad ay),2,r,(b.dl 0 r)⟩),y⟩) ?_)
    rintro _ bz ⟨az,rfl,b⟩
    have h:=(b.ad [5] [])
    refine ⟨(sF h),(pF 12 r (qb r r) h (hO 14 (os r r (nX b 1 [V 5,V 0,V 0,T be,T be,V 0,V 0,sn,T be,V 0,.slice (ad az) ([(⟨14,0,0,be,be,([c,a]:List Ge)⟩:Ge)]:List Ge).length 1,sn,sn] r jQ r r) fun bA b=>?_)))⟩
    have h:=(b.ad [5] [])
    exact ⟨(sF h),(hD (hJd _ _ ⟨aT,az,ay,⟨r,r,r,r,r,y⟩,(b.ad [3,5,2,6,7,8,0,1] [7,8,9,10,0,3])⟩))⟩
   refine oo r r (nM b (jV jQ)) ?_
   rintro _ bB ⟨aU,rfl,b⟩
   have h:=(b.ad [3] [])
   refine ⟨(sF h),?_⟩
   have hc:=(jW fu) (b.pr [4] [0,1,2,3,5,6,7] [7] r)  h9
   refine hO 6 (oc r r (ec nW r) hc ?_)
   rintro _ w9 ⟨rfl,z⟩
   replace b:=b.cn [4] [0,1,2,3,5,6,7] z
   have h:=(b.ad [4] [])
   refine ⟨(sF h),(pF 7 r (kE r r) h ?_)⟩
   have hc:=(qP fu) (b.pr [] [0,1,2,3,4,5,6,7] [] r)  ao
   refine hO 8 (oc r r (ec Cu r) hc ?_)
   rintro _ au ⟨d,e,rfl,z⟩
   replace b:=b.cn [] [0,1,2,3,4,5,6,7] z
   have h:=(b.ad [4] [])
   refine ⟨(sF h),(hO 9 (oo r r (jP b [[V c.e,V c.d,V c.g,T c.b,T c.c,Z j c.a m],[V a.e,V a.d,V a.g,T a.b,T a.c,Z d a.a e]] ([c,a]:List Ge) (vS r r) r r (by decide) ⟨(jB.inn ⟨j,m,r,(b.dl 2 r)⟩),⟨(jB.inn ⟨d,e,r,(b.dl 0 r)⟩),y⟩⟩) ?_))⟩
   rintro _ bC ⟨aA,rfl,b⟩
   have h:=(b.ad [5] [])
   refine ⟨(sF h),(pF 10 r (tC r r) h ?_)⟩
   replace b:=b.fz 0 0 r r
   refine hO 11 (oo r r (jP b [[V 14,V 0,V 0,T be,T be,.slice (ad aA) ([c,a]:List Ge).length 2]] ([(⟨14,0,0,be,be,([c,a]:List Ge)⟩:Ge)]:List Ge) (kS r) r r (by decide) ⟨(jB.inn ⟨(ad aA),2,r,(b.dl 0 r)⟩),y⟩) ?_)
   rintro _ bD ⟨aB,rfl,b⟩
   have h:=(b.ad [5] [])
   refine ⟨(sF h),(pF 12 r (qb r r) h (hO 14 (os r r (nX b 2 [V 5,V 0,V 0,T be,T be,V 0,V 0,sn,T be,V 0,.slice (ad aB) ([(⟨14,0,0,be,be,([c,a]:List Ge)⟩:Ge)]:List Ge).length 1,sn,sn] r jQ r r) fun bE b=>?_)))⟩
   have h:=(b.ad [5] [])
   exact ⟨(sF h),(hD (hJd _ _ ⟨aU,aB,aA,⟨r,r,r,r,r,y⟩,(b.ad [3,5,1,6,7,8,0,2] [7,8,9,10,0,3])⟩))⟩
  refine oo r r (nM b (jV jQ)) ?_
  rintro _ bF ⟨aV,rfl,b⟩
  have h:=(b.ad [3] [])
  refine ⟨(sF h),?_⟩
  have hc:=(oL fu) (b.pr [] [0,1,2,3,4,5,6,7] [] r)  h8
  refine hO 1 (oc r r (ec D9 r) hc ?_)
  rintro _ w8 ⟨j,m,rfl,z⟩
  replace b:=b.cn [] [0,1,2,3,4,5,6,7] z
  have h:=(b.ad [3] [])
  refine ⟨(sF h),?_⟩
  have hc:=(jW fu) (b.pr [4] [0,1,2,3,5,6,7] [7] r)  h9
  refine hO 6 (oc r r (ec nW r) hc ?_)
  rintro _ w9 ⟨rfl,z⟩
  replace b:=b.cn [4] [0,1,2,3,5,6,7] z
  have h:=(b.ad [4] [])
  refine ⟨(sF h),(pF 7 r (kE r r) h ?_)⟩
  have hc:=(qP fu) (b.pr [] [0,1,2,3,4,5,6,7] [] r)  ao
  refine hO 8 (oc r r (ec Cu r) hc ?_)
  rintro _ au ⟨d,e,rfl,z⟩
  replace b:=b.cn [] [0,1,2,3,4,5,6,7] z
  have h:=(b.ad [4] [])
  refine ⟨(sF h),(hO 9 (oo r r (jP b [[V c.e,V c.d,V c.g,T c.b,T c.c,Z j c.a m],[V a.e,V a.d,V a.g,T a.b,T a.c,Z d a.a e]] ([c,a]:List Ge) (vS r r) r r (by decide) ⟨(jB.inn ⟨j,m,r,(b.dl 2 r)⟩),⟨(jB.inn ⟨d,e,r,(b.dl 0 r)⟩),y⟩⟩) ?_))⟩
  rintro _ bG ⟨aC,rfl,b⟩
  have h:=(b.ad [5] [])
  refine ⟨(sF h),(pF 10 r (tC r r) h ?_)⟩
  replace b:=b.fz 0 0 r r
  refine hO 11 (oo r r (jP b [[V 14,V 0,V 0,T be,T be,.slice (ad aC) ([c,a]:List Ge).length 2]] ([(⟨14,0,0,be,be,([c,a]:List Ge)⟩:Ge)]:List Ge) (kS r) r r (by decide) ⟨(jB.inn ⟨(ad aC),2,r,(b.dl 0 r)⟩),y⟩) ?_)
  rintro _ bH ⟨aD,rfl,b⟩
  have h:=(b.ad [5] [])
  refine ⟨(sF h),(pF 12 r (qb r r) h (hO 14 (os r r (nX b 2 [V 5,V 0,V 0,T be,T be,V 0,V 0,sn,T be,V 0,.slice (ad aD) ([(⟨14,0,0,be,be,([c,a]:List Ge)⟩:Ge)]:List Ge).length 1,sn,sn] r jQ r r) fun bI b=>?_)))⟩
  have h:=(b.ad [5] [])
  exact ⟨(sF h),(hD (hJd _ _ ⟨aV,aD,aC,⟨r,r,r,r,r,y⟩,(b.ad [3,5,1,6,7,8,0,2] [7,8,9,10,0,3])⟩))⟩
 clear b
 rintro f w ⟨am,A,J,hf,b⟩
 obtain ⟨c6,rfl⟩:=iA _ _ hf
 clear hf
 refine q (g (s (mp r) (s (mi r) (s (kE r r) ?_))))
 obtain ⟨aW,aX,aY,aZ,x⟩:=vD x
 have hc:=H_kit_body (b.pr [1,2,3,4,5] [0,6,7] [5,0,1,2,3] r) (b.le X) (b.le aa) (b.le ab) aZ
 refine sc (ec HY r) hc ?_
 rintro _ bJ ⟨aE,aF,aG,a1,a2,a3,a4,a5,a6,a7,a8,a9,rfl,z⟩
 have b0:=b.rD.size
 replace b:=b.cn [1,2,3,4,5] [0,6,7] z
 replace b:=b.rb 0 w0.heap.size r b0
 refine s (kY r) ?_
 obtain ⟨u,b1,x⟩:=bs x
 have hc:=(oL fu) (b.pr [] [0,1,2,3,4,5,6,7,8] [] r)  b1
 refine sc (ec D9 r) hc ?_
 rintro _ bK ⟨K,L,rfl,z⟩
 replace b:=b.cn [] [0,1,2,3,4,5,6,7,8] z
 refine nU (jP b [[V u.e,V u.d,V u.g,T u.b,T u.c,Z K u.a L]] ([u]:List Ge) (kS r) r r (by decide) ⟨(jB.inn ⟨K,L,r,(b.dl 0 r)⟩),y⟩) ?_
 rintro _ bL ⟨aH,rfl,b⟩
 refine s (kY r) ?_
 obtain ⟨p,b3,x⟩:=bs x
 have hc:=(oL fu) (b.pr [] [0,1,2,3,4,5,6,7,8,9] [] r)  b3
 refine sc (ec D9 r) hc ?_
 rintro _ bM ⟨M,N,rfl,z⟩
 replace b:=b.cn [] [0,1,2,3,4,5,6,7,8,9] z
 obtain ⟨t,b4,x⟩:=bs x
 have hc:=(qP fu) (b.pr [] [0,1,2,3,4,5,6,7,8,9] [] r)  b4
 refine sc (ec Cu r) hc ?_
 rintro _ bN ⟨Q,S,rfl,z⟩
 replace b:=b.cn [] [0,1,2,3,4,5,6,7,8,9] z
 refine nU (jP b [[V p.e,V p.d,V p.g,T p.b,T p.c,Z M p.a N],[V t.e,V t.d,V t.g,T t.b,T t.c,Z Q t.a S]] ([p,t]:List Ge) (vS r r) r r (by decide) ⟨(jB.inn ⟨M,N,r,(b.dl 1 r)⟩),⟨(jB.inn ⟨Q,S,r,(b.dl 0 r)⟩),y⟩⟩) ?_
 rintro _ bO ⟨aI,rfl,b⟩
 refine s (tC r r) ?_
 replace b:=b.fz 0 0 r r
 refine nU (jP b [[V 6,V 0,V 0,T be,T be,.slice (ad aI) ([p,t]:List Ge).length 2]] ([(⟨6,0,0,be,be,([p,t]:List Ge)⟩:Ge)]:List Ge) (kS r) r r (by decide) ⟨(jB.inn ⟨(ad aI),2,r,(b.dl 0 r)⟩),y⟩) ?_
 rintro _ bP ⟨aJ,rfl,b⟩
 refine s (JA r r r) ?_
 replace b:=b.fz 1 4 r r
 replace b:=b.fz 0 1 r r
 refine nU (jP b [[V 2,V 0,V 0,T be,T be,V 0,V 0,.slice (ad aH) ([u]:List Ge).length 1,T be,V 0,.slice (ad aJ) ([(⟨6,0,0,be,be,([p,t]:List Ge)⟩:Ge)]:List Ge).length 1,sn,sn]] ([(⟨2,0,0,be,be,0,0,([u]:List Ge),be,0,([(⟨6,0,0,be,be,([p,t]:List Ge)⟩:Ge)]:List Ge),([]:List Gs),([]:List Gs)⟩:Gs)]:List Gs) (rF r) r r (by decide) ⟨(jD.inn ⟨(ad aH),1,(ad aJ),1,none,0,none,0,r,(b.dl 1 r),(b.dl 0 r),om,om⟩),y⟩) ?_
 rintro _ bQ ⟨bR,rfl,b⟩
 obtain ⟨ac,aK,x⟩:=bs x
 refine nU (kP b 1 7 r r Ak jQ r (by decide) (by decide) (Nat.le_refl _) r r (b.zP 0 0 r r) aK) ?_
 rintro _ bS ⟨ae,af,bT,rfl,b⟩
 refine s (wN r) (lg (t_n b 9 [Z ae ac af] r zX r r) fun bU b=>n (q (g (s (ng [V 1,V 0,V 0,T v,T be,V 0,V 0,sn,T be,V 0,sn,sn,sn] lW jQ r (b.bk 7 r)) (s (ng [V 5,V 0,V 0,T be,T be,V 0,V 0,sn,T be,V 0,.slice (ad A) ([(⟨14,0,0,be,be,([c,a]:List Ge)⟩:Ge)]:List Ge).length 1,Z ae ac af,sn] lW jQ r (b.bk 9 r)) ?_)))))
 replace b:=b.fz 8 17 r r
 replace b:=b.fz 1 8 r r
 refine nU (jP b [[V 1,V 0,V 0,T v,T be,V 0,V 0,sn,T be,V 0,sn,sn,sn],[V 5,V 0,V 0,T be,T be,V 0,V 0,sn,T be,V 0,.slice (ad A) ([(⟨14,0,0,be,be,([c,a]:List Ge)⟩:Ge)]:List Ge).length 1,Z ae ac af,sn]] ([(⟨1,0,0,v,be,0,0,([]:List Ge),be,0,([]:List Ge),([]:List Gs),([]:List Gs)⟩:Gs),(⟨5,0,0,be,be,0,0,([]:List Ge),be,0,([(⟨14,0,0,be,be,([c,a]:List Ge)⟩:Ge)]:List Ge),ac,([]:List Gs)⟩:Gs)]:List Gs) (PZ r r) r r (by decide) ⟨(jD.inn ⟨none,0,none,0,none,0,none,0,r,om,om,om,om⟩),⟨(jD.inn ⟨none,0,(ad A),1,ae,af,none,0,r,om,(b.dl 1 r),(b.dl 0 r),om⟩),y⟩⟩) ?_
 rintro _ bW ⟨b5,rfl,b⟩
 refine s (nk r) (n (kT ?_))
 obtain rfl:=sm x
 exact jI r (lq r) (mM (mM (⟨(ad b5),2,[[V 1,V 0,V 0,T v,T be,V 0,V 0,sn,T be,V 0,sn,sn,sn],[V 5,V 0,V 0,T be,T be,V 0,V 0,sn,T be,V 0,.slice (ad A) ([(⟨14,0,0,be,be,([c,a]:List Ge)⟩:Ge)]:List Ge).length 1,Z ae ac af,sn]],a1,a2,a3,a4,a5,a6,a7,a8,a9,r,(b.ad [0,2,3,4,5,6] [0,10,11,12,13,14])⟩)))
theorem Jq (fu:Nat)(r_kit_stmts:mJ) (r_kit_body:nJ) (r_kit_loop:nI) (H_kit_stmts:uO r_kit_stmts) (H_kit_body:yM r_kit_body) (H_kit_loop:yO r_kit_loop):uO (yI fu r_kit_stmts r_kit_body r_kit_loop):=by
 intro w0 jE x0 ex x1 x2 ah E x A F H dy dz eG a4 dA dB eH ab dC dD eI ac R hP N U W hM
 unfold yI at hM
 have b:=hP.bx
 clear hP
 generalize hG:lT _=G at b ⊢
 refine cf Try.func58 r ?_
 refine lK [(0,Pt ah),(1,V x1),(2,V x2)] ⟨r,r,r,y⟩ fun jF=>?_
 refine q (g (s (nk r) (n (q (g (s (nk r) (n (q (q (g (s (xi r) (n ?_))))))))))))
 replace b:=b.Ca Gs 111
 obtain ⟨Y1,a,hM⟩:=bs hM
 refine oq (fun f w=>∃ (Q:Int)(M:List Gs) (B:OA)(C:Nat)(D:LV)(a5:Int)(a6:Int)(S:List Int) (Y:Int)(a1:Int)(aC:List Int) (aY:Int)(I:List BA) (e:OA)(h:Nat)(t:LV)(J:List BA) (j:OA)(m:Nat)(u:LV)(K:List BA) (o:OA)(p:Nat)(v:LV),Has f [(7,Z B M C)]∧Bx w0 w jE G [O w0.heap.size B C 111 Gs D,.box ah 135 #[Pt E,V a5,V a6,Z F S H,Z e I h,Z j J m,Z o K p,V Y,V a1],.box E 132 #[Z x aC A,V aY],O a4 e h 9 BA t,O ab j m 9 BA u,O ac o p 9 BA v] [.l F H S,.l x A aC,.els D M,.els t I,.els u J,.els v K]∧Ld.go (Q,M,a5,a6,S,Y,a1,aC,aY,I,J,K)=Y1) (fun J1 fi=>?_) ?_
 ·refine oM (kM (fun jG f w=>∃ (Q:Int)(M:List Gs) (B:OA)(C:Nat)(D:LV)(a5:Int)(a6:Int)(S:List Int) (Y:Int)(a1:Int)(aC:List Int) (aY:Int)(I:List BA) (e:OA)(h:Nat)(t:LV)(J:List BA) (j:OA)(m:Nat)(u:LV)(K:List BA) (o:OA)(p:Nat)(v:LV),Has f [(0,Pt ah),(1,V x1),(2,V x2),(7,Z B M C),(8,V Q)]∧Bx w0 w jE G [O w0.heap.size B C 111 Gs D,.box ah 135 #[Pt E,V a5,V a6,Z F S H,Z e I h,Z j J m,Z o K p,V Y,V a1],.box E 132 #[Z x aC A,V aY],O a4 e h 9 BA t,O ab j m 9 BA u,O ac o p 9 BA v] [.l F H S,.l x A aC,.els D M,.els t I,.els u J,.els v K]∧lN fu r_kit_stmts r_kit_body r_kit_loop x1 x2 jG Q M a5 a6 S Y a1 aC aY I J K=some Y1) fu ⟨0,([]:List Gs),none,0,[],x0.f,x0.e,x0.d,x0.g,x0.h,ex.l,ex.a,x0.a,dy,dz,eG,x0.c,dA,dB,eH,x0.b,dC,dD,eI,⟨r,r,r,r,r,y⟩,(b.dp [2,1,0,3,4,5]),a⟩ ?_)
  clear b a
  rintro n1 f w ⟨Q,M,B,C,D,a5,a6,S,Y,a1,aC,aY,I,e,h,t,J,j,m,u,K,o,p,v,hf,b,a⟩ K1 cX
  obtain ⟨jF,rfl⟩:=iA _ _ hf
  clear hf
  cases n1 with
  | zero=>exact nn a
  | succ n1=>
   rw [lN] at a
   refine q (q (g (s (mi r) (s (mi r) (s (qo r r) (s (kL r) ?_))))))
   rcases iv a with ⟨h3,a⟩|⟨h3,a⟩
   ·rw [decide_eq_true h3]
    refine kg r (s (mp r) (kg r (s (xn r) (kg r (s (Mf r) (kg r (s (l3 r (b.bk 1 r) r) (kg r (s (uX r r) (s (kr r r) (s (kL r) ?_)))))))))))
    rcases iv a with ⟨h4,a⟩|⟨h4,a⟩
    ·rw [decide_eq_true h4]
     refine kg r (s (mp r) (kg r (s (xn r) (kg r (s (oO r) (kg r (s (xG r (b.bk 1 r) r) ?_)))))))
     obtain ⟨i2,h5,a⟩:=bs a
     refine kg r ?_
     have hc:=(KM fu) (b.pr [2] [0,1,3,4,5] [1] r)  h5
     refine sc (ec XK r) hc ?_
     rintro _ w5 ⟨rfl,hK⟩
     replace b:=b.cn [2] [0,1,3,4,5] hK
     refine s (kr r r) (n ?_)
     rcases iv a with ⟨h6,a⟩|⟨h6,a⟩
     ·refine jN (cb h6) (wk (q (oM (q (g (s (mp r) (s (xn r) (s (Mf r) (s (l3 r (b.bk 2 r) r) (s (vW r r) (s (xn r) (s (Mf r) (lg (t_n b 2 [V (wr (a1 - 1))] r nO r r) fun w7 b=>?_)))))))))))))
      refine n (q (g (s (mp r) (s (xn r) (s (oO r) (s (xG r (b.bk 2 r) r) ?_))))))
      obtain ⟨cK,al,h8,a⟩:=lZ a
      have hc:=(jW fu) (b.pr [0] [1,2,3,4,5] [2] r)  h8
      refine sc (ec nW r) hc ?_
      rintro _ w8 ⟨rfl,hK⟩
      replace b:=b.cn [0] [1,2,3,4,5] hK
      refine s (xi r) (n (oM (q ?_)))
      obtain ⟨Y9,eE,a⟩:=bs a
      refine oq (fun f w=>∃ (eK:Bool),Has f [(0,Pt ah),(1,V x1),(2,V x2),(7,Z B M C),(8,V Q),(9,V cK),(49,.bool eK)]∧Bx w0 w jE G [.box E 132 #[Z x al.l A,V al.a],O w0.heap.size B C 111 Gs D,.box ah 135 #[Pt E,V a5,V a6,Z F S H,Z e I h,Z j J m,Z o K p,V Y,V (wr (a1 - 1))],O a4 e h 9 BA t,O ab j m 9 BA u,O ac o p 9 BA v] [.l x A al.l,.l F H S,.els D M,.els t I,.els u J,.els v K]∧Ld.go eK=Y9) (fun J9 fW=>?_) ?_
      ·unfold wF at eE
       refine g (s (mi r) (s (qo r r) (s (kL r) ?_)))
       rcases iv eE with ⟨fj,eE⟩|⟨fj,eE⟩
       ·rw [decide_eq_true fj]
        refine kg r (s (mp r) (kg r (s (xn r) (kg r (s (D7 r) (kg r (s (l3 r (b.bk 2 r) r) (kg r (s (qo r r) (s (kr r r) (s (kC r) (n ?_))))))))))))
        exact fW _ _ ⟨(decide (Y < 14)),⟨r,r,r,r,r,r,r,y⟩,(b.dp [0,2,4,5,6,7]),sm eE⟩
       rw [decide_eq_false fj]
       refine jC r (jC r (jC r (jC r (jC r (s (jY r r) (s (kC r) (n ?_)))))))
       exact fW _ _ ⟨false,⟨r,r,r,r,r,r,r,y⟩,(b.dp [0,2,4,5,6,7]),sm eE⟩
      clear b
      rintro f w ⟨eK,hf,b,gQ⟩
      obtain ⟨jF,rfl⟩:=iA _ _ hf
      clear hf
      subst gQ
      replace a:=gi a
      rcases iv a with ⟨eL,a⟩|⟨eL,a⟩
      ·refine jN (cb eL) (g (s (nC r) (s (mp r) ?_)))
       obtain ⟨a7,aF,eM,gR,a⟩:=vD a
       have hc:=(Gw fu) (b.pr [2,0,3,4,5] [1] [0,1,3,4,5] r) (b.le N) (b.le U) (b.le W) gR
       refine sc (ec XG r) hc ?_
       rintro _ iB ⟨cL,cM,cN,cO,cP,cQ,cR,cS,dE,dF,dG,dH,dI,dJ,dK,dL,dM,rfl,hK⟩
       replace b:=b.cn [2,0,3,4,5] [1] hK
       refine nU (jP b [[V a7.c,V a7.f,V a7.n,T a7.b,T a7.k,V a7.m,V a7.g,Z cL a7.d cM,T a7.j,V a7.i,Z cN a7.a cO,Z cP a7.e cQ,Z cR a7.h cS]] ([a7]:List Gs) (rF r) r r (by decide) ⟨(jD.inn ⟨cL,cM,cN,cO,cP,cQ,cR,cS,r,(b.dl 0 r),(b.dl 1 r),(b.dl 2 r),(b.dl 3 r)⟩),y⟩) ?_
       rintro _ iC ⟨iD,rfl,b⟩
       obtain ⟨gS,fX,a⟩:=bs a
       refine nU (kP b 6 12 r r Ak jQ r (by decide) (by decide) (Nat.le_refl _) r r (b.zP 0 0 r r) fX) ?_
       rintro _ iE ⟨gT,gU,gV,rfl,b⟩
       refine s (nk r) (n (g (s (mi r) (s (kE r r) (s (xi r) (n ?_))))))
       exact cX n1 _ _ (Nat.lt_succ_self _) ⟨(wr (Q+1)),gS,gT,gU,gV,aF.f,aF.e,aF.d,aF.g,aF.h,eM.l,eM.a,aF.a,dE,dF,dG,aF.c,dH,dI,dJ,aF.b,dK,dL,dM,⟨r,r,r,r,r,y⟩,(b.ad [6,1,2,3,4,5] [6,5,12,7,8,9]),a⟩
      replace eL:=nt eL
      refine jK (cb eL) (q ?_)
      obtain ⟨gW,cT,a⟩:=bs a
      refine oq (fun f w=>∃ (dN:Bool),Has f [(0,Pt ah),(1,V x1),(2,V x2),(7,Z B M C),(8,V Q),(9,V cK),(64,.bool dN)]∧Bx w0 w jE G [.box E 132 #[Z x al.l A,V al.a],O w0.heap.size B C 111 Gs D,.box ah 135 #[Pt E,V a5,V a6,Z F S H,Z e I h,Z j J m,Z o K p,V Y,V (wr (a1 - 1))],O a4 e h 9 BA t,O ab j m 9 BA u,O ac o p 9 BA v] [.l x A al.l,.l F H S,.els D M,.els t I,.els u J,.els v K]∧Ld.go dN=gW) (fun iF f9=>?_) ?_
      ·unfold vY at cT
       refine g (s (mi r) (s (kD r r) (s (kL r) ?_)))
       rcases iv cT with ⟨fk,cT⟩|⟨fk,cT⟩
       ·rw [decide_eq_true fk]
        refine kg r (s (mi r) (kg r (s (qo r r) (s (kr r r) (s (kC r) (n ?_))))))
        exact f9 _ _ ⟨(decide (x1 < 4)),⟨r,r,r,r,r,r,r,y⟩,b,sm cT⟩
       rw [decide_eq_false fk]
       refine jC r (jC r (s (jY r r) (s (kC r) (n ?_))))
       exact f9 _ _ ⟨false,⟨r,r,r,r,r,r,r,y⟩,b,sm cT⟩
      clear b
      rintro f w ⟨dN,hf,b,fY⟩
      obtain ⟨jF,rfl⟩:=iA _ _ hf
      clear hf
      subst fY
      replace a:=gi a
      rcases iv a with ⟨eN,a⟩|⟨eN,a⟩
      ·refine jN (cb eN) (q (g (s (mp r) ?_)))
       obtain ⟨L,gX,gY,gZ,a⟩:=vD a
       have hc:=(rM fu) (b.pr [2,0,3,4,5] [1] [0,1,3,4,5] r) (b.le N) (b.le U) (b.le W) gZ
       refine sc (ec Ag r) hc ?_
       rintro _ iG ⟨aO,aP,rfl,hK⟩
       replace b:=b.cn [2,0,3,4,5] [1] hK
       refine nU (jP b [[V L.e,V L.d,V L.g,T L.b,T L.c,Z aO L.a aP]] ([L]:List Ge) (kS r) r r (by decide) ⟨(jB.inn ⟨aO,aP,r,(b.dl 0 r)⟩),y⟩) ?_
       rintro _ iH ⟨cY,rfl,b⟩
       refine s (qb r r) (tu b (jV jQ) fun iI fZ b=>?_)
       refine lg (nX b 0 [V 4,V 0,V 0,T be,T be,V 0,V 0,sn,T be,V 0,.slice (ad cY) ([L]:List Ge).length 1,sn,sn] r jQ r r) fun iJ b=>?_
       refine n (q (g (s (mp r) (s (mi r) (s (kE r r) ?_)))))
       obtain ⟨aG,aH,h0,h1,a⟩:=vD a
       have hc:=H_kit_body (b.pr [2,3,4,5,6] [0,1,7] [2,3,4,5,6] r) (b.le N) (b.le U) (b.le W) h1
       refine sc (ec HY r) hc ?_
       rintro _ iK ⟨a2,a3,cU,dO,dP,dQ,dR,dS,dT,dU,dV,dW,rfl,hK⟩
       have ch:=b.rD.size
       replace b:=b.cn [2,3,4,5,6] [0,1,7] hK
       replace b:=b.rb 0 w0.heap.size r ch
       refine s (wN r) (lg (t_n b 6 [Z a2 aG a3] r zX r r) fun iL b=>?_)
       refine n (q ?_)
       replace b:=b.Ca Gs 111
       obtain ⟨h2,ai,a⟩:=bs a
       refine oq (fun f w=>∃ (b3:List Gs) (aQ:OA)(aR:Nat)(cZ:LV)(d0:Int)(d1:Int)(ci:List Int) (d2:Int)(d3:Int)(cj:List Int) (d4:Int)(ck:List BA) (bT:OA)(bU:Nat)(bV:LV)(b8:List BA) (b9:OA)(ba:Nat)(bb:LV)(bc:List BA) (bd:OA)(bg:Nat)(bh:LV),Has f [(0,Pt ah),(1,V x1),(2,V x2),(7,Z B M C),(8,V Q),(10,Pt fZ)]∧Bx w0 w jE G [O w0.heap.size aQ aR 111 Gs cZ,O w0.heap.size a2 a3 111 Gs cU,.box ah 135 #[Pt E,V d0,V d1,Z F ci H,Z bT ck bU,Z b9 b8 ba,Z bd bc bg,V d2,V d3],.box E 132 #[Z x cj A,V d4],O a4 bT bU 9 BA bV,O ab b9 ba 9 BA bb,O ac bd bg 9 BA bh,.box fZ 111 #[V 4,V 0,V 0,T be,T be,V 0,V 0,sn,T be,V 0,.slice (ad cY) ([L]:List Ge).length 1,Z a2 aG a3,Z aQ b3 aR],O w0.heap.size (ad cY) 1 138 Ge [[V L.e,V L.d,V L.g,T L.b,T L.c,Z aO L.a aP]],O w0.heap.size B C 111 Gs D] [.l F H ci,.l x A cj,.els cZ b3,.els cU aG,.els bV ck,.els bb b8,.els bh bc,.els [[V L.e,V L.d,V L.g,T L.b,T L.c,Z aO L.a aP]] ([L]:List Ge),.els D M]∧Ld.go (b3,d0,d1,ci,d2,d3,cj,d4,ck,b8,bc)=h2) (fun iM fa=>?_) ?_
       ·unfold xg at ai
        refine q (g (s (mp r) (s (xn r) (s (oO r) (s (xG r (b.bk 2 r) r) ?_)))))
        obtain ⟨h7,eO,h9,ai⟩:=lZ ai
        have hc:=(jW fu) (b.pr [3] [0,1,2,4,5,6,7,8,9] [2] r)  h9
        refine sc (ec nW r) hc ?_
        rintro _ iN ⟨rfl,hK⟩
        replace b:=b.cn [3] [0,1,2,4,5,6,7,8,9] hK
        refine s (kD r r) (n ?_)
        rcases iv ai with ⟨fl,ai⟩|⟨fl,ai⟩
        ·refine jN (bt fl) (g (s (mp r) (s (mi r) (s (kE r r) ?_))))
         obtain ⟨dX,aI,eP,ha,ai⟩:=vD ai
         have hc:=H_kit_body (b.pr [3,0,4,5,6] [1,2,7,8,9] [0,4,5,6,7] r) (b.le N) (b.le U) (b.le W) ha
         refine sc (ec HY r) hc ?_
         rintro _ iO ⟨bI,bJ,eF,dY,dZ,e0,e1,e2,e3,e4,e5,e6,rfl,hK⟩
         have ch:=b.rD.size
         replace b:=b.cn [3,0,4,5,6] [1,2,7,8,9] hK
         replace b:=b.rb 0 w0.heap.size r ch
         refine s (wG r) (lg (t_n b 8 [Z bI dX bJ] r zX r r) fun iP b=>?_)
         refine n ?_
         exact fa _ _ ⟨dX,bI,bJ,eF,aI.f,aI.e,aI.d,aI.g,aI.h,eP.l,eP.a,aI.a,dY,dZ,e0,aI.c,e1,e2,e3,aI.b,e4,e5,e6,⟨r,r,r,r,r,r,y⟩,(b.ad [0,7,1,2,3,4,5,8,9,10] [2,1,0,8,3,4,5,14,23]),sm ai⟩
        refine jK (bf fl) (wk ?_)
        exact fa _ _ ⟨([]:List Gs),none,0,[],aH.f,aH.e,aH.d,aH.g,aH.h,eO.l,eO.a,aH.a,dO,dP,dQ,aH.c,dR,dS,dT,aH.b,dU,dV,dW,⟨r,r,r,r,r,r,y⟩,(b.ad [1,2,3,0,4,5,6,7,8,9] [4,0,1,2,5,6,7,8,17]),sm ai⟩
       clear b
       rintro f w ⟨b3,aQ,aR,cZ,d0,d1,ci,d2,d3,cj,d4,ck,bT,bU,bV,b8,b9,ba,bb,bc,bd,bg,bh,hf,b,g0⟩
       obtain ⟨jF,rfl⟩:=iA _ _ hf
       clear hf
       subst g0
       replace a:=gi a
       replace a:=pi (mG (mG (mG a)))
       refine g (s (nC r) (s (ng [V 4,V 0,V 0,T be,T be,V 0,V 0,sn,T be,V 0,.slice (ad cY) ([L]:List Ge).length 1,Z a2 aG a3,Z aQ b3 aR] lW jQ r (b.bk 7 r)) ?_))
       replace b:=b.fz 8 7 r r
       replace b:=b.fz 1 4 r r
       replace b:=b.fz 0 4 r r
       refine nU (jP b [[V 4,V 0,V 0,T be,T be,V 0,V 0,sn,T be,V 0,.slice (ad cY) ([L]:List Ge).length 1,Z a2 aG a3,Z aQ b3 aR]] ([(⟨4,0,0,be,be,0,0,([]:List Ge),be,0,([L]:List Ge),aG,b3⟩:Gs)]:List Gs) (rF r) r r (by decide) ⟨(jD.inn ⟨none,0,(ad cY),1,a2,a3,aQ,aR,r,om,(b.dl 2 r),(b.dl 1 r),(b.dl 0 r)⟩),y⟩) ?_
       rintro _ iQ ⟨iR,rfl,b⟩
       obtain ⟨hb,g1,a⟩:=bs a
       refine nU (kP b 7 9 r r Ak jQ r (by decide) (by decide) (Nat.le_refl _) r r (b.zP 0 0 r r) g1) ?_
       rintro _ iS ⟨hd,he,hg,rfl,b⟩
       refine s (nk r) (n (g (s (mi r) (s (kE r r) (s (xi r) (n ?_))))))
       exact cX n1 _ _ (Nat.lt_succ_self _) ⟨(wr (Q+1)),hb,hd,he,hg,d0,d1,ci,d2,d3,cj,d4,ck,bT,bU,bV,b8,b9,ba,bb,bc,bd,bg,bh,⟨r,r,r,r,r,y⟩,(b.ad [7,1,2,3,4,5] [4,5,9,6,7,8]),a⟩
      replace eN:=nt eN
      refine jK (cb eN) (q ?_)
      obtain ⟨hh,aZ,a⟩:=bs a
      refine oq (fun f w=>∃ (e7:Bool),Has f [(0,Pt ah),(1,V x1),(2,V x2),(7,Z B M C),(8,V Q),(9,V cK),(95,.bool e7)]∧Bx w0 w jE G [.box E 132 #[Z x al.l A,V al.a],O w0.heap.size B C 111 Gs D,.box ah 135 #[Pt E,V a5,V a6,Z F S H,Z e I h,Z j J m,Z o K p,V Y,V (wr (a1 - 1))],O a4 e h 9 BA t,O ab j m 9 BA u,O ac o p 9 BA v] [.l x A al.l,.l F H S,.els D M,.els t I,.els u J,.els v K]∧Ld.go e7=hh) (fun iT eQ=>?_) ?_
      ·unfold xk at aZ
       refine g (s (mi r) (s (kD r r) (s (kL r) ?_)))
       rcases iv aZ with ⟨fm,aZ⟩|⟨fm,aZ⟩
       ·rw [decide_eq_true fm]
        refine kg r (s (mi r) (kg r (s (qo r r) (s (kr r r) (s (kL r) ?_)))))
        rcases iv aZ with ⟨fo,aZ⟩|⟨fo,aZ⟩
        ·rw [decide_eq_true fo]
         refine kg r (s (mp r) (kg r (s (xn r) (kg r (s (D7 r) (kg r (s (l3 r (b.bk 2 r) r) (kg r (s (qo r r) (s (kr r r) (s (kC r) (n ?_))))))))))))
         exact eQ _ _ ⟨(decide (Y < 14)),⟨r,r,r,r,r,r,r,y⟩,b,sm aZ⟩
        rw [decide_eq_false fo]
        refine jC r (jC r (jC r (jC r (jC r (s (jY r r) (s (kC r) (n ?_)))))))
        exact eQ _ _ ⟨false,⟨r,r,r,r,r,r,r,y⟩,b,sm aZ⟩
       rw [decide_eq_false fm]
       refine jC r (jC r (s (jY r r) (s (kL r) (jC r (jC r (jC r (jC r (jC r (s (jY r r) (s (kC r) (n ?_)))))))))))
       exact eQ _ _ ⟨false,⟨r,r,r,r,r,r,r,y⟩,b,sm aZ⟩
      clear b
      rintro f w ⟨e7,hf,b,g2⟩
      obtain ⟨jF,rfl⟩:=iA _ _ hf
      clear hf
      subst g2
      replace a:=gi a
      rcases iv a with ⟨eR,a⟩|⟨eR,a⟩
      ·refine jN (cb eR) (g (s (nC r) (s (mp r) (s (mi r) ?_))))
       obtain ⟨hj,aJ,eS,hk,a⟩:=vD a
       have hc:=H_kit_loop (b.pr [2,0,3,4,5] [1] [0,1,3,4,5] r) (b.le N) (b.le U) (b.le W) hk
       refine sc (ec XZ r) hc ?_
       rintro _ iU ⟨fQ,fR,fS,e8,e9,ea,eb,ed,ee,ef,eg,eh,rfl,hK⟩
       have ch:=b.rD.size
       replace b:=b.cn [2,0,3,4,5] [1] hK
       replace b:=b.rb 0 w0.heap.size r ch
       obtain ⟨hl,g3,a⟩:=bs a
       refine nU (kP b 6 8 r r Ak jQ r (by decide) (by decide) (Nat.le_refl _) r r (b.zP 0 0 r r) g3) ?_
       rintro _ iV ⟨hm,hn,ho,rfl,b⟩
       refine s (nk r) (n (g (s (mi r) (s (kE r r) (s (xi r) (n ?_))))))
       exact cX n1 _ _ (Nat.lt_succ_self _) ⟨(wr (Q+1)),hl,hm,hn,ho,aJ.f,aJ.e,aJ.d,aJ.g,aJ.h,eS.l,eS.a,aJ.a,e8,e9,ea,aJ.c,eb,ed,ee,aJ.b,ef,eg,eh,⟨r,r,r,r,r,y⟩,(b.ad [6,1,2,3,4,5] [2,1,8,3,4,5]),a⟩
      replace eR:=nt eR
      refine jK (cb eR) (q ?_)
      obtain ⟨hp,b0,a⟩:=bs a
      refine oq (fun f w=>∃ (ei:Bool),Has f [(0,Pt ah),(1,V x1),(2,V x2),(7,Z B M C),(8,V Q),(9,V cK),(114,.bool ei)]∧Bx w0 w jE G [.box E 132 #[Z x al.l A,V al.a],O w0.heap.size B C 111 Gs D,.box ah 135 #[Pt E,V a5,V a6,Z F S H,Z e I h,Z j J m,Z o K p,V Y,V (wr (a1 - 1))],O a4 e h 9 BA t,O ab j m 9 BA u,O ac o p 9 BA v] [.l x A al.l,.l F H S,.els D M,.els t I,.els u J,.els v K]∧Ld.go ei=hp) (fun iW eT=>?_) ?_
      ·unfold wQ at b0
       refine g (s (mi r) (s (kD r r) (s (kL r) ?_)))
       rcases iv b0 with ⟨fp,b0⟩|⟨fp,b0⟩
       ·rw [decide_eq_true fp]
        refine kg r (s (mi r) (kg r (s (qo r r) (s (kr r r) (s (kL r) ?_)))))
        rcases iv b0 with ⟨fq,b0⟩|⟨fq,b0⟩
        ·rw [decide_eq_true fq]
         refine kg r (s (mp r) (kg r (s (xn r) (kg r (s (D7 r) (kg r (s (l3 r (b.bk 2 r) r) (kg r (s (qo r r) (s (kr r r) (s (kC r) (n ?_))))))))))))
         exact eT _ _ ⟨(decide (Y < 14)),⟨r,r,r,r,r,r,r,y⟩,b,sm b0⟩
        rw [decide_eq_false fq]
        refine jC r (jC r (jC r (jC r (jC r (s (jY r r) (s (kC r) (n ?_)))))))
        exact eT _ _ ⟨false,⟨r,r,r,r,r,r,r,y⟩,b,sm b0⟩
       rw [decide_eq_false fp]
       refine jC r (jC r (s (jY r r) (s (kL r) (jC r (jC r (jC r (jC r (jC r (s (jY r r) (s (kC r) (n ?_)))))))))))
       exact eT _ _ ⟨false,⟨r,r,r,r,r,r,r,y⟩,b,sm b0⟩
      clear b
      rintro f w ⟨ei,hf,b,g4⟩
      obtain ⟨jF,rfl⟩:=iA _ _ hf
      clear hf
      subst g4
      replace a:=gi a
      rcases iv a with ⟨eU,a⟩|⟨eU,a⟩
      ·refine jN (cb eU) (q (g (s (CU r) (tu b (jV jQ) fun iX iY b=>?_))))
       refine lg (nX b 0 [V 8,V 0,V 0,T be,T be,V 0,V 0,sn,T be,V 0,sn,sn,sn] r jQ r r) fun iZ b=>?_
       refine n (q (g (s (mp r) (s (mi r) (s (kE r r) ?_)))))
       obtain ⟨b4,hq,hr,ht,a⟩:=vD a
       have hc:=H_kit_body (b.pr [3,1,4,5,6] [0,2] [0,1,3,4,5] r) (b.le N) (b.le U) (b.le W) ht
       refine sc (ec HY r) hc ?_
       rintro _ j0 ⟨ae,af,fT,fr,ft,fv,ej,ek,fw,em,en,fx,rfl,hK⟩
       have ch:=b.rD.size
       replace b:=b.cn [3,1,4,5,6] [0,2] hK
       replace b:=b.rb 0 w0.heap.size r ch
       refine s (wN r) (lg (t_n b 6 [Z ae b4 af] r zX r r) fun j1 b=>?_)
       refine n (q (g (s (mp r) ?_)))
       obtain ⟨aK,b5,hv,a⟩:=lZ a
       have hc:=(AP fu) (b.pr [1,2,3,4,5] [0,6,7] [1,2,3,4,5] r) (b.le N) (b.le U) (b.le W) hv
       refine sc (ec QB r) hc ?_
       rintro _ j2 ⟨rfl,hK⟩
       replace b:=b.cn [1,2,3,4,5] [0,6,7] hK
       refine s (zF r) (lg (t_n b 6 [T aK] r oQ r r) fun j3 b=>?_)
       refine n (q (Kr b [6] [] [0,6] [] [11] (by kernel_rfl) ?_))
       replace b:=b.drew
       have hs:=(b.ad [6] [])
       have hu:=(b.ad [0,6] [])
       refine pL 0 r (mp r) hs hu (pL 1 r (mp r) hs hu (pL 2 r (xn r) hs hu (pL 3 r (mQ r) hs hu (tS 1 4 r (fun _ hS=>zM r (hS.bk 0 r) r) (nu hs hu) (pL 5 r (zF r) hs hu (tU 6 r (fun _ hS=>l9 r (hS.bk 0 r) r) (nu hs hu) ?_))))))
       refine hO 7 (oo r r (jP b [[T aK]] ([aK]:List BA) (zK r) r r (by decide) ⟨r,y⟩) ?_)
       rintro _ j4 ⟨j5,rfl,b⟩
       have hs:=(b.ad [7] [])
       have hu:=(b.ad [1,7] [])
       refine ⟨(nu hs hu),?_⟩
       obtain ⟨g5,g6,a⟩:=bs a
       refine hO 8 (oo r r (kP b 3 3 r r kQ oQ r (by decide) (by decide) N r r (b.zP 0 0 r r) g6) ?_)
       rintro _ j6 ⟨g7,g8,j7,rfl,b⟩
       have hs:=(b.ad [7] [])
       have hu:=(b.ad [1,7] [])
       refine ⟨(nu hs hu),?_⟩
       refine pL 9 r (xn r) hs hu (pL 10 r (mQ r) hs hu ?_)
       refine hO 11 (os r r (t_n b 1 [Z g7 g5 g8] r oH r r) fun j8 b=>?_)
       have hs:=(b.ad [7] [])
       refine ⟨(sy 11 hs),?_⟩
       refine hD (q (g (s (mp r) (s (mi r) (s (kE r r) ?_)))))
       obtain ⟨cm,a8,eV,hw,a⟩:=vD a
       have hc:=H_kit_body (b.pr [1,2,3,4,5] [0,6,7,8] [7,2,3,4,5] r) (b.le N) (b.le U) (b.le W) hw
       refine sc (ec HY r) hc ?_
       rintro _ j9 ⟨ar,au,fU,cn,co,fy,cp,cq,eo,cr,ct,ep,rfl,hK⟩
       have ch:=b.rD.size
       replace b:=b.cn [1,2,3,4,5] [0,6,7,8] hK
       replace b:=b.rb 0 w0.heap.size r ch
       refine s (wG r) (lg (t_n b 8 [Z ar cm au] r zX r r) fun ja b=>?_)
       refine n (q (Kr b [] [] [1] [] [16] (by kernel_rfl) ?_))
       replace b:=b.drew
       have hs:=(b.ad [] [])
       have hu:=(b.ad [1] [])
       refine pL 0 r (mp r) hs hu (pL 2 r (mp r) hs hu (pL 3 r (xn r) hs hu (pL 4 r (mQ r) hs hu (tS 1 5 r (fun _ hS=>zM r (hS.bk 0 r) r) (nu hs hu) (pL 6 r (mp r) hs hu (pL 7 r (xn r) hs hu (pL 8 r (mQ r) hs hu (tS 1 9 r (fun _ hS=>zM r (hS.bk 0 r) r) (nu hs hu) (pL 10 r (lX kQ r) hs hu (pL 11 r (vW r r) hs hu ?_))))))))))
       obtain ⟨g9,ga,a⟩:=bs a
       obtain ⟨hx,gb,i4,gc,hy,fb,fc⟩:=Bf ga
       obtain rfl:hx=0:=by omega
       have fz:g9.length=gb:=by rw [← fc,List.length_take,List.length_drop];omega
       refine tP 12 r (fun _=>show Yl _ _ _ _ _ _ _ _ _ (.slice cn g9.length co) from (congrArg (fun z=>Value.slice cn z co) fz).symm ▸ yQ gb kQ oQ r r gc (Nat.le_trans fb ((b.vw 3 3 r r)).cap)) (nu hs hu) ?_
       refine hO 1 (oo r r (jP b [] ([]:List BA) (mq) r r (by decide) y) ?_)
       rintro _ jb ⟨jc,rfl,b⟩
       have hs:=(b.ad [] [])
       have hu:=(b.ad [2] [])
       refine ⟨(nu hs hu),?_⟩
       obtain ⟨fA,gd,a⟩:=bs a
       refine hO 13 (oo r r (kP b 0 0 r r kQ oQ r (by decide) (by decide) (Nat.le_refl _) r r (b.zO 4 4 r r fb fc) gd) ?_)
       rintro _ jd ⟨fB,fC,hz,rfl,b⟩
       have hs:=(b.ad [] [])
       have hu:=(b.ad [2] [])
       refine ⟨(nu hs hu),?_⟩
       refine pL 14 r (xn r) hs hu (pL 15 r (mQ r) hs hu ?_)
       refine hO 16 (os r r (t_n b 2 [Z fB fA fC] r oH r r) fun je b=>?_)
       have hs:=(b.ad [] [])
       refine ⟨(sy 16 hs),?_⟩
       refine hD (g (s (nC r) (s (ng [V 8,V 0,V 0,T aK,T be,V 0,V 0,sn,T be,V 0,sn,Z ae b4 af,Z ar cm au] lW jQ r (b.bk 9 r)) ?_)))
       replace b:=b.fz 8 13 r r
       replace b:=b.fz 1 2 r r
       refine nU (jP b [[V 8,V 0,V 0,T aK,T be,V 0,V 0,sn,T be,V 0,sn,Z ae b4 af,Z ar cm au]] ([(⟨8,0,0,aK,be,0,0,([]:List Ge),be,0,([]:List Ge),b4,cm⟩:Gs)]:List Gs) (rF r) r r (by decide) ⟨(jD.inn ⟨none,0,none,0,ae,af,ar,au,r,om,om,(b.dl 1 r),(b.dl 0 r)⟩),y⟩) ?_
       rintro _ jf ⟨jg,rfl,b⟩
       obtain ⟨hA,ge,a⟩:=bs a
       refine nU (kP b 9 22 r r Ak jQ r (by decide) (by decide) (Nat.le_refl _) r r (b.zP 0 0 r r) ge) ?_
       rintro _ jh ⟨hB,hC,hE,rfl,b⟩
       refine s (nk r) (n (g (s (mi r) (s (kE r r) (s (xi r) (n ?_))))))
       replace b:=b.rb 1 a4 r N
       exact cX n1 _ _ (Nat.lt_succ_self _) ⟨(wr (Q+1)),hA,hB,hC,hE,a8.f,a8.e,a8.d,a8.g,a8.h,eV.l,eV.a,fA,fB,fC,hz,a8.c,cp,cq,eo,a8.b,cr,ct,ep,⟨r,r,r,r,r,y⟩,(b.ad [9,2,3,1,5,6] [5,4,22,3,7,8]),a⟩
      replace eU:=nt eU
      refine jK (cb eU) (q (g (s (mi r) (s (kD r r) (s (kC r) (n ?_))))))
      rcases iv a with ⟨fD,a⟩|⟨fD,a⟩
      ·refine jN (bt fD) (g (s (nC r) (s (mp r) ?_)))
       obtain ⟨az,aL,eW,hF,a⟩:=vD a
       have hc:=(rM fu) (b.pr [2,0,3,4,5] [1] [0,1,3,4,5] r) (b.le N) (b.le U) (b.le W) hF
       refine sc (ec Ag r) hc ?_
       rintro _ ji ⟨cV,cW,rfl,hK⟩
       replace b:=b.cn [2,0,3,4,5] [1] hK
       refine nU (jP b [[V az.e,V az.d,V az.g,T az.b,T az.c,Z cV az.a cW]] ([az]:List Ge) (kS r) r r (by decide) ⟨(jB.inn ⟨cV,cW,r,(b.dl 0 r)⟩),y⟩) ?_
       rintro _ jj ⟨gf,rfl,b⟩
       refine s (qb r r) ?_
       replace b:=b.fz 0 0 r r
       refine nU (jP b [[V 9,V 0,V 0,T be,T be,V 0,V 0,sn,T be,V 0,.slice (ad gf) ([az]:List Ge).length 1,sn,sn]] ([(⟨9,0,0,be,be,0,0,([]:List Ge),be,0,([az]:List Ge),([]:List Gs),([]:List Gs)⟩:Gs)]:List Gs) (rF r) r r (by decide) ⟨(jD.inn ⟨none,0,(ad gf),1,none,0,none,0,r,om,(b.dl 0 r),om,om⟩),y⟩) ?_
       rintro _ jk ⟨jl,rfl,b⟩
       obtain ⟨hH,gg,a⟩:=bs a
       refine nU (kP b 6 10 r r Ak jQ r (by decide) (by decide) (Nat.le_refl _) r r (b.zP 0 0 r r) gg) ?_
       rintro _ jm ⟨hI,hJ,hN,rfl,b⟩
       refine s (nk r) (n (g (s (mi r) (s (kE r r) (s (xi r) (n ?_))))))
       exact cX n1 _ _ (Nat.lt_succ_self _) ⟨(wr (Q+1)),hH,hI,hJ,hN,aL.f,aL.e,aL.d,aL.g,aL.h,eW.l,eW.a,aL.a,e,h,t,aL.c,j,m,u,aL.b,o,p,v,⟨r,r,r,r,r,y⟩,(b.ad [6,1,2,3,4,5] [4,3,10,5,6,7]),a⟩
      refine jK (bf fD) (q ?_)
      obtain ⟨hQ,b2,a⟩:=bs a
      refine oq (fun f w=>∃ (eq:Bool) (cu:List Int) (d5:Int),Has f [(0,Pt ah),(1,V x1),(2,V x2),(7,Z B M C),(8,V Q),(9,V cK),(183,.bool eq)]∧Bx w0 w jE G [.box E 132 #[Z x cu A,V d5],O w0.heap.size B C 111 Gs D,.box ah 135 #[Pt E,V a5,V a6,Z F S H,Z e I h,Z j J m,Z o K p,V Y,V (wr (a1 - 1))],O a4 e h 9 BA t,O ab j m 9 BA u,O ac o p 9 BA v] [.l x A cu,.l F H S,.els D M,.els t I,.els u J,.els v K]∧Ld.go (eq,cu,d5)=hQ) (fun jn fd=>?_) ?_
      ·unfold xC at b2
       refine g (s (mi r) (s (kD r r) (s (kL r) ?_)))
       rcases iv b2 with ⟨fE,b2⟩|⟨fE,b2⟩
       ·rw [decide_eq_true fE]
        refine kg r (s (mp r) (kg r (s (xn r) (kg r (s (oO r) (kg r (s (xG r (b.bk 2 r) r) ?_)))))))
        obtain ⟨fF,eX,hR,b2⟩:=lZ b2
        refine kg r ?_
        have hc:=(jW fu) (b.pr [0] [1,2,3,4,5] [0] r)  hR
        refine sc (ec nW r) hc ?_
        rintro _ jo ⟨rfl,hK⟩
        replace b:=b.cn [0] [1,2,3,4,5] hK
        refine kg r (s (kD r r) (s (kr r r) (s (kC r) (n ?_))))
        exact fd _ _ ⟨(decide (fF=0)),eX.l,eX.a,⟨r,r,r,r,r,r,r,y⟩,(b.dp [0,2,3,4,5,6]),sm b2⟩
       rw [decide_eq_false fE]
       refine jC r (jC r (jC r (jC r (jC r (jC r (s (jY r r) (s (kC r) (n ?_))))))))
       exact fd _ _ ⟨false,al.l,al.a,⟨r,r,r,r,r,r,r,y⟩,b,sm b2⟩
      clear b
      rintro f w ⟨eq,cu,d5,hf,b,gh⟩
      obtain ⟨jF,rfl⟩:=iA _ _ hf
      clear hf
      subst gh
      replace a:=gi a
      replace a:=Bh a
      rcases iv a with ⟨eY,a⟩|⟨eY,a⟩
      ·refine jN (cb eY) (q (g (s (CU r) (tu b (jV jQ) fun jp f7 b=>?_))))
       refine lg (nX b 0 [V 6,V 0,V 0,T be,T be,V 0,V 0,sn,T be,V 0,sn,sn,sn] r jQ r r) fun jq b=>?_
       refine n (q ?_)
       replace b:=b.Ca Ge 138
       obtain ⟨hT,c,a⟩:=bs a
       refine oq (fun f w=>∃ (b6:List Ge) (aS:OA)(aT:Nat)(d6:LV)(bK:Int)(bL:Int)(bM:Int)(bN:BA) (bO:BA) (bP:Int)(bQ:Int)(b7:List Ge) (aU:OA)(aV:Nat)(aW:BA) (aX:Int)(aA:List Gs) (av:OA)(aw:Nat)(aB:List Gs) (ax:OA)(ay:Nat)(bi:List Int) (bW:Int)(bX:Int)(bY:Int)(bj:List Int) (bZ:Int)(c0:Int)(bl:List BA) (bm:List BA) (bn:List BA),Has f [(0,Pt ah),(1,V x1),(2,V x2),(7,Z B M C),(8,V Q),(12,Pt f7)]∧Bx w0 w jE G [O w0.heap.size aS aT 138 Ge d6,.box f7 111 #[V bK,V bL,V bM,T bN,T bO,V bP,V bQ,Z aU b7 aV,T aW,V aX,Z aS b6 aT,Z av aA aw,Z ax aB ay],.box E 132 #[Z x bi A,V bW],O w0.heap.size B C 111 Gs D,.box ah 135 #[Pt E,V bX,V bY,Z F bj H,Z e bl h,Z j bm m,Z o bn p,V bZ,V c0],O a4 e h 9 BA t,O ab j m 9 BA u,O ac o p 9 BA v] [.l aU aV b7,.l av aw aA,.l ax ay aB,.l x A bi,.l F H bj,.els d6 b6,.els D M,.els t bl,.els u bm,.els v bn]∧Ld.go (b6,bK,bL,bM,bN,bO,bP,bQ,b7,aW,aX,aA,aB,bi,bW,bX,bY,bj,bZ,c0,bl,bm,bn)=hT) (fun jr fe=>?_) ?_
       ·unfold wH at c
        refine q ?_
        obtain ⟨hU,aa,c⟩:=bs c
        refine oq (fun f w=>∃ (er:Bool) (cv:List Ge) (c1:OA)(c2:Nat)(c3:LV)(d7:Int)(d8:Int)(d9:Int)(da:BA) (db:BA) (dc:Int)(dd:Int)(bo:List Ge) (bp:OA)(bq:Nat)(c4:BA) (c5:Int)(br:List Gs) (bu:OA)(bv:Nat)(bw:List Gs) (bz:OA)(bA:Nat)(bB:List Int) (c6:Int)(c7:Int)(c8:Int)(bC:List Int) (c9:Int)(cc:Int)(bD:List BA) (bE:List BA) (bF:List BA),Has f [(0,Pt ah),(1,V x1),(2,V x2),(7,Z B M C),(8,V Q),(12,Pt f7),(205,.bool er)]∧Bx w0 w jE G [O w0.heap.size c1 c2 138 Ge c3,.box f7 111 #[V d7,V d8,V d9,T da,T db,V dc,V dd,Z bp bo bq,T c4,V c5,Z c1 cv c2,Z bu br bv,Z bz bw bA],.box E 132 #[Z x bB A,V c6],O w0.heap.size B C 111 Gs D,.box ah 135 #[Pt E,V c7,V c8,Z F bC H,Z e bD h,Z j bE m,Z o bF p,V c9,V cc],O a4 e h 9 BA t,O ab j m 9 BA u,O ac o p 9 BA v] [.l bp bq bo,.l bu bv br,.l bz bA bw,.l x A bB,.l F H bC,.els c3 cv,.els D M,.els t bD,.els u bE,.els v bF]∧Ld.go (er,cv,d7,d8,d9,da,db,dc,dd,bo,c4,c5,br,bw,bB,c6,c7,c8,bC,c9,cc,bD,bE,bF)=hU) (fun jt ff=>?_) ?_
        ·unfold wO at aa
         refine g (s (mp r) (s (xn r) (s (oO r) (s (xG r (b.bk 4 r) r) ?_))))
         obtain ⟨hV,eZ,hW,aa⟩:=lZ aa
         have hc:=(jW fu) (b.pr [2] [0,1,3,4,5,6,7] [1] r)  hW
         refine sc (ec nW r) hc ?_
         rintro _ ju ⟨rfl,hK⟩
         replace b:=b.cn [2] [0,1,3,4,5,6,7] hK
         refine s (kD r r) (s (kL r) ?_)
         rcases iv aa with ⟨fG,aa⟩|⟨fG,aa⟩
         ·rw [decide_eq_true fG]
          refine jC r (jC r (jC r (s (kr r r) (n ?_))))
          replace b:=b.ku (d:=.l none 0 ([]:List Ge)) om
          replace b:=b.ku (d:=.l none 0 ([]:List Gs)) om
          replace b:=b.ku (d:=.l none 0 ([]:List Gs)) om
          exact ff _ _ ⟨true,([]:List Ge),none,0,[],6,0,0,be,be,0,0,([]:List Ge),none,0,be,0,([]:List Gs),none,0,([]:List Gs),none,0,eZ.l,eZ.a,a5,a6,S,Y,(wr (a1 - 1)),I,J,K,⟨r,r,r,r,r,r,r,y⟩,(b.ad [1,2,0,3,4,5,6,7] [2,1,0,3,6,4,7,8,9,10]),sm aa⟩
         rw [decide_eq_false fG]
         refine kg r (s (mp r) ?_)
         replace b:=b.ku (d:=.l none 0 ([]:List Ge)) om
         replace b:=b.ku (d:=.l none 0 ([]:List Gs)) om
         replace b:=b.ku (d:=.l none 0 ([]:List Gs)) om
         obtain ⟨fH,aM,f0,ag,hX,aa⟩:=Xn aa
         refine kg r ?_
         have hc:=(Em fu) (b.pr [4,0,5,6,7,2,1] [3] [3,6,8,9,10,2,4,1,0] r) (b.le N) (b.le U) (b.le W) b.rD.size hX
         refine sc (ec TS r) hc ?_
         rintro _ jv ⟨et,eu,ev,rfl,hK⟩
         replace b:=b.cn [4,0,5,6,7,2,1] [3] hK
         refine kg r (s (Al r) (s (jY r r) (n ?_)))
         exact ff _ _ ⟨(!fH),ag.a,et,eu,ev,ag.c,ag.f,ag.n,ag.b,ag.k,ag.m,ag.g,ag.d,none,0,ag.j,ag.i,ag.e,none,0,ag.h,none,0,f0.l,f0.a,aM.f,aM.e,aM.d,aM.g,aM.h,aM.a,aM.c,aM.b,⟨r,r,r,r,r,r,r,y⟩,(b.ad [6,5,1,7,0,2,3,4] [5,7,8,0,1,6,16,2,3,4]),sm aa⟩
        clear b
        rintro f w ⟨er,cv,c1,c2,c3,d7,d8,d9,da,db,dc,dd,bo,bp,bq,c4,c5,br,bu,bv,bw,bz,bA,bB,c6,c7,c8,bC,c9,cc,bD,bE,bF,hf,b,gj⟩
        obtain ⟨jF,rfl⟩:=iA _ _ hf
        clear hf
        subst gj
        replace c:=gi c
        replace c:=Bh (mG (mG (mG (mG (mG (mG (mG c)))))))
        rcases iv c with ⟨f1,c⟩|⟨f1,c⟩
        ·refine jN (cb f1) (g (s (mp r) ?_))
         obtain ⟨a0,aN,f2,hY,c⟩:=vD c
         have hc:=(rM fu) (b.pr [4,2,5,6,7] [0,1,3] [3,4,7,8,9] r) (b.le N) (b.le U) (b.le W) hY
         refine sc (ec Ag r) hc ?_
         rintro _ jw ⟨bR,bS,rfl,hK⟩
         replace b:=b.cn [4,2,5,6,7] [0,1,3] hK
         refine nU (jP b [[V a0.e,V a0.d,V a0.g,T a0.b,T a0.c,Z bR a0.a bS]] ([a0]:List Ge) (kS r) r r (by decide) ⟨(jB.inn ⟨bR,bS,r,(b.dl 0 r)⟩),y⟩) ?_
         rintro _ jx ⟨fI,rfl,b⟩
         refine s (qb r r) (lg (nX b 7 [V 6,V 0,V 0,T be,T be,V 0,V 0,sn,T be,V 0,.slice (ad fI) ([a0]:List Ge).length 1,sn,sn] r jQ r r) fun i5 b=>?_)
         refine n ?_
         replace b:=b.ku (d:=.l none 0 ([]:List Ge)) om
         replace b:=b.ku (d:=.l none 0 ([]:List Gs)) om
         replace b:=b.ku (d:=.l none 0 ([]:List Gs)) om
         exact fe _ _ ⟨([a0]:List Ge),(ad fI),1,[[V a0.e,V a0.d,V a0.g,T a0.b,T a0.c,Z bR a0.a bS]],6,0,0,be,be,0,0,([]:List Ge),none,0,be,0,([]:List Gs),none,0,([]:List Gs),none,0,f2.l,f2.a,aN.f,aN.e,aN.d,aN.g,aN.h,aN.a,aN.c,aN.b,⟨r,r,r,r,r,r,y⟩,(b.ad [0,7,2,8,1,3,4,5] [2,1,0,5,6,3,16,7,8,9]),sm c⟩
        replace f1:=nt f1
        refine jK (cb f1) (wk ?_)
        exact fe _ _ ⟨cv,c1,c2,c3,d7,d8,d9,da,db,dc,dd,bo,bp,bq,c4,c5,br,bu,bv,bw,bz,bA,bB,c6,c7,c8,bC,c9,cc,bD,bE,bF,⟨r,r,r,r,r,r,y⟩,b,sm c⟩
       clear b
       rintro f w ⟨b6,aS,aT,d6,bK,bL,bM,bN,bO,bP,bQ,b7,aU,aV,aW,aX,aA,av,aw,aB,ax,ay,bi,bW,bX,bY,bj,bZ,c0,bl,bm,bn,hf,b,gk⟩
       obtain ⟨jF,rfl⟩:=iA _ _ hf
       clear hf
       subst gk
       replace a:=gi a
       replace a:=pi (mG (mG (mG (mG (mG (mG (mG a)))))))
       refine g (s (nC r) (s (ng [V bK,V bL,V bM,T bN,T bO,V bP,V bQ,Z aU b7 aV,T aW,V aX,Z aS b6 aT,Z av aA aw,Z ax aB ay] lW jQ r (b.bk 1 r)) ?_))
       replace b:=b.fz 0 5 r r
       refine nU (jP b [[V bK,V bL,V bM,T bN,T bO,V bP,V bQ,Z aU b7 aV,T aW,V aX,Z aS b6 aT,Z av aA aw,Z ax aB ay]] ([(⟨bK,bL,bM,bN,bO,bP,bQ,b7,aW,aX,b6,aA,aB⟩:Gs)]:List Gs) (rF r) r r (by decide) ⟨(jD.inn ⟨aU,aV,aS,aT,av,aw,ax,ay,r,(b.dl 1 r),(b.dl 0 r),(b.dl 2 r),(b.dl 3 r)⟩),y⟩) ?_
       rintro _ i6 ⟨i7,rfl,b⟩
       obtain ⟨gl,fJ,a⟩:=bs a
       refine nU (kP b 3 7 r r Ak jQ r (by decide) (by decide) (Nat.le_refl _) r r (b.zP 0 0 r r) fJ) ?_
       rintro _ i8 ⟨gm,gn,gp,rfl,b⟩
       refine s (nk r) (n (g (s (mi r) (s (kE r r) (s (xi r) (n ?_))))))
       exact cX n1 _ _ (Nat.lt_succ_self _) ⟨(wr (Q+1)),gl,gm,gn,gp,bX,bY,bj,bZ,c0,bi,bW,bl,e,h,t,bm,j,m,u,bn,o,p,v,⟨r,r,r,r,r,y⟩,(b.ad [3,4,2,5,6,7] [6,5,7,8,9,10]),a⟩
      replace eY:=nt eY
      refine jK (cb eY) (q ?_)
      obtain ⟨gq,aq,a⟩:=bs a
      refine oq (fun f w=>∃ (de:Bool) (bG:List Int) (cd:Int),Has f [(0,Pt ah),(1,V x1),(2,V x2),(7,Z B M C),(8,V Q),(9,V cK),(214,.bool de)]∧Bx w0 w jE G [.box E 132 #[Z x bG A,V cd],O w0.heap.size B C 111 Gs D,.box ah 135 #[Pt E,V a5,V a6,Z F S H,Z e I h,Z j J m,Z o K p,V Y,V (wr (a1 - 1))],O a4 e h 9 BA t,O ab j m 9 BA u,O ac o p 9 BA v] [.l x A bG,.l F H S,.els D M,.els t I,.els u J,.els v K]∧Ld.go (de,bG,cd)=gq) (fun i9 f3=>?_) ?_
      ·unfold wE at aq
       refine g (s (mi r) (s (kD r r) (s (kL r) ?_)))
       rcases iv aq with ⟨f4,aq⟩|⟨f4,aq⟩
       ·rw [decide_eq_true f4]
        refine kg r (s (mp r) (kg r (s (xn r) (kg r (s (oO r) (kg r (s (xG r (b.bk 2 r) r) ?_)))))))
        obtain ⟨f8,ey,gr,aq⟩:=lZ aq
        refine kg r ?_
        have hc:=(jW fu) (b.pr [0] [1,2,3,4,5] [0] r)  gr
        refine sc (ec nW r) hc ?_
        rintro _ ia ⟨rfl,hK⟩
        replace b:=b.cn [0] [1,2,3,4,5] hK
        refine kg r (s (kD r r) (s (kr r r) (s (kC r) (n ?_))))
        exact f3 _ _ ⟨(decide (f8=0)),ey.l,ey.a,⟨r,r,r,r,r,r,r,y⟩,(b.dp [0,2,3,4,5,6]),sm aq⟩
       rw [decide_eq_false f4]
       refine jC r (jC r (jC r (jC r (jC r (jC r (s (jY r r) (s (kC r) (n ?_))))))))
       exact f3 _ _ ⟨false,cu,d5,⟨r,r,r,r,r,r,r,y⟩,b,sm aq⟩
      clear b
      rintro f w ⟨de,bG,cd,hf,b,fK⟩
      obtain ⟨jF,rfl⟩:=iA _ _ hf
      clear hf
      subst fK
      replace a:=gi a
      replace a:=Bh a
      rcases iv a with ⟨dh,a⟩|⟨dh,a⟩
      ·refine jN (cb dh) (g (s (nC r) (s (mp r) ?_)))
       obtain ⟨aj,am,ez,gt,a⟩:=vD a
       have hc:=(rM fu) (b.pr [2,0,3,4,5] [1] [0,1,3,4,5] r) (b.le N) (b.le U) (b.le W) gt
       refine sc (ec Ag r) hc ?_
       rintro _ ib ⟨cw,cx,rfl,hK⟩
       replace b:=b.cn [2,0,3,4,5] [1] hK
       refine nU (jP b [[V aj.e,V aj.d,V aj.g,T aj.b,T aj.c,Z cw aj.a cx]] ([aj]:List Ge) (kS r) r r (by decide) ⟨(jB.inn ⟨cw,cx,r,(b.dl 0 r)⟩),y⟩) ?_
       rintro _ ic ⟨fg,rfl,b⟩
       refine s (qb r r) ?_
       replace b:=b.fz 0 0 r r
       refine nU (jP b [[V 7,V 0,V 0,T be,T be,V 0,V 0,sn,T be,V 0,.slice (ad fg) ([aj]:List Ge).length 1,sn,sn]] ([(⟨7,0,0,be,be,0,0,([]:List Ge),be,0,([aj]:List Ge),([]:List Gs),([]:List Gs)⟩:Gs)]:List Gs) (rF r) r r (by decide) ⟨(jD.inn ⟨none,0,(ad fg),1,none,0,none,0,r,om,(b.dl 0 r),om,om⟩),y⟩) ?_
       rintro _ ie ⟨ig,rfl,b⟩
       obtain ⟨gu,fL,a⟩:=bs a
       refine nU (kP b 6 10 r r Ak jQ r (by decide) (by decide) (Nat.le_refl _) r r (b.zP 0 0 r r) fL) ?_
       rintro _ ih ⟨gv,gw,gx,rfl,b⟩
       refine s (nk r) (n (g (s (mi r) (s (kE r r) (s (xi r) (n ?_))))))
       exact cX n1 _ _ (Nat.lt_succ_self _) ⟨(wr (Q+1)),gu,gv,gw,gx,am.f,am.e,am.d,am.g,am.h,ez.l,ez.a,am.a,e,h,t,am.c,j,m,u,am.b,o,p,v,⟨r,r,r,r,r,y⟩,(b.ad [6,1,2,3,4,5] [4,3,10,5,6,7]),a⟩
      replace dh:=nt dh
      refine jK (cb dh) (q ?_)
      obtain ⟨gy,a9,a⟩:=bs a
      refine oq (fun f w=>∃ (df:Bool) (ce:List Int) (dg:Int),Has f [(0,Pt ah),(1,V x1),(2,V x2),(7,Z B M C),(8,V Q),(232,.bool df)]∧Bx w0 w jE G [.box E 132 #[Z x ce A,V dg],O w0.heap.size B C 111 Gs D,.box ah 135 #[Pt E,V a5,V a6,Z F S H,Z e I h,Z j J m,Z o K p,V Y,V (wr (a1 - 1))],O a4 e h 9 BA t,O ab j m 9 BA u,O ac o p 9 BA v] [.l x A ce,.l F H S,.els D M,.els t I,.els u J,.els v K]∧Ld.go (df,ce,dg)=gy) (fun ii ew=>?_) ?_
      ·unfold vL at a9
       refine g (s (mi r) (s (kD r r) (s (kL r) ?_)))
       rcases iv a9 with ⟨f5,a9⟩|⟨f5,a9⟩
       ·rw [decide_eq_true f5]
        refine kg r (s (mp r) (kg r (s (xn r) (kg r (s (oO r) (kg r (s (xG r (b.bk 2 r) r) ?_)))))))
        obtain ⟨gL,cg,gz,a9⟩:=lZ a9
        refine kg r ?_
        have hc:=(jW fu) (b.pr [0] [1,2,3,4,5] [0] r)  gz
        refine sc (ec nW r) hc ?_
        rintro _ ij ⟨rfl,hK⟩
        replace b:=b.cn [0] [1,2,3,4,5] hK
        refine kg r (s (kD r r) (s (kr r r) (s (kL r) ?_)))
        rcases iv a9 with ⟨f6,a9⟩|⟨f6,a9⟩
        ·rw [decide_eq_true f6]
         refine kg r (s (mi r) (kg r (s (qo r r) (s (kr r r) (s (kC r) (n ?_))))))
         exact ew _ _ ⟨(decide (x1 < 4)),cg.l,cg.a,⟨r,r,r,r,r,r,y⟩,(b.dp [0,2,3,4,5,6]),sm a9⟩
        rw [decide_eq_false f6]
        refine jC r (jC r (s (jY r r) (s (kC r) (n ?_))))
        exact ew _ _ ⟨false,cg.l,cg.a,⟨r,r,r,r,r,r,y⟩,(b.dp [0,2,3,4,5,6]),sm a9⟩
       rw [decide_eq_false f5]
       refine jC r (jC r (jC r (jC r (jC r (jC r (s (jY r r) (s (kL r) (jC r (jC r (s (jY r r) (s (kC r) (n ?_))))))))))))
       exact ew _ _ ⟨false,bG,cd,⟨r,r,r,r,r,r,y⟩,b,sm a9⟩
      clear b
      rintro f w ⟨df,ce,dg,hf,b,fM⟩
      obtain ⟨jF,rfl⟩:=iA _ _ hf
      clear hf
      subst fM
      replace a:=gi a
      replace a:=Bh a
      rcases iv a with ⟨di,a⟩|⟨di,a⟩
      ·refine jN (cb di) (g (s (nC r) (s (mp r) ?_)))
       obtain ⟨ak,gM,gN,gA,a⟩:=vD a
       have hc:=(rM fu) (b.pr [2,0,3,4,5] [1] [0,1,3,4,5] r) (b.le N) (b.le U) (b.le W) gA
       refine sc (ec Ag r) hc ?_
       rintro _ ik ⟨cy,cz,rfl,hK⟩
       replace b:=b.cn [2,0,3,4,5] [1] hK
       refine nU (jP b [[V ak.e,V ak.d,V ak.g,T ak.b,T ak.c,Z cy ak.a cz]] ([ak]:List Ge) (kS r) r r (by decide) ⟨(jB.inn ⟨cy,cz,r,(b.dl 0 r)⟩),y⟩) ?_
       rintro _ il ⟨fh,rfl,b⟩
       refine s (mp r) (s (mi r) (s (kE r r) ?_))
       obtain ⟨eA,an,eB,gB,a⟩:=vD a
       have hc:=H_kit_body (b.pr [1,2,3,4,5] [0,6] [2,3,4,5,6] r) (b.le N) (b.le U) (b.le W) gB
       refine sc (ec HY r) hc ?_
       rintro _ im ⟨cA,cB,fN,dj,dk,dm,dn,dq,dr,dt,du,dv,rfl,hK⟩
       have ch:=b.rD.size
       replace b:=b.cn [1,2,3,4,5] [0,6] hK
       replace b:=b.rb 0 w0.heap.size r ch
       refine s (GZ r r r) ?_
       replace b:=b.fz 6 6 r r
       replace b:=b.fz 0 1 r r
       refine nU (jP b [[V 5,V 0,V 0,T be,T be,V 0,V 0,sn,T be,V 0,.slice (ad fh) ([ak]:List Ge).length 1,Z cA eA cB,sn]] ([(⟨5,0,0,be,be,0,0,([]:List Ge),be,0,([ak]:List Ge),eA,([]:List Gs)⟩:Gs)]:List Gs) (rF r) r r (by decide) ⟨(jD.inn ⟨none,0,(ad fh),1,cA,cB,none,0,r,om,(b.dl 1 r),(b.dl 0 r),om⟩),y⟩) ?_
       rintro _ io ⟨ip,rfl,b⟩
       obtain ⟨gC,fO,a⟩:=bs a
       refine nU (kP b 6 16 r r Ak jQ r (by decide) (by decide) (Nat.le_refl _) r r (b.zP 0 0 r r) fO) ?_
       rintro _ iq ⟨gD,gE,gF,rfl,b⟩
       refine s (nk r) (n (g (s (mi r) (s (kE r r) (s (xi r) (n ?_))))))
       exact cX n1 _ _ (Nat.lt_succ_self _) ⟨(wr (Q+1)),gC,gD,gE,gF,an.f,an.e,an.d,an.g,an.h,eB.l,eB.a,an.a,dj,dk,dm,an.c,dn,dq,dr,an.b,dt,du,dv,⟨r,r,r,r,r,y⟩,(b.ad [6,1,2,3,4,5] [4,3,16,5,6,7]),a⟩
      replace di:=nt di
      refine jK (cb di) (g (s (nC r) (s (mp r) ?_)))
      obtain ⟨X,ao,eC,gG,a⟩:=vD a
      have hc:=(GV fu) (b.pr [2,0,3,4,5] [1] [0,1,3,4,5] r) (b.le N) (b.le U) (b.le W) gG
      refine sc (ec Yf r) hc ?_
      rintro _ ir ⟨cC,cD,cE,cF,cG,cH,cI,cJ,rfl,hK⟩
      replace b:=b.cn [2,0,3,4,5] [1] hK
      refine nU (jP b [[V X.c,V X.f,V X.n,T X.b,T X.k,V X.m,V X.g,Z cC X.d cD,T X.j,V X.i,Z cE X.a cF,Z cG X.e cH,Z cI X.h cJ]] ([X]:List Gs) (rF r) r r (by decide) ⟨(jD.inn ⟨cC,cD,cE,cF,cG,cH,cI,cJ,r,(b.dl 0 r),(b.dl 1 r),(b.dl 2 r),(b.dl 3 r)⟩),y⟩) ?_
      rintro _ it ⟨iu,rfl,b⟩
      obtain ⟨gH,fP,a⟩:=bs a
      refine nU (kP b 6 12 r r Ak jQ r (by decide) (by decide) (Nat.le_refl _) r r (b.zP 0 0 r r) fP) ?_
      rintro _ iw ⟨gI,gJ,gK,rfl,b⟩
      refine s (nk r) (n (g (s (mi r) (s (kE r r) (s (xi r) (n ?_))))))
      exact cX n1 _ _ (Nat.lt_succ_self _) ⟨(wr (Q+1)),gH,gI,gJ,gK,ao.f,ao.e,ao.d,ao.g,ao.h,eC.l,eC.a,ao.a,e,h,t,ao.c,j,m,u,ao.b,o,p,v,⟨r,r,r,r,r,y⟩,(b.ad [6,1,2,3,4,5] [6,5,12,7,8,9]),a⟩
     replace h6:=nt h6
     refine jK (cb h6) (tT ?_)
     exact fi _ _ ⟨Q,M,B,C,D,a5,a6,S,Y,a1,aC,aY,I,e,h,t,J,j,m,u,K,o,p,v,⟨r,y⟩,(b.ad [1,2,0,3,4,5] [1,2,3,4,5,6]),sm a⟩
    rw [decide_eq_false h4]
    refine jC r (jC r (jC r (jC r (jC r (s (jY r r) (n (jK r (tT ?_))))))))
    exact fi _ _ ⟨Q,M,B,C,D,a5,a6,S,Y,a1,aC,aY,I,e,h,t,J,j,m,u,K,o,p,v,⟨r,y⟩,b,sm a⟩
   rw [decide_eq_false h3]
   refine jC r (jC r (jC r (jC r (jC r (s (jY r r) (s (kL r) (jC r (jC r (jC r (jC r (jC r (s (jY r r) (n ?_)))))))))))))
   refine jK r (tT ?_)
   exact fi _ _ ⟨Q,M,B,C,D,a5,a6,S,Y,a1,aC,aY,I,e,h,t,J,j,m,u,K,o,p,v,⟨r,y⟩,b,sm a⟩
 clear b
 rintro f w ⟨Q,M,B,C,D,a5,a6,S,Y,a1,aC,aY,I,e,h,t,J,j,m,u,K,o,p,v,hf,b,hZ⟩
 obtain ⟨jF,rfl⟩:=iA _ _ hf
 clear hf
 subst hZ
 replace hM:=gi hM
 replace hM:=Bh (mG (mG (mG hM)))
 refine q (g (s (nC r) (s (nk r) (n (kT ?_)))))
 obtain rfl:=sm hM
 refine jI r (lq r) ?_
 exact mM (mM (⟨B,C,D,e,h,t,j,m,u,o,p,v,r,(b.dp [2,1,0,3,4,5])⟩))
theorem JI (fu:Nat):yM (mg fu)∧yO (mD fu)∧uO (kZ fu):=by
 induction fu with
 | zero=>exact ⟨by intro a b;intros;exact nn (by assumption),by intro a b;intros;exact nn (by assumption),by intro a b;intros;exact nn (by assumption)⟩
 | succ fu ih=>exact ⟨Kk fu (kZ fu) (mg fu) (mD fu) ih.2.2 ih.1 ih.2.1,LB fu (kZ fu) (mg fu) (mD fu) ih.2.2 ih.1 ih.2.1,Jq fu (kZ fu) (mg fu) (mD fu) ih.2.2 ih.1 ih.2.1⟩
theorem JK (fu:Nat):uO (kZ fu):=(JI fu).2.2
def Fx (m:(List Int)→Option (jR)):Prop:=∀ {i:World} {k:Nat→Prop} {j:(List Int)} {a:Option Addr} {b:Nat} {h:jR},Pre i k [] [.l a b j]→m j=some h→
 Calls Try.prog 43 #[Z a j b] i (qW fun v w=>∃ (c:OA)(d:Nat)(e:OA)(f:Nat),v=.agg #[Z c h.a d,Z e h.b f]∧Bx i w k (lT []) [] [.l c d h.a,.l e f h.b])
def uL (fu:Nat)(a:Int):Option (Ld (Int) (jR)):=
 if 0 < a then
  some (.go 6)
 else
  some (.go 10)
def uS (fu:Nat)(a:(List Gs)) (b:Gm) (c:jM):Option (Ld (List Gs × List Int × Int) (jR)):=
 if 0 < (b.a.length:Int) then
  (kF fu c 3).bind fun m=>
  jy m fun f d=>
  if 0 < f then
   (kF fu d (b.a.length:Int)).bind fun m=>
   jy m fun h e=>
   (ix b.a h).bind fun j=>
   (nQ fu j).bind fun i=>
   (app a ([(⟨6,0,0,be,be,0,0,([]:List Ge),be,0,([i]:List Ge),([]:List Gs),([]:List Gs)⟩:Gs)]:List Gs)).bind fun k=>
   some (.go (k,e.l,e.a))
  else
   some (.go (a,d.l,d.a))
 else
  some (.go (a,c.l,c.a))
def qE (fu:Nat)(d:Int)(e:Int)(b:Int)(c:Int):Nat→Int→(List Gn)→(List Int)→Int→Option (Ld (Int × List Gn × List Int × Int) (jR))
 | 0,_,_,_,_=>none
 | w+1,a,f,h,i=>
 if a < (wr (1+d)) then
  (ix ([2,e,b,c]:List Int) a).bind fun x=>
  (ix ([(⟨#[102]⟩:BA),(⟨#[103]⟩:BA),(⟨#[104]⟩:BA),(⟨#[107]⟩:BA)]:List BA) a).bind fun z=>
  (sl ([(⟨#[97]⟩:BA),(⟨#[98]⟩:BA),(⟨#[99]⟩:BA),(⟨#[100]⟩:BA)]:List BA) 0 x).bind fun v=>
  (app ([]:List BA) v).bind fun A=>
  (uL fu a).bind fun D=>D.el (fun j=>
  (kZ fu (⟨a,(wr (1+d)),([2,e,b,c]:List Int),A,([]:List BA),([]:List BA),0,22⟩:Gm) (⟨h,i⟩:jM) 1 j).bind fun D=>
  jy D fun k D=>jy D fun l m=>
  (uS fu k l m).bind fun D=>D.el (fun D=>
  jy D fun p D=>jy D fun t u=>
  (app p ([(⟨10,0,0,be,be,0,0,([]:List Ge),be,0,([]:List Ge),([]:List Gs),([]:List Gs)⟩:Gs)]:List Gs)).bind fun B=>
  (app f ([(⟨z,0,v,B⟩:Gn)]:List Gn)).bind fun C=>
  qE fu d e b c w (wr (a+1)) C t u
  ) (fun o=>some (.out o))
  ) (fun o=>some (.out o))
 else
  some (.go (a,f,h,i))
def vk (fu:Nat)(t:(List Int)):Option (jR):=
 (kF fu (⟨t,0⟩:jM) 4).bind fun u=>
 jy u fun f h=>
 (kF fu h 3).bind fun u=>
 jy u fun i j=>
 (kF fu j 4).bind fun u=>
 jy u fun b c=>
 (kF fu c 5).bind fun u=>
 jy u fun d a=>
 (qE fu f i b d fu 0 ([]:List Gn) a.l a.a).bind fun u=>u.el (fun u=>
 jy u fun k u=>jy u fun e u=>jy u fun m p=>
 some (⟨([(⟨(⟨#[80]⟩:BA),([(⟨#[120]⟩:BA),(⟨#[121]⟩:BA)]:List BA)⟩:Gr)]:List Gr),e⟩:jR)
 ) (fun o=>some o)
theorem E9 (fu:Nat):Fx (vk fu):=by
 intro w0 dA x0 D E r0 hP R
 unfold vk at R
 have a:=hP.bx
 clear hP
 generalize hG:lT _=G at a ⊢
 refine cf Try.func43 r ?_
 refine lK [(0,Z D x0 E)] ⟨r,y⟩ fun dB=>?_
 refine q (g (tu a (jV tX) fun w1 b1 a=>?_))
 refine n (q (g (s (nC r) (s (Si r) (tu a (y5 r) fun w2 b2 a=>?_)))))
 refine s (MX r) (n (q (g (nU (jP a [[T (⟨#[120]⟩:BA)],[T (⟨#[121]⟩:BA)]] ([(⟨#[120]⟩:BA),(⟨#[121]⟩:BA)]:List BA) (vC r r) r r (by decide) ⟨r,⟨r,y⟩⟩) ?_))))
 rintro _ w3 ⟨b3,rfl,a⟩
 refine s (Oy r r) ?_
 replace a:=a.fz 0 0 r r
 refine nU (jP a [[T (⟨#[80]⟩:BA),.slice (ad b3) ([(⟨#[120]⟩:BA),(⟨#[121]⟩:BA)]:List BA).length 2]] ([(⟨(⟨#[80]⟩:BA),([(⟨#[120]⟩:BA),(⟨#[121]⟩:BA)]:List BA)⟩:Gr)]:List Gr) (KX r) r r (by decide) ⟨(kV.inn ⟨(ad b3),2,r,(a.dl 0 r)⟩),y⟩) ?_
 rintro _ w5 ⟨b5,rfl,a⟩
 refine s (Uu r) (tu a (jV tX) fun w6 b6 a=>?_)
 refine lg (nX a 0 [.slice (ad b5) ([(⟨(⟨#[80]⟩:BA),([(⟨#[120]⟩:BA),(⟨#[121]⟩:BA)]:List BA)⟩:Gr)]:List Gr).length 1,sn] r tX r r) fun w7 a=>?_
 refine n (q (g (s (mp r) ?_)))
 obtain ⟨S,bY,h8,R⟩:=lZ R
 have hc:=(jW fu) (a.pr [2] [0,1,3] [2] r)  h8
 refine sc (ec nW r) hc ?_
 rintro _ w8 ⟨rfl,hK⟩
 replace a:=a.cn [2] [0,1,3] hK
 refine s (kE r r) (s (xi r) (n (q (g (s (mp r) ?_)))))
 obtain ⟨F,bZ,h9,R⟩:=lZ R
 have hc:=(jW fu) (a.pr [0] [1,2,3] [0] r)  h9
 refine sc (ec nW r) hc ?_
 rintro _ w9 ⟨rfl,hK⟩
 replace a:=a.cn [0] [1,2,3] hK
 refine s (mp r) ?_
 obtain ⟨v,bw,bz,R⟩:=lZ R
 have hc:=(jW fu) (a.pr [0] [1,2,3] [0] r)  bz
 refine sc (ec nW r) hc ?_
 rintro _ c4 ⟨rfl,hK⟩
 replace a:=a.cn [0] [1,2,3] hK
 refine s (mp r) ?_
 obtain ⟨x,an,bA,R⟩:=lZ R
 have hc:=(jW fu) (a.pr [0] [1,2,3] [0] r)  bA
 refine sc (ec nW r) hc ?_
 rintro _ c5 ⟨rfl,hK⟩
 replace a:=a.cn [0] [1,2,3] hK
 refine nU (jP a [[V 2],[V F],[V v],[V x]] ([2,F,v,x]:List Int) (PX r r r r) r r (by decide) ⟨r,⟨r,⟨r,⟨r,y⟩⟩⟩⟩) ?_
 rintro _ c6 ⟨W,rfl,a⟩
 refine s (nk r) (n (q (q (g (s (xi r) (n ?_))))))
 replace a:=a.fz 0 0 r r
 replace a:=a.Ca Gn 82
 obtain ⟨bb,c,R⟩:=bs R
 refine oq (fun f w=>∃ (A:Int)(p:List Gn) (e:OA)(j:Nat)(t:LV)(B:List Int) (H:Int),Has f [(2,Pt b1),(4,Pt b6)]∧Bx w0 w dA G [O w0.heap.size e j 82 Gn t,.box b2 132 #[Z D B E,V H],.box b6 26 #[.slice (ad b5) ([(⟨(⟨#[80]⟩:BA),([(⟨#[120]⟩:BA),(⟨#[121]⟩:BA)]:List BA)⟩:Gr)]:List Gr).length 1,Z e p j],O w0.heap.size (ad b5) 1 127 Gr [[T (⟨#[80]⟩:BA),.slice (ad b3) ([(⟨#[120]⟩:BA),(⟨#[121]⟩:BA)]:List BA).length 2]],.box b1 26 #[sn,sn]] [.l D E B,.els t p,.l (ad W) 4 ([2,F,v,x]:List Int),.els [[T (⟨#[80]⟩:BA),.slice (ad b3) ([(⟨#[120]⟩:BA),(⟨#[121]⟩:BA)]:List BA).length 2]] ([(⟨(⟨#[80]⟩:BA),([(⟨#[120]⟩:BA),(⟨#[121]⟩:BA)]:List BA)⟩:Gr)]:List Gr)]∧Ld.go (A,p,B,H)=bb) (fun c7 bc=>?_) ?_
 ·refine oM (kM (fun dC f w=>∃ (A:Int)(p:List Gn) (e:OA)(j:Nat)(t:LV)(B:List Int) (H:Int),Has f [(2,Pt b1),(3,Pt b2),(4,Pt b6),(5,V (wr (1+S))),(6,.slice (ad W) ([2,F,v,x]:List Int).length 4),(7,V A)]∧Bx w0 w dA G [O w0.heap.size e j 82 Gn t,.box b2 132 #[Z D B E,V H],.box b6 26 #[.slice (ad b5) ([(⟨(⟨#[80]⟩:BA),([(⟨#[120]⟩:BA),(⟨#[121]⟩:BA)]:List BA)⟩:Gr)]:List Gr).length 1,Z e p j],O w0.heap.size (ad b5) 1 127 Gr [[T (⟨#[80]⟩:BA),.slice (ad b3) ([(⟨#[120]⟩:BA),(⟨#[121]⟩:BA)]:List BA).length 2]],.box b1 26 #[sn,sn]] [.l D E B,.els t p,.l (ad W) 4 ([2,F,v,x]:List Int),.els [[T (⟨#[80]⟩:BA),.slice (ad b3) ([(⟨#[120]⟩:BA),(⟨#[121]⟩:BA)]:List BA).length 2]] ([(⟨(⟨#[80]⟩:BA),([(⟨#[120]⟩:BA),(⟨#[121]⟩:BA)]:List BA)⟩:Gr)]:List Gr)]∧qE fu S F v x dC A p B H=some bb) fu ⟨0,([]:List Gn),none,0,[],an.l,an.a,⟨r,r,r,r,r,r,y⟩,(a.dp [2,0,1,6]),c⟩ ?_)
  clear a c
  rintro aL f w ⟨A,p,e,j,t,B,H,hf,a,c⟩ c8 bd
  obtain ⟨dB,rfl⟩:=iA _ _ hf
  clear hf
  cases aL with
  | zero=>exact nn c
  | succ aL=>
   rw [qE] at c
   refine q (q (g (s (mi r) (s (mi r) (s (qo r r) (n ?_))))))
   rcases iv c with ⟨aM,c⟩|⟨aM,c⟩
   ·refine jN (bt aM) (wk (q (oM (q (g (s (mp r) (s (mi r) (s (mi r) (s (nC r) (s (Er r r r r r) (tu a (y5 r) fun c9 aG a=>?_)))))))))))
    refine s (MX r) (n (q ?_))
    obtain ⟨bB,aj,c⟩:=bs c
    obtain ⟨cc,bg,aj⟩:=kJ aj
    obtain ⟨m,C,c⟩:=bs c
    obtain ⟨cd,af,C⟩:=kJ C
    obtain ⟨o,bh,c⟩:=bs c
    obtain ⟨bC,a1,c0,Q,bD,L,ao⟩:=Bf bh
    obtain rfl:bC=0:=by omega
    have J:o.length=a1:=by rw [← ao,List.length_take,List.length_drop];omega
    refine oq (fun f w=>∃ (a6:Nat)(I:Nat),Has f [(2,Pt b1),(3,Pt b2),(4,Pt b6),(5,V (wr (1+S))),(6,.slice (ad W) ([2,F,v,x]:List Int).length 4),(7,V A),(8,Pt aG),(9,Pt a6)]∧Bx w0 w dA G [.box aG 135 #[Pt b2,V A,V (wr (1+S)),.slice (ad W) ([2,F,v,x]:List Int).length 4,sn,sn,sn,V 0,V 22],O w0.heap.size e j 82 Gn t,.box b2 132 #[Z D B E,V H],.box b6 26 #[.slice (ad b5) ([(⟨(⟨#[80]⟩:BA),([(⟨#[120]⟩:BA),(⟨#[121]⟩:BA)]:List BA)⟩:Gr)]:List Gr).length 1,Z e p j],O w0.heap.size (ad b5) 1 127 Gr [[T (⟨#[80]⟩:BA),.slice (ad b3) ([(⟨#[120]⟩:BA),(⟨#[121]⟩:BA)]:List BA).length 2]],.box b1 26 #[sn,sn],O w0.heap.size (ad I) 4 9 BA [[T (⟨#[97]⟩:BA)],[T (⟨#[98]⟩:BA)],[T (⟨#[99]⟩:BA)],[T (⟨#[100]⟩:BA)]],.box a6 82 #[T m,V 0,.slice (ad I) o.length 4,sn]] [.l D E B,.els t p,.l (ad W) 4 ([2,F,v,x]:List Int),.els [[T (⟨#[80]⟩:BA),.slice (ad b3) ([(⟨#[120]⟩:BA),(⟨#[121]⟩:BA)]:List BA).length 2]] ([(⟨(⟨#[80]⟩:BA),([(⟨#[120]⟩:BA),(⟨#[121]⟩:BA)]:List BA)⟩:Gr)]:List Gr),.els [[T (⟨#[97]⟩:BA)],[T (⟨#[98]⟩:BA)],[T (⟨#[99]⟩:BA)],[T (⟨#[100]⟩:BA)]] ([(⟨#[97]⟩:BA),(⟨#[98]⟩:BA),(⟨#[99]⟩:BA),(⟨#[100]⟩:BA)]:List BA)]) (fun Jd hJd=>?_) ?_
    ·refine pX a [] [2] [] (by kernel_rfl) ?_
     replace a:=a.drew
     have b:=(a.ad [] [2])
     refine pF 1 r (mi r) b (pF 5 r (nC r) b (pF 6 r (mi r) b (pF 7 r (kW ug nO r r bg (a.dl 2 r) aj) b (tU 8 r (fun _ hS=>jT EC r r ((uy (ds:=[V bB]) (hS.dl 0 r) aj (fun _ h=>h)) 0 _ r)) (sF b) ?_))))
     refine mH 0 [4,11] (by kernel_rfl) (jL ?_ (jL ?_ (jL ?_ lH)))
     ·refine oo r r (jP a [[T (⟨#[102]⟩:BA)],[T (⟨#[103]⟩:BA)],[T (⟨#[104]⟩:BA)],[T (⟨#[107]⟩:BA)]] ([(⟨#[102]⟩:BA),(⟨#[103]⟩:BA),(⟨#[104]⟩:BA),(⟨#[107]⟩:BA)]:List BA) (qH r r r r) r r (by decide) ⟨r,⟨r,⟨r,⟨r,y⟩⟩⟩⟩) ?_
      rintro _ ce ⟨cg,rfl,a⟩
      have b:=(a.ad [] [3])
      refine ⟨(sF b),?_⟩
      refine pF 2 r (kW kQ oQ r r af (a.vw 0 0 r r) C) b ?_
      refine mH 3 [4,11] (by kernel_rfl) (jL ?_ (jL ?_ (jL ?_ lH)))
      ·have b:=(a.ad [] [3])
       refine uH r r (jT uq r r ((uy (ds:=[T m]) (a.vw 0 0 r r) C (fun _ h=>h)) 0 _ r)) (sF b) ?_
       refine mH 4 [11] (by kernel_rfl) (jL ?_ (jL ?_ lH))
       ·refine oo r r (jP a [[T (⟨#[97]⟩:BA)],[T (⟨#[98]⟩:BA)],[T (⟨#[99]⟩:BA)],[T (⟨#[100]⟩:BA)]] ([(⟨#[97]⟩:BA),(⟨#[98]⟩:BA),(⟨#[99]⟩:BA),(⟨#[100]⟩:BA)]:List BA) (qH r r r r) r r (by decide) ⟨r,⟨r,⟨r,⟨r,y⟩⟩⟩⟩) ?_
        rintro _ ch ⟨I,rfl,a⟩
        have b:=(a.ad [] [4])
        refine ⟨(sF b),?_⟩
        refine tP 9 r (fun _=>show Yl _ _ _ _ _ _ _ _ _ (.slice (some ⟨I,0,none⟩) o.length 4) from (congrArg (fun z=>Value.slice (some ⟨I,0,none⟩) z 4) J).symm ▸ yQ a1 kQ oQ r r Q (Nat.le_trans L ((a.vw 0 0 r r)).cap)) (sF b) (pF 10 r (sW r r) b ?_)
        refine hO 11 (oo r r (nM a (jV nY)) ?_)
        rintro _ ci ⟨a6,rfl,a⟩
        have b:=(a.ad [] [4])
        refine ⟨(sF b),?_⟩
        refine hO 12 (os r r (nX a 0 [T m,V 0,.slice (ad I) o.length 4,sn] r nY r r) fun cj a=>?_)
        have b:=(a.ad [] [4])
        refine ⟨(sF b),?_⟩
        refine hD ?_
        exact hJd _ _ ⟨a6,I,⟨r,r,r,r,r,r,r,r,y⟩,(a.ad [3,4,5,6,7,8,1,0] [2,3,4,5,0])⟩
       refine oo r r (nM a (jV nY)) ?_
       rintro _ ck ⟨bE,rfl,a⟩
       have b:=(a.ad [] [3])
       refine ⟨(sF b),?_⟩
       refine hO 4 (oo r r (jP a [[T (⟨#[97]⟩:BA)],[T (⟨#[98]⟩:BA)],[T (⟨#[99]⟩:BA)],[T (⟨#[100]⟩:BA)]] ([(⟨#[97]⟩:BA),(⟨#[98]⟩:BA),(⟨#[99]⟩:BA),(⟨#[100]⟩:BA)]:List BA) (qH r r r r) r r (by decide) ⟨r,⟨r,⟨r,⟨r,y⟩⟩⟩⟩) ?_)
       rintro _ cm ⟨ap,rfl,a⟩
       have b:=(a.ad [] [4])
       refine ⟨(sF b),?_⟩
       refine tP 9 r (fun _=>show Yl _ _ _ _ _ _ _ _ _ (.slice (some ⟨ap,0,none⟩) o.length 4) from (congrArg (fun z=>Value.slice (some ⟨ap,0,none⟩) z 4) J).symm ▸ yQ a1 kQ oQ r r Q (Nat.le_trans L ((a.vw 0 0 r r)).cap)) (sF b) (pF 10 r (sW r r) b ?_)
       refine hO 12 (os r r (nX a 1 [T m,V 0,.slice (ad ap) o.length 4,sn] r nY r r) fun cn a=>?_)
       have b:=(a.ad [] [4])
       refine ⟨(sF b),?_⟩
       refine hD ?_
       exact hJd _ _ ⟨bE,ap,⟨r,r,r,r,r,r,r,r,y⟩,(a.ad [3,4,5,6,7,8,0,1] [2,3,4,5,0])⟩
      ·refine oo r r (jP a [[T (⟨#[97]⟩:BA)],[T (⟨#[98]⟩:BA)],[T (⟨#[99]⟩:BA)],[T (⟨#[100]⟩:BA)]] ([(⟨#[97]⟩:BA),(⟨#[98]⟩:BA),(⟨#[99]⟩:BA),(⟨#[100]⟩:BA)]:List BA) (qH r r r r) r r (by decide) ⟨r,⟨r,⟨r,⟨r,y⟩⟩⟩⟩) ?_
       rintro _ co ⟨ag,rfl,a⟩
       have b:=(a.ad [] [4])
       refine ⟨(sF b),?_⟩
       refine tP 9 r (fun _=>show Yl _ _ _ _ _ _ _ _ _ (.slice (some ⟨ag,0,none⟩) o.length 4) from (congrArg (fun z=>Value.slice (some ⟨ag,0,none⟩) z 4) J).symm ▸ yQ a1 kQ oQ r r Q (Nat.le_trans L ((a.vw 0 0 r r)).cap)) (sF b) ?_
       refine mH 3 [11] (by kernel_rfl) (jL ?_ (jL ?_ lH))
       ·have b:=(a.ad [] [4])
        refine uH r r (jT uq r r ((uy (ds:=[T m]) (a.vw 1 1 r r) C (fun _ h=>h)) 0 _ r)) (sF b) (pF 10 r (sW r r) b ?_)
        refine hO 11 (oo r r (nM a (jV nY)) ?_)
        rintro _ cp ⟨bF,rfl,a⟩
        have b:=(a.ad [] [4])
        refine ⟨(sF b),?_⟩
        refine hO 12 (os r r (nX a 0 [T m,V 0,.slice (ad ag) o.length 4,sn] r nY r r) fun cq a=>?_)
        have b:=(a.ad [] [4])
        refine ⟨(sF b),?_⟩
        refine hD ?_
        exact hJd _ _ ⟨bF,ag,⟨r,r,r,r,r,r,r,r,y⟩,(a.ad [3,4,5,6,7,8,1,0] [2,3,4,5,0])⟩
       refine oo r r (nM a (jV nY)) ?_
       rintro _ cr ⟨bG,rfl,a⟩
       have b:=(a.ad [] [4])
       refine ⟨(sF b),?_⟩
       refine hO 3 (uH r r (jT uq r r ((uy (ds:=[T m]) (a.vw 2 1 r r) C (fun _ h=>h)) 0 _ r)) (sF b) ?_)
       refine pF 10 r (sW r r) b ?_
       refine hO 12 (os r r (nX a 0 [T m,V 0,.slice (ad ag) o.length 4,sn] r nY r r) fun ct a=>?_)
       have b:=(a.ad [] [4])
       refine ⟨(sF b),?_⟩
       refine hD ?_
       exact hJd _ _ ⟨bG,ag,⟨r,r,r,r,r,r,r,r,y⟩,(a.ad [3,4,5,6,7,8,1,0] [2,3,4,5,0])⟩
      refine oo r r (nM a (jV nY)) ?_
      rintro _ cu ⟨bi,rfl,a⟩
      have b:=(a.ad [] [3])
      refine ⟨(sF b),?_⟩
      refine mH 3 [4] (by kernel_rfl) (jL ?_ (jL ?_ lH))
      ·have b:=(a.ad [] [3])
       refine uH r r (jT uq r r ((uy (ds:=[T m]) (a.vw 1 0 r r) C (fun _ h=>h)) 0 _ r)) (sF b) ?_
       refine hO 4 (oo r r (jP a [[T (⟨#[97]⟩:BA)],[T (⟨#[98]⟩:BA)],[T (⟨#[99]⟩:BA)],[T (⟨#[100]⟩:BA)]] ([(⟨#[97]⟩:BA),(⟨#[98]⟩:BA),(⟨#[99]⟩:BA),(⟨#[100]⟩:BA)]:List BA) (qH r r r r) r r (by decide) ⟨r,⟨r,⟨r,⟨r,y⟩⟩⟩⟩) ?_)
       rintro _ cv ⟨aq,rfl,a⟩
       have b:=(a.ad [] [4])
       refine ⟨(sF b),?_⟩
       refine tP 9 r (fun _=>show Yl _ _ _ _ _ _ _ _ _ (.slice (some ⟨aq,0,none⟩) o.length 4) from (congrArg (fun z=>Value.slice (some ⟨aq,0,none⟩) z 4) J).symm ▸ yQ a1 kQ oQ r r Q (Nat.le_trans L ((a.vw 0 0 r r)).cap)) (sF b) (pF 10 r (sW r r) b ?_)
       refine hO 12 (os r r (nX a 1 [T m,V 0,.slice (ad aq) o.length 4,sn] r nY r r) fun cw a=>?_)
       have b:=(a.ad [] [4])
       refine ⟨(sF b),?_⟩
       refine hD ?_
       exact hJd _ _ ⟨bi,aq,⟨r,r,r,r,r,r,r,r,y⟩,(a.ad [3,4,5,6,7,8,0,1] [2,3,4,5,0])⟩
      refine oo r r (jP a [[T (⟨#[97]⟩:BA)],[T (⟨#[98]⟩:BA)],[T (⟨#[99]⟩:BA)],[T (⟨#[100]⟩:BA)]] ([(⟨#[97]⟩:BA),(⟨#[98]⟩:BA),(⟨#[99]⟩:BA),(⟨#[100]⟩:BA)]:List BA) (qH r r r r) r r (by decide) ⟨r,⟨r,⟨r,⟨r,y⟩⟩⟩⟩) ?_
      rintro _ cx ⟨ar,rfl,a⟩
      have b:=(a.ad [] [4])
      refine ⟨(sF b),?_⟩
      refine tP 9 r (fun _=>show Yl _ _ _ _ _ _ _ _ _ (.slice (some ⟨ar,0,none⟩) o.length 4) from (congrArg (fun z=>Value.slice (some ⟨ar,0,none⟩) z 4) J).symm ▸ yQ a1 kQ oQ r r Q (Nat.le_trans L ((a.vw 0 0 r r)).cap)) (sF b) ?_
      refine hO 3 (uH r r (jT uq r r ((uy (ds:=[T m]) (a.vw 2 1 r r) C (fun _ h=>h)) 0 _ r)) (sF b) ?_)
      refine pF 10 r (sW r r) b ?_
      refine hO 12 (os r r (nX a 1 [T m,V 0,.slice (ad ar) o.length 4,sn] r nY r r) fun cy a=>?_)
      have b:=(a.ad [] [4])
      refine ⟨(sF b),?_⟩
      refine hD ?_
      exact hJd _ _ ⟨bi,ar,⟨r,r,r,r,r,r,r,r,y⟩,(a.ad [3,4,5,6,7,8,0,1] [2,3,4,5,0])⟩
     ·refine oo r r (jP a [[T (⟨#[97]⟩:BA)],[T (⟨#[98]⟩:BA)],[T (⟨#[99]⟩:BA)],[T (⟨#[100]⟩:BA)]] ([(⟨#[97]⟩:BA),(⟨#[98]⟩:BA),(⟨#[99]⟩:BA),(⟨#[100]⟩:BA)]:List BA) (qH r r r r) r r (by decide) ⟨r,⟨r,⟨r,⟨r,y⟩⟩⟩⟩) ?_
      rintro _ cz ⟨X,rfl,a⟩
      have b:=(a.ad [] [3])
      refine ⟨(sF b),?_⟩
      refine tP 9 r (fun _=>show Yl _ _ _ _ _ _ _ _ _ (.slice (some ⟨X,0,none⟩) o.length 4) from (congrArg (fun z=>Value.slice (some ⟨X,0,none⟩) z 4) J).symm ▸ yQ a1 kQ oQ r r Q (Nat.le_trans L ((a.vw 0 0 r r)).cap)) (sF b) ?_
      refine mH 0 [11] (by kernel_rfl) (jL ?_ (jL ?_ lH))
      ·refine oo r r (jP a [[T (⟨#[102]⟩:BA)],[T (⟨#[103]⟩:BA)],[T (⟨#[104]⟩:BA)],[T (⟨#[107]⟩:BA)]] ([(⟨#[102]⟩:BA),(⟨#[103]⟩:BA),(⟨#[104]⟩:BA),(⟨#[107]⟩:BA)]:List BA) (qH r r r r) r r (by decide) ⟨r,⟨r,⟨r,⟨r,y⟩⟩⟩⟩) ?_
       rintro _ cA ⟨cB,rfl,a⟩
       have b:=(a.ad [] [4])
       refine ⟨(sF b),?_⟩
       refine pF 2 r (kW kQ oQ r r af (a.vw 0 0 r r) C) b ?_
       refine mH 3 [11] (by kernel_rfl) (jL ?_ (jL ?_ lH))
       ·have b:=(a.ad [] [4])
        refine uH r r (jT uq r r ((uy (ds:=[T m]) (a.vw 0 0 r r) C (fun _ h=>h)) 0 _ r)) (sF b) (pF 10 r (sW r r) b ?_)
        refine hO 11 (oo r r (nM a (jV nY)) ?_)
        rintro _ cC ⟨bH,rfl,a⟩
        have b:=(a.ad [] [4])
        refine ⟨(sF b),?_⟩
        refine hO 12 (os r r (nX a 0 [T m,V 0,.slice (ad X) o.length 4,sn] r nY r r) fun cD a=>?_)
        have b:=(a.ad [] [4])
        refine ⟨(sF b),?_⟩
        refine hD ?_
        exact hJd _ _ ⟨bH,X,⟨r,r,r,r,r,r,r,r,y⟩,(a.ad [3,4,5,6,7,8,2,0] [2,3,4,5,1])⟩
       refine oo r r (nM a (jV nY)) ?_
       rintro _ cE ⟨bI,rfl,a⟩
       have b:=(a.ad [] [4])
       refine ⟨(sF b),?_⟩
       refine hO 3 (uH r r (jT uq r r ((uy (ds:=[T m]) (a.vw 1 0 r r) C (fun _ h=>h)) 0 _ r)) (sF b) ?_)
       refine pF 10 r (sW r r) b ?_
       refine hO 12 (os r r (nX a 0 [T m,V 0,.slice (ad X) o.length 4,sn] r nY r r) fun cF a=>?_)
       have b:=(a.ad [] [4])
       refine ⟨(sF b),?_⟩
       refine hD ?_
       exact hJd _ _ ⟨bI,X,⟨r,r,r,r,r,r,r,r,y⟩,(a.ad [3,4,5,6,7,8,2,0] [2,3,4,5,1])⟩
      refine oo r r (nM a (jV nY)) ?_
      rintro _ cG ⟨bJ,rfl,a⟩
      have b:=(a.ad [] [3])
      refine ⟨(sF b),?_⟩
      refine hO 0 (oo r r (jP a [[T (⟨#[102]⟩:BA)],[T (⟨#[103]⟩:BA)],[T (⟨#[104]⟩:BA)],[T (⟨#[107]⟩:BA)]] ([(⟨#[102]⟩:BA),(⟨#[103]⟩:BA),(⟨#[104]⟩:BA),(⟨#[107]⟩:BA)]:List BA) (qH r r r r) r r (by decide) ⟨r,⟨r,⟨r,⟨r,y⟩⟩⟩⟩) ?_)
      rintro _ cH ⟨cI,rfl,a⟩
      have b:=(a.ad [] [4])
      refine ⟨(sF b),?_⟩
      refine pF 2 r (kW kQ oQ r r af (a.vw 0 0 r r) C) b ?_
      refine hO 3 (uH r r (jT uq r r ((uy (ds:=[T m]) (a.vw 0 0 r r) C (fun _ h=>h)) 0 _ r)) (sF b) ?_)
      refine pF 10 r (sW r r) b ?_
      refine hO 12 (os r r (nX a 1 [T m,V 0,.slice (ad X) o.length 4,sn] r nY r r) fun cJ a=>?_)
      have b:=(a.ad [] [4])
      refine ⟨(sF b),?_⟩
      refine hD ?_
      exact hJd _ _ ⟨bJ,X,⟨r,r,r,r,r,r,r,r,y⟩,(a.ad [3,4,5,6,7,8,2,1] [2,3,4,5,1])⟩
     refine oo r r (nM a (jV nY)) ?_
     rintro _ cK ⟨aN,rfl,a⟩
     have b:=(a.ad [] [2])
     refine ⟨(sF b),?_⟩
     refine mH 0 [4] (by kernel_rfl) (jL ?_ (jL ?_ lH))
     ·refine oo r r (jP a [[T (⟨#[102]⟩:BA)],[T (⟨#[103]⟩:BA)],[T (⟨#[104]⟩:BA)],[T (⟨#[107]⟩:BA)]] ([(⟨#[102]⟩:BA),(⟨#[103]⟩:BA),(⟨#[104]⟩:BA),(⟨#[107]⟩:BA)]:List BA) (qH r r r r) r r (by decide) ⟨r,⟨r,⟨r,⟨r,y⟩⟩⟩⟩) ?_
      rintro _ cL ⟨cM,rfl,a⟩
      have b:=(a.ad [] [3])
      refine ⟨(sF b),?_⟩
      refine pF 2 r (kW kQ oQ r r af (a.vw 0 0 r r) C) b ?_
      refine mH 3 [4] (by kernel_rfl) (jL ?_ (jL ?_ lH))
      ·have b:=(a.ad [] [3])
       refine uH r r (jT uq r r ((uy (ds:=[T m]) (a.vw 0 0 r r) C (fun _ h=>h)) 0 _ r)) (sF b) ?_
       refine hO 4 (oo r r (jP a [[T (⟨#[97]⟩:BA)],[T (⟨#[98]⟩:BA)],[T (⟨#[99]⟩:BA)],[T (⟨#[100]⟩:BA)]] ([(⟨#[97]⟩:BA),(⟨#[98]⟩:BA),(⟨#[99]⟩:BA),(⟨#[100]⟩:BA)]:List BA) (qH r r r r) r r (by decide) ⟨r,⟨r,⟨r,⟨r,y⟩⟩⟩⟩) ?_)
       rintro _ cN ⟨au,rfl,a⟩
       have b:=(a.ad [] [4])
       refine ⟨(sF b),?_⟩
       refine tP 9 r (fun _=>show Yl _ _ _ _ _ _ _ _ _ (.slice (some ⟨au,0,none⟩) o.length 4) from (congrArg (fun z=>Value.slice (some ⟨au,0,none⟩) z 4) J).symm ▸ yQ a1 kQ oQ r r Q (Nat.le_trans L ((a.vw 0 0 r r)).cap)) (sF b) (pF 10 r (sW r r) b ?_)
       refine hO 12 (os r r (nX a 2 [T m,V 0,.slice (ad au) o.length 4,sn] r nY r r) fun cO a=>?_)
       have b:=(a.ad [] [4])
       refine ⟨(sF b),?_⟩
       refine hD ?_
       exact hJd _ _ ⟨aN,au,⟨r,r,r,r,r,r,r,r,y⟩,(a.ad [3,4,5,6,7,8,0,2] [2,3,4,5,0])⟩
      refine oo r r (jP a [[T (⟨#[97]⟩:BA)],[T (⟨#[98]⟩:BA)],[T (⟨#[99]⟩:BA)],[T (⟨#[100]⟩:BA)]] ([(⟨#[97]⟩:BA),(⟨#[98]⟩:BA),(⟨#[99]⟩:BA),(⟨#[100]⟩:BA)]:List BA) (qH r r r r) r r (by decide) ⟨r,⟨r,⟨r,⟨r,y⟩⟩⟩⟩) ?_
      rintro _ cP ⟨av,rfl,a⟩
      have b:=(a.ad [] [4])
      refine ⟨(sF b),?_⟩
      refine tP 9 r (fun _=>show Yl _ _ _ _ _ _ _ _ _ (.slice (some ⟨av,0,none⟩) o.length 4) from (congrArg (fun z=>Value.slice (some ⟨av,0,none⟩) z 4) J).symm ▸ yQ a1 kQ oQ r r Q (Nat.le_trans L ((a.vw 0 0 r r)).cap)) (sF b) ?_
      refine hO 3 (uH r r (jT uq r r ((uy (ds:=[T m]) (a.vw 1 1 r r) C (fun _ h=>h)) 0 _ r)) (sF b) ?_)
      refine pF 10 r (sW r r) b ?_
      refine hO 12 (os r r (nX a 2 [T m,V 0,.slice (ad av) o.length 4,sn] r nY r r) fun cQ a=>?_)
      have b:=(a.ad [] [4])
      refine ⟨(sF b),?_⟩
      refine hD ?_
      exact hJd _ _ ⟨aN,av,⟨r,r,r,r,r,r,r,r,y⟩,(a.ad [3,4,5,6,7,8,0,2] [2,3,4,5,0])⟩
     refine oo r r (jP a [[T (⟨#[97]⟩:BA)],[T (⟨#[98]⟩:BA)],[T (⟨#[99]⟩:BA)],[T (⟨#[100]⟩:BA)]] ([(⟨#[97]⟩:BA),(⟨#[98]⟩:BA),(⟨#[99]⟩:BA),(⟨#[100]⟩:BA)]:List BA) (qH r r r r) r r (by decide) ⟨r,⟨r,⟨r,⟨r,y⟩⟩⟩⟩) ?_
     rintro _ cR ⟨aw,rfl,a⟩
     have b:=(a.ad [] [3])
     refine ⟨(sF b),?_⟩
     refine tP 9 r (fun _=>show Yl _ _ _ _ _ _ _ _ _ (.slice (some ⟨aw,0,none⟩) o.length 4) from (congrArg (fun z=>Value.slice (some ⟨aw,0,none⟩) z 4) J).symm ▸ yQ a1 kQ oQ r r Q (Nat.le_trans L ((a.vw 0 0 r r)).cap)) (sF b) ?_
     refine hO 0 (oo r r (jP a [[T (⟨#[102]⟩:BA)],[T (⟨#[103]⟩:BA)],[T (⟨#[104]⟩:BA)],[T (⟨#[107]⟩:BA)]] ([(⟨#[102]⟩:BA),(⟨#[103]⟩:BA),(⟨#[104]⟩:BA),(⟨#[107]⟩:BA)]:List BA) (qH r r r r) r r (by decide) ⟨r,⟨r,⟨r,⟨r,y⟩⟩⟩⟩) ?_)
     rintro _ cS ⟨cT,rfl,a⟩
     have b:=(a.ad [] [4])
     refine ⟨(sF b),?_⟩
     refine pF 2 r (kW kQ oQ r r af (a.vw 0 0 r r) C) b ?_
     refine hO 3 (uH r r (jT uq r r ((uy (ds:=[T m]) (a.vw 0 0 r r) C (fun _ h=>h)) 0 _ r)) (sF b) ?_)
     refine pF 10 r (sW r r) b ?_
     refine hO 12 (os r r (nX a 2 [T m,V 0,.slice (ad aw) o.length 4,sn] r nY r r) fun cU a=>?_)
     have b:=(a.ad [] [4])
     refine ⟨(sF b),?_⟩
     refine hD ?_
     exact hJd _ _ ⟨aN,aw,⟨r,r,r,r,r,r,r,r,y⟩,(a.ad [3,4,5,6,7,8,1,2] [2,3,4,5,1])⟩
    clear a
    rintro f w ⟨a6,I,hf,a⟩
    obtain ⟨dB,rfl⟩:=iA _ _ hf
    clear hf
    refine q (g (s (mp r) (nU (jP a [] ([]:List BA) (mq) r r (by decide) y) ?_)))
    rintro _ cV ⟨cW,rfl,a⟩
    refine s (EL r) (s (zM r (a.bk 8 r) r) ?_)
    obtain ⟨aH,bj,c⟩:=bs c
    refine nU (kP a 0 0 r r kQ oQ r (by decide) (by decide) (Nat.le_refl _) r r (a.zO 7 5 r r L ao) bj) ?_
    rintro _ cX ⟨aI,aJ,bl,rfl,a⟩
    refine s (xn r) (s (mQ r) (lg (t_n a 1 [Z aI aH aJ] r oH r r) fun cY a=>?_))
    refine n (q (g (s (xi r) (n (q ?_)))))
    obtain ⟨bK,a2,c⟩:=bs c
    refine oq (fun f w=>∃ (ai:Int),Has f [(2,Pt b1),(3,Pt b2),(4,Pt b6),(5,V (wr (1+S))),(6,.slice (ad W) ([2,F,v,x]:List Int).length 4),(7,V A),(8,Pt aG),(9,Pt a6),(10,V ai)]∧Bx w0 w dA G [O w0.heap.size aI aJ 9 BA bl,.box aG 135 #[Pt b2,V A,V (wr (1+S)),.slice (ad W) ([2,F,v,x]:List Int).length 4,Z aI aH aJ,sn,sn,V 0,V 22],O w0.heap.size e j 82 Gn t,.box b2 132 #[Z D B E,V H],.box b6 26 #[.slice (ad b5) ([(⟨(⟨#[80]⟩:BA),([(⟨#[120]⟩:BA),(⟨#[121]⟩:BA)]:List BA)⟩:Gr)]:List Gr).length 1,Z e p j],O w0.heap.size (ad b5) 1 127 Gr [[T (⟨#[80]⟩:BA),.slice (ad b3) ([(⟨#[120]⟩:BA),(⟨#[121]⟩:BA)]:List BA).length 2]],.box b1 26 #[sn,sn],O w0.heap.size (ad I) 4 9 BA [[T (⟨#[97]⟩:BA)],[T (⟨#[98]⟩:BA)],[T (⟨#[99]⟩:BA)],[T (⟨#[100]⟩:BA)]],.box a6 82 #[T m,V 0,.slice (ad I) o.length 4,sn]] [.els bl aH,.l D E B,.els t p,.l (ad W) 4 ([2,F,v,x]:List Int),.els [[T (⟨#[80]⟩:BA),.slice (ad b3) ([(⟨#[120]⟩:BA),(⟨#[121]⟩:BA)]:List BA).length 2]] ([(⟨(⟨#[80]⟩:BA),([(⟨#[120]⟩:BA),(⟨#[121]⟩:BA)]:List BA)⟩:Gr)]:List Gr),.els [[T (⟨#[97]⟩:BA)],[T (⟨#[98]⟩:BA)],[T (⟨#[99]⟩:BA)],[T (⟨#[100]⟩:BA)]] ([(⟨#[97]⟩:BA),(⟨#[98]⟩:BA),(⟨#[99]⟩:BA),(⟨#[100]⟩:BA)]:List BA)]∧Ld.go ai=bK) (fun cZ aK=>?_) ?_
    ·unfold uL at a2
     refine q (g (s (mi r) (s (uX r r) (n ?_))))
     rcases iv a2 with ⟨aO,a2⟩|⟨aO,a2⟩
     ·refine jN (bt aO) (g (s (xi r) (n ?_)))
      exact aK _ _ ⟨6,⟨r,r,r,r,r,r,r,r,r,y⟩,a,sm a2⟩
     refine jK (bf aO) (wk ?_)
     exact aK _ _ ⟨10,⟨r,r,r,r,r,r,r,r,r,y⟩,a,sm a2⟩
    clear a
    rintro f w ⟨ai,hf,a,bm⟩
    obtain ⟨dB,rfl⟩:=iA _ _ hf
    clear hf
    subst bm
    replace c:=gi c
    refine q (g (s (mp r) (s (mi r) ?_)))
    replace a:=a.Ca BA 9
    replace a:=a.Ca BA 9
    obtain ⟨a7,bL,ax,bM,c⟩:=vD c
    have hc:=(JK fu) (a.pr [3,5,2,1,0] [4,6,7,8,9,10] [3,5,2,1,0] r) a.rD.size a.rD.size a.rD.size bM
    refine sc (ec Ti r) hc ?_
    rintro _ d0 ⟨M,N,a3,aP,aQ,aR,aS,aT,aU,aV,aW,aX,rfl,hK⟩
    have bN:=a.rD.size
    replace a:=a.cn [3,5,2,1,0] [4,6,7,8,9,10] hK
    replace a:=a.rb 0 w0.heap.size r bN
    refine s (Du r) (lg (t_n a 11 [Z M a7 N] r zX r r) fun d1 a=>?_)
    refine n (q ?_)
    obtain ⟨bO,u,c⟩:=bs c
    refine oq (fun f w=>∃ (a8:List Gs) (a9:OA)(aa:Nat)(ab:LV)(Y:List Int) (ac:Int),Has f [(2,Pt b1),(3,Pt b2),(4,Pt b6),(5,V (wr (1+S))),(6,.slice (ad W) ([2,F,v,x]:List Int).length 4),(7,V A),(9,Pt a6)]∧Bx w0 w dA G [O w0.heap.size a9 aa 111 Gs ab,.box b2 132 #[Z D Y E,V ac],O w0.heap.size e j 82 Gn t,.box b6 26 #[.slice (ad b5) ([(⟨(⟨#[80]⟩:BA),([(⟨#[120]⟩:BA),(⟨#[121]⟩:BA)]:List BA)⟩:Gr)]:List Gr).length 1,Z e p j],O w0.heap.size (ad b5) 1 127 Gr [[T (⟨#[80]⟩:BA),.slice (ad b3) ([(⟨#[120]⟩:BA),(⟨#[121]⟩:BA)]:List BA).length 2]],.box b1 26 #[sn,sn],O w0.heap.size (ad I) 4 9 BA [[T (⟨#[97]⟩:BA)],[T (⟨#[98]⟩:BA)],[T (⟨#[99]⟩:BA)],[T (⟨#[100]⟩:BA)]],.box a6 82 #[T m,V 0,.slice (ad I) o.length 4,Z a9 a8 aa]] [.l D E Y,.els ab a8,.els t p,.l (ad W) 4 ([2,F,v,x]:List Int),.els [[T (⟨#[80]⟩:BA),.slice (ad b3) ([(⟨#[120]⟩:BA),(⟨#[121]⟩:BA)]:List BA).length 2]] ([(⟨(⟨#[80]⟩:BA),([(⟨#[120]⟩:BA),(⟨#[121]⟩:BA)]:List BA)⟩:Gr)]:List Gr),.els [[T (⟨#[97]⟩:BA)],[T (⟨#[98]⟩:BA)],[T (⟨#[99]⟩:BA)],[T (⟨#[100]⟩:BA)]] ([(⟨#[97]⟩:BA),(⟨#[98]⟩:BA),(⟨#[99]⟩:BA),(⟨#[100]⟩:BA)]:List BA)]∧Ld.go (a8,Y,ac)=bO) (fun d2 ay=>?_) ?_
    ·unfold uS at u
     refine q (g (s (mp r) (s (xn r) (s (mQ r) (s (zM r (a.bk 1 r) r) (s (lX kQ r) (s (uX r r) (s (kL r) ?_))))))))
     rcases iv u with ⟨aY,u⟩|⟨aY,u⟩
     ·rw [decide_eq_true aY]
      refine kg r (s (mp r) ?_)
      obtain ⟨bP,az,bQ,u⟩:=lZ u
      refine kg r ?_
      have hc:=(jW fu) (a.pr [2] [0,1,3,4,5,6,7,8,9,10,11] [1] r)  bQ
      refine sc (ec nW r) hc ?_
      rintro _ d3 ⟨rfl,hK⟩
      replace a:=a.cn [2] [0,1,3,4,5,6,7,8,9,10,11] hK
      refine kg r (s (uX r r) (s (kr r r) (n ?_)))
      rcases iv u with ⟨aZ,u⟩|⟨aZ,u⟩
      ·refine jN (bt aZ) (Kr a [2,3] [4] [2,3,11] [4] [21] (by kernel_rfl) ?_)
       replace a:=a.drew
       have b:=(a.ad [2,3] [4])
       have U:=(a.ad [2,3,11] [4])
       refine pL 0 r (Du r) b U (tS 1 1 r (fun _ hS=>Ol r (hS.bk 2 r) r) (nu b U) (pL 2 r (mp r) b U (pL 3 r (xn r) b U (pL 4 r (mQ r) b U (tU 5 r (fun _ hS=>zM r (hS.bk 0 r) r) (nu b U) (pL 6 r (mp r) b U (pL 7 r (mp r) b U (pL 8 r (xn r) b U (pL 9 r (mQ r) b U (tU 10 r (fun _ hS=>zM r (hS.bk 0 r) r) (nu b U) (pL 11 r (lX kQ r) b U ?_)))))))))))
       obtain ⟨bR,aA,bS,u⟩:=lZ u
       have hc:=(jW fu) (a.pr [0] [1,2,3,4,5,6,7,8,9,10,11] [0] r)  bS
       refine hO 12 (oc r r (ec nW r) hc ?_)
       rintro _ d4 ⟨rfl,hK⟩
       replace a:=a.cn [0] [1,2,3,4,5,6,7,8,9,10,11] hK
       have b:=(a.ad [2,3] [5])
       have U:=(a.ad [2,3,11] [5])
       refine ⟨(nu b U),?_⟩
       obtain ⟨bT,ak,u⟩:=bs u
       obtain ⟨d5,bn,ak⟩:=kJ ak
       refine pL 13 r (kW kQ oQ r r bn (a.vw 3 5 r r) ak) b U (tU 14 r (fun _ hS=>jT uq r r ((uy (ds:=[T bT]) (hS.vw 1 0 r r) ak (fun _ h=>h)) 0 _ r)) (nu b U) ?_)
       obtain ⟨K,bU,u⟩:=bs u
       have hc:=(oL fu) (a.pr [] [0,1,2,3,4,5,6,7,8,9,10,11] [] r)  bU
       refine hO 15 (oc r r (ec D9 r) hc ?_)
       rintro _ d6 ⟨a4,a5,rfl,hK⟩
       replace a:=a.cn [] [0,1,2,3,4,5,6,7,8,9,10,11] hK
       have b:=(a.ad [2,3] [6])
       have U:=(a.ad [2,3,11] [6])
       refine ⟨(nu b U),?_⟩
       refine hO 16 (oo r r (jP a [[V K.e,V K.d,V K.g,T K.b,T K.c,Z a4 K.a a5]] ([K]:List Ge) (kS r) r r (by decide) ⟨(jB.inn ⟨a4,a5,r,(a.dl 0 r)⟩),y⟩) ?_)
       rintro _ d7 ⟨bo,rfl,a⟩
       have b:=(a.ad [3,4] [7])
       have U:=(a.ad [3,4,12] [7])
       refine ⟨(nu b U),?_⟩
       refine pL 17 r (qb r r) b U ?_
       replace a:=a.fz 0 0 r r
       refine hO 18 (oo r r (jP a [[V 6,V 0,V 0,T be,T be,V 0,V 0,sn,T be,V 0,.slice (ad bo) ([K]:List Ge).length 1,sn,sn]] ([(⟨6,0,0,be,be,0,0,([]:List Ge),be,0,([K]:List Ge),([]:List Gs),([]:List Gs)⟩:Gs)]:List Gs) (rF r) r r (by decide) ⟨(jD.inn ⟨none,0,(ad bo),1,none,0,none,0,r,om,(a.dl 0 r),om,om⟩),y⟩) ?_)
       rintro _ d8 ⟨d9,rfl,a⟩
       have b:=(a.ad [3,4] [8])
       have U:=(a.ad [3,4,12] [8])
       refine ⟨(nu b U),?_⟩
       obtain ⟨b0,bp,u⟩:=bs u
       refine hO 19 (oo r r (kP a 2 5 r r Ak jQ r (by decide) (by decide) (Nat.le_refl _) r r (a.zP 0 0 r r) bp) ?_)
       rintro _ da ⟨b4,b7,bV,rfl,a⟩
       have b:=(a.ad [3,4] [8])
       have U:=(a.ad [3,4,12] [8])
       refine ⟨(nu b U),?_⟩
       refine pL 20 r (Du r) b U ?_
       refine hO 21 (os r r (t_n a 12 [Z b4 b0 b7] r zX r r) fun db a=>?_)
       have b:=(a.ad [3,4] [8])
       refine ⟨(sy 21 b),?_⟩
       refine hD ?_
       exact ay _ _ ⟨b0,b4,b7,bV,aA.l,aA.a,⟨r,r,r,r,r,r,r,y⟩,(a.ad [2,1,7,8,9,10,11,12] [3,5,15,16,17,18]),sm u⟩
      refine jK (bf aZ) (wk ?_)
      exact ay _ _ ⟨a7,M,N,a3,az.l,az.a,⟨r,r,r,r,r,r,r,y⟩,(a.ad [1,0,6,7,8,9,10,11] [0,1,11,12,13,14]),sm u⟩
     rw [decide_eq_false aY]
     refine jC r (jC r (jC r (s (jY r r) (n (jK r (wk ?_))))))
     exact ay _ _ ⟨a7,M,N,a3,ax.l,ax.a,⟨r,r,r,r,r,r,r,y⟩,(a.ad [0,2,6,7,8,9,10,11] [1,0,10,11,12,13]),sm u⟩
    clear a
    rintro f w ⟨a8,a9,aa,ab,Y,ac,hf,a,bq⟩
    obtain ⟨dB,rfl⟩:=iA _ _ hf
    clear hf
    subst bq
    replace c:=gi c
    replace c:=Bh c
    refine q (g (s (Du r) (s (Ol r (a.bk 7 r) r) (s (CU r) (nU (jP a [[V 10,V 0,V 0,T be,T be,V 0,V 0,sn,T be,V 0,sn,sn,sn]] ([(⟨10,0,0,be,be,0,0,([]:List Ge),be,0,([]:List Ge),([]:List Gs),([]:List Gs)⟩:Gs)]:List Gs) (rF r) r r (by decide) ⟨(jD.inn ⟨none,0,none,0,none,0,none,0,r,om,om,om,om⟩),y⟩) ?_)))))
    rintro _ dc ⟨dd,rfl,a⟩
    obtain ⟨aB,br,c⟩:=bs c
    refine nU (kP a 1 2 r r Ak jQ r (by decide) (by decide) (Nat.le_refl _) r r (a.zP 0 0 r r) br) ?_
    rintro _ de ⟨aC,aD,df,rfl,a⟩
    refine s (Du r) (lg (t_n a 8 [Z aC aB aD] r zX r r) fun dg a=>?_)
    refine n (g (s (Af r) (s (OJ r (a.bk 4 r) r) (s (ng [T m,V 0,.slice (ad I) o.length 4,Z aC aB aD] Ez nY r (a.bk 8 r)) ?_))))
    replace a:=a.fz 7 6 r r
    replace a:=a.ku (d:=.l (ad I) 4 o) (by have dD:=(a.dl 0 r).head L;rw [ao] at dD;exact dD)
    replace a:=a.fz 1 4 r r
    refine nU (jP a [[T m,V 0,.slice (ad I) o.length 4,Z aC aB aD]] ([(⟨m,0,o,aB⟩:Gn)]:List Gn) (Ki r) r r (by decide) ⟨(lI.inn ⟨(ad I),4,aC,aD,r,(a.dl 1 r),(a.dl 0 r)⟩),y⟩) ?_
    rintro _ di ⟨dj,rfl,a⟩
    obtain ⟨b8,bu,c⟩:=bs c
    refine nU (kP a 3 6 r r Cq nY r (by decide) (by decide) (Nat.le_refl _) r r (a.zP 0 0 r r) bu) ?_
    rintro _ dk ⟨b9,ba,bW,rfl,a⟩
    refine s (Af r) (lg (t_n a 4 [Z b9 b8 ba] r Ve r r) fun dm a=>?_)
    refine n (g (s (mi r) (s (kE r r) (s (xi r) (n ?_)))))
    exact bd aL _ _ (Nat.lt_succ_self _) ⟨(wr (A+1)),b8,b9,ba,bW,Y,ac,⟨r,r,r,r,r,r,y⟩,(a.ad [3,2,4,5,6] [5,6,7,8]),c⟩
   refine jK (bf aM) (tT ?_)
   exact bc _ _ ⟨A,p,e,j,t,B,H,⟨r,r,y⟩,a,sm c⟩
 clear a
 rintro f w ⟨A,p,e,j,t,B,H,hf,a,bv⟩
 obtain ⟨dB,rfl⟩:=iA _ _ hf
 clear hf
 subst bv
 replace R:=gi R
 replace R:=mG R
 refine q (g (s (ng [.slice (ad b5) ([(⟨(⟨#[80]⟩:BA),([(⟨#[120]⟩:BA),(⟨#[121]⟩:BA)]:List BA)⟩:Gr)]:List Gr).length 1,Z e p j] Cy tX r (a.bk 2 r)) (lg (nX a 4 [.slice (ad b5) ([(⟨(⟨#[80]⟩:BA),([(⟨#[120]⟩:BA),(⟨#[121]⟩:BA)]:List BA)⟩:Gr)]:List Gr).length 1,Z e p j] r tX r r) fun dn a=>?_)))
 refine n (kT ?_)
 replace a:=a.fz 3 3 r r
 replace a:=a.fz 0 2 r r
 obtain rfl:=sm R
 refine jI r (tV r Cy r tX r (a.bk 2 r)) ?_
 exact ⟨(ad b5),1,e,j,r,(a.ad [] [1,0])⟩
end
end Go.Proofs.Ytfglbdkfnphjgaa
