/- Contracts, printed by gen3.py. -/
import Derived.Test.YtfglbdkfnphjgaaZt
import Derived.Test.YtfglbdkfnphjgaaLb
import Derived.Test.YtfglbdkfnphjgaaLc
import Derived.Test.YtfglbdkfnphjgaaLd
import Derived.Test.YtfglbdkfnphjgaaLg
import Derived.Test.YtfglbdkfnphjgaaLi
import Derived.Test.YtfglbdkfnphjgaaLj
set_option linter.unusedVariables false
set_option maxHeartbeats 12800000
set_option linter.unusedSimpArgs false
set_option maxRecDepth 4000
namespace Go.Proofs.Ytfglbdkfnphjgaa
open Go.RowKit Go.Fw
noncomputable section
def KN (m:(List Int)→Option (BA)):Prop:=∀ {c:World} {f:Nat→Prop} {d:(List Int)} {a:Option Addr} {b:Nat} {e:BA},Pre c f [] [.l a b d]→m d=some e→
 Calls Try.prog 26 #[Z a d b] c (rA fun v w=>v=T e∧Bx c w f (lT []) [] [])
def Al (fu:Nat)(c:(List Int)):Option (BA):=
 (wL fu c).bind fun a=>
 (zF fu a).bind fun b=>
 some b
theorem KI (fu:Nat):KN (Al fu):=by
 intro u A o b c v k d
 unfold Al at d
 have a:=k.bx
 clear k
 generalize w:lT _=G at a ⊢
 refine cf Try.func26 r (l8 [(0,Z b o c)] ⟨r,y⟩ fun B=>q (g (s (mZ r) (n (q (g (s (mH r) ?_)))))))
 obtain ⟨l,p,d⟩:=bs d
 have hc:=(GZ fu) (a.pr [] [] [0] r)  p
 refine sc (ec TA r) hc ?_
 rintro _ x ⟨e,f,h,i,rfl,j⟩
 replace a:=a.cn [] [] j
 obtain ⟨m,t,d⟩:=bs d
 have hc:=(JQ fu) (a.pr [] [] [0,1] r)  t
 refine sc (ec TZ r) hc ?_
 rintro _ z ⟨rfl,j⟩
 replace a:=a.cn [] [] j
 refine s (mZ r) (n (kP ?_))
 obtain rfl:=sm d
 exact jC r (kT r) ⟨r,(a.dp [])⟩
def JO (m:Option (Bool)):Prop:=∀ {a:World} {c:Nat→Prop}  {b:Bool},Pre a c [] []→m=some b→
 Calls Try.prog 28 #[] a (rA fun v w=>v=.bool b∧Bx a w c (lT []) [] [])
def AA (fu:Nat):Option (Bool):=
 (xA fu (⟨#[102,117,110,99,32,102,40,97,41,32,123,32,118,97,114,32,116,58,32,105,110,116,59,32,116,32,61,32,97,59,32,125]⟩:BA)).bind fun o=>
 iA o fun f o=>iA o fun j k=>
 (oz fu f).bind fun o=>
 iA o fun a o=>iA o fun l h=>
 if h≠0 then
  some false
 else
  if (a.c.length:Int)≠1 then
   some false
  else
   (ix a.c 0).bind fun m=>
   if (m.length:Int)≠2 then
    some false
   else
    if (a.b.length:Int)≠3 then
     some false
    else
     (Ah fu a (⟨#[102]⟩:BA)).bind fun o=>
     iA o fun b c=>
     (ix m 1).bind fun i=>
     if i.d=1 then
      if i.g=2 then
       (yc fu a 0 0).bind fun d=>
       (Dv fu d ([0]:List Int)).bind fun e=>
       if e=true then
        if b=0 then
         some c
        else
         some false
       else
        some false
      else
       some false
     else
      some false
theorem JU (fu:Nat):JO (AA fu):=by
 intro w0 aF r0 hP b
 unfold AA at b
 have a:=hP.bx
 clear hP
 generalize hG:lT _=G at a ⊢
 refine cf Try.func28 r (l8 [] y fun aG=>q (g (s (jT r) (n (q (g ?_))))))
 obtain ⟨B,ac,ae,h1,b⟩:=qC b
 have hc:=(DL fu) (a.pr [] [] [] r)  h1
 refine sc (ec Qw r) hc ?_
 rintro _ w1 ⟨w,x,z,A,rfl,I⟩
 replace a:=a.cn [] [] I
 refine s pK (s (jN r r) (s (jN r r) (s (jN r r) (tH a (ko uI) fun w2 b2 a=>lu (nE a 0 [Z w B.a x,Z z B.b A] r uI r r) fun w3 a=>s (xi r) (s (xi r) (n (q (g (s (mD [Z w B.a x,Z z B.b A] Bw uI r (a.bk 0 r)) ?_)))))))))
 obtain ⟨c,ag,ah,h4,b⟩:=qC b
 have hc:=(Ba fu) (a.pr [] [0] [0,1] r)  h4
 refine sc (ec Q0 r) hc ?_
 rintro _ w4 ⟨e,f,j,m,o,p,t,u,rfl,I⟩
 replace a:=a.cn [] [0] I
 refine s pK (s (jN r r) (s (jN r r) (s (jN r r) (tH a (ko zH) fun w5 b5 a=>lu (nE a 0 [Z e c.a.a f,Z j c.a.b m,Z o c.c p,Z t c.b u] r zH r r) fun w6 a=>s (xi r) (s (xi r) (n (q (q (g (s (mi r) (s (mI r r) (s (jY r) ?_))))))))))))
 rcases iv b with ⟨h7,b⟩|⟨h7,b⟩
 ·rw [decide_eq_true h7]
  refine jB r (jB r (jB r (jB r (s (jO r r) (s (jY r) (jB r (jB r (jB r (jB r (jB r (jB r (s (jO r r) (s (jY r) (jB r (jB r (jB r (jB r (s (jO r r) (n (jH r (q (g (s (jT r) (n (kP ?_)))))))))))))))))))))))))
  obtain rfl:=sm b
  exact jC r (kT r) ⟨r,(a.ad [] [])⟩
 rw [decide_eq_false h7]
 refine jW r (s (vR r) (jW r (s (Hy r (a.bk 0 r) r) (jW r (s (lg AX r) (jW r (s (mI r r) (s (jZ r r) (s (jY r) ?_)))))))))
 rcases iv b with ⟨h8,b⟩|⟨h8,b⟩
 ·rw [decide_eq_true h8]
  refine jB r (jB r (jB r (jB r (jB r (jB r (s (jO r r) (s (jY r) (jB r (jB r (jB r (jB r (s (jO r r) (n (jH r (q (g (s (jT r) (n (kP ?_)))))))))))))))))))
  obtain rfl:=sm b
  exact jC r (kT r) ⟨r,(a.ad [] [])⟩
 rw [decide_eq_false h8]
 refine jW r (s (vR r) (jW r (s (Hy r (a.bk 0 r) r) ?_)))
 obtain ⟨e9,D,b⟩:=bs b
 obtain ⟨k9,K,D⟩:=kG D
 obtain ⟨ai,a0,a⟩:=a.nm 2 rfl D
 obtain ⟨L,M,rfl,N⟩:=a0
 replace a:=a.ku (d:=.l L M e9) N
 refine jW r (s (kZ AX Bi r r K (a.dl 4 r) D) (jW r (s (kC uX r r ((a.dc 1 r) 0 _ r)) (jW r (s (lg uX r) (jW r (s (mI r r) (s (jZ r r) (s (jY r) ?_)))))))))
 rcases iv b with ⟨Q,b⟩|⟨Q,b⟩
 ·rw [decide_eq_true Q]
  refine jB r (jB r (jB r (jB r (s (jO r r) (n (jH r (q (g (s (jT r) (n (kP ?_)))))))))))
  obtain rfl:=sm b
  exact jC r (kT r) ⟨r,(a.ad [] [])⟩
 rw [decide_eq_false Q]
 refine jW r (s (zO r) (jW r (s (Ms r (a.bk 0 r) r) (jW r (s (lg Ch r) (jW r (s (mI r r) (s (jZ r r) (n ?_)))))))))
 rcases iv b with ⟨R,b⟩|⟨R,b⟩
 ·refine jH (bt R) (q (g (s (jT r) (n (kP ?_)))))
  obtain rfl:=sm b
  exact jC r (kT r) ⟨r,(a.ad [] [])⟩
 refine jI (bf R) (wk (q (g (s (mD [Z e c.a.a f,Z j c.a.b m,Z o c.c p,Z t c.b u] Gx zH r (a.bk 0 r)) ?_))))
 obtain ⟨a3,a4,a5,b⟩:=lV b
 have hc:=(FL fu) (a.pr [] [0,1] [2,3,4,5] r)  a5
 refine sc (ec TF r) hc ?_
 rintro _ an ⟨rfl,I⟩
 replace a:=a.cn [] [0,1] I
 refine s pK (s (jN r r) (s (jN r r) (s (xi r) (s (jT r) (n (q (g (s (vR r) (s (Hy r (a.bk 0 r) r) (s (kZ AX Bi r r K (a.dl 4 r) D) (s (kC uX r r ((a.dc 1 r) 0 _ r)) ?_)))))))))))
 obtain ⟨v,C,b⟩:=bs b
 obtain ⟨ao,J,C⟩:=kG C
 refine s (kZ uX wB r r J (a.dl 0 r) C) (s (Pq r) (s (kC E8 r r ((vB (ds:=[T v.a,V v.e,V v.b,V v.f,.bool v.c,V v.d,V v.g]) (a.dl 0 r) C (fun _ h=>h)) 5 _ r)) (s (kK r r) (s (jY r) ?_))))
 rcases iv b with ⟨S,b⟩|⟨S,b⟩
 ·rw [decide_eq_true S]
  refine jW r (s (vR r) (jW r (s (Hy r (a.bk 0 r) r) (jW r (s (kZ AX Bi r r K (a.dl 4 r) D) (jW r (s (kC uX r r ((a.dc 1 r) 0 _ r)) (jW r (s (kZ uX wB r r J (a.dl 0 r) C) (jW r (s (IR r) (jW r (s (kC E8 r r ((vB (ds:=[T v.a,V v.e,V v.b,V v.f,.bool v.c,V v.d,V v.g]) (a.dl 0 r) C (fun _ h=>h)) 6 _ r)) (jW r (s (kK r r) (s (jO r r) (s (jY r) ?_)))))))))))))))))
  rcases iv b with ⟨U,b⟩|⟨U,b⟩
  ·rw [decide_eq_true U]
   refine jW r (s (mD [Z e c.a.a f,Z j c.a.b m,Z o c.c p,Z t c.b u] Gx zH r (a.bk 0 r)) ?_)
   obtain ⟨W,a6,b⟩:=bs b
   refine jW r ?_
   have hc:=(Db fu) (a.pr [] [0,1] [2,3,4,5] r)  a6
   refine sc (ec UL r) hc ?_
   rintro _ ap ⟨E,F,Y,rfl,I⟩
   have a7:=a.rM.size
   replace a:=a.cn [] [0,1] I
   replace a:=a.rb 0 w0.heap.size r a7
   refine jW r (qE (jV a [[V 0]] ([0]:List Int) (BR r) r r (by decide) ⟨r,y⟩) ?_)
   rintro _ aq ⟨a8,rfl,a⟩
   obtain ⟨a9,aa,b⟩:=bs b
   refine jW r ?_
   have hc:=(La fu) (Pre.all (Dc:=[.l E F W,.l (ad a8) 1 ([0]:List Int)]) (I9 ((a.vw 1 1 r r)).all (I9 ((a.vw 0 0 r r)).all Ur))) aa
   refine sc (ec Uh r) hc ?_
   rintro _ ar ⟨rfl,I⟩
   replace a:=a.ext I.ex
   refine s (jO r r) (s (jY r) ?_)
   rcases iv b with ⟨H,b⟩|⟨H,b⟩
   ·rw [H]
    refine jW r (s (mi r) (jW r (s (kK r r) (s (jO r r) (s (jY r) ?_)))))
    rcases iv b with ⟨X,b⟩|⟨X,b⟩
    ·rw [decide_eq_true X]
     refine jW r (s (jY r) (s (jO r r) (s (jT r) (n (kP ?_)))))
     obtain rfl:=sm b
     exact jC r (kT r) ⟨r,(a.ad [] [])⟩
    rw [decide_eq_false X]
    refine jB r (s (jZ r r) (s (jT r) (n (kP ?_))))
    obtain rfl:=sm b
    exact jC r (kT r) ⟨r,(a.ad [] [])⟩
   replace H:=nt H
   rw [H]
   refine jB r (jB r (s (jZ r r) (s (jY r) (jB r (s (jZ r r) (s (jT r) (n (kP ?_))))))))
   obtain rfl:=sm b
   exact jC r (kT r) ⟨r,(a.ad [] [])⟩
  rw [decide_eq_false U]
  refine jB r (jB r (jB r (jB r (s (jZ r r) (s (jY r) (jB r (jB r (s (jZ r r) (s (jY r) (jB r (s (jZ r r) (s (jT r) (n (kP ?_))))))))))))))
  obtain rfl:=sm b
  exact jC r (kT r) ⟨r,(a.ad [] [])⟩
 rw [decide_eq_false S]
 refine jB r (jB r (jB r (jB r (jB r (jB r (jB r (jB r (s (jZ r r) (s (jY r) (jB r (jB r (jB r (jB r (s (jZ r r) (s (jY r) (jB r (jB r (s (jZ r r) (s (jY r) (jB r (s (jZ r r) (s (jT r) (n (kP ?_))))))))))))))))))))))))
 obtain rfl:=sm b
 exact jC r (kT r) ⟨r,(a.ad [] [])⟩
def Hw (m:BA→Option (Bool)):Prop:=∀ {a:World} {d:Nat→Prop} {b:BA}  {c:Bool},Pre a d [] []→m b=some c→
 Calls Try.prog 25 #[T b] a (rA fun v w=>v=.bool c∧Bx a w d (lT []) [] [])
def wo (fu:Nat)(l:BA):Option (Bool):=
 (xA fu l).bind fun m=>
 iA m fun a m=>iA m fun k c=>
 if c≠0 then
  some true
 else
  (oz fu a).bind fun m=>
  iA m fun d m=>iA m fun e f=>
  (uM fu a).bind fun m=>
  iA m fun h m=>iA m fun i j=>
  (vv fu d h).bind fun b=>
  if b=true then
   if e=i then
    some (decide (f=j))
   else
    some false
  else
   some false
theorem CO (fu:Nat):Hw (wo fu):=by
 intro w0 aj Y r0 N d
 unfold wo at d
 have a:=N.bx
 clear N
 generalize hG:lT _=G at a ⊢
 refine cf Try.func25 r (l8 [(0,T Y)] ⟨r,y⟩ fun ak=>q (g (s (jT r) (n (q (g (s (lh r) ?_)))))))
 obtain ⟨j,Q,R,h1,d⟩:=qC d
 have hc:=(DL fu) (a.pr [] [] [] r)  h1
 refine sc (ec Qw r) hc ?_
 rintro _ w1 ⟨e,f,h,i,rfl,H⟩
 replace a:=a.cn [] [] H
 refine s pK (s (jN r r) (s (jN r r) (s (jN r r) (tH a (ko uI) fun w2 b2 a=>lu (nE a 0 [Z e j.a f,Z h j.b i] r uI r r) fun w3 a=>s (xi r) (s (xi r) (n (q (q (g (s (mi r) (s (mI r r) (n ?_))))))))))))
 rcases iv d with ⟨J,d⟩|⟨J,d⟩
 ·refine jH (bt J) (q (g (s (jT r) (n (kP ?_)))))
  obtain rfl:=sm d
  exact jC r (kT r) ⟨r,(a.ad [] [])⟩
 refine jI (bf J) (wk (q (g (s (mD [Z e j.a f,Z h j.b i] Bw uI r (a.bk 0 r)) ?_))))
 obtain ⟨b,S,U,h5,d⟩:=qC d
 have hc:=(Ba fu) (a.pr [] [0] [0,1] r)  h5
 refine sc (ec Q0 r) hc ?_
 rintro _ w5 ⟨k,l,m,o,p,t,u,v,rfl,H⟩
 replace a:=a.cn [] [0] H
 refine s pK (s (jN r r) (s (jN r r) (s (jN r r) (tH a (ko zH) fun w6 b6 a=>lu (nE a 0 [Z k b.a.a l,Z m b.a.b o,Z p b.c t,Z u b.b v] r zH r r) fun w7 a=>s (xi r) (s (xi r) (n (q (g (s (mD [Z e j.a f,Z h j.b i] Bw uI r (a.bk 1 r)) ?_)))))))))
 obtain ⟨c,W,X,h8,d⟩:=qC d
 have hc:=(JX fu) (a.pr [] [0,1] [4,5] r)  h8
 refine sc (ec Ul r) hc ?_
 rintro _ w8 ⟨w,x,z,A,B,C,D,E,rfl,H⟩
 replace a:=a.cn [] [0,1] H
 refine s pK (s (jN r r) (s (jN r r) (s (jN r r) (tH a (ko zH) fun w9 b9 a=>lu (nE a 0 [Z w c.a.a x,Z z c.a.b A,Z B c.c C,Z D c.b E] r zH r r) fun a3 a=>s (xi r) (s (xi r) (n (q (g (s (mD [Z k b.a.a l,Z m b.a.b o,Z p b.c t,Z u b.b v] Gx zH r (a.bk 1 r)) (s (mD [Z w c.a.a x,Z z c.a.b A,Z B c.c C,Z D c.b E] Gx zH r (a.bk 0 r)) ?_))))))))))
 obtain ⟨L,M,d⟩:=bs d
 have hc:=(Gp fu) (a.pr [] [0,1,2] [4,5,6,7,0,1,2,3] r)  M
 refine sc (ec TB r) hc ?_
 rintro _ a4 ⟨rfl,H⟩
 replace a:=a.cn [] [0,1,2] H
 refine s (jY r) ?_
 rcases iv d with ⟨F,d⟩|⟨F,d⟩
 ·rw [F]
  refine jW r (s (mi r) (jW r (s (mi r) (jW r (s (kK r r) (s (jO r r) (s (jY r) ?_)))))))
  rcases iv d with ⟨I,d⟩|⟨I,d⟩
  ·rw [decide_eq_true I]
   refine jW r (s (mi r) (jW r (s (mi r) (jW r (s (kK r r) (s (jO r r) (s (jT r) (n (kP ?_)))))))))
   obtain rfl:=sm d
   exact jC r (kT r) ⟨r,(a.ad [] [])⟩
  rw [decide_eq_false I]
  refine jB r (jB r (jB r (s (jZ r r) (s (jT r) (n (kP ?_))))))
  obtain rfl:=sm d
  exact jC r (kT r) ⟨r,(a.ad [] [])⟩
 replace F:=nt F
 rw [F]
 refine jB r (jB r (jB r (s (jZ r r) (s (jY r) (jB r (jB r (jB r (s (jZ r r) (s (jT r) (n (kP ?_)))))))))))
 obtain rfl:=sm d
 exact jC r (kT r) ⟨r,(a.ad [] [])⟩
def BU (m:BA→(List Int)→Option (Bool)):Prop:=∀ {c:World} {h:Nat→Prop} {e:BA} {d:(List Int)} {a:Option Addr} {b:Nat} {f:Bool},Pre c h [] [.l a b d]→m e d=some f→
 Calls Try.prog 7 #[T e,Z a d b] c (rA fun v w=>v=.bool f∧Bx c w h (lT []) [] [])
def rP (fu:Nat)(a:BA):Option (Ld (BA) (Bool)):=
 if 3000 < (a.size:Int) then
  (MK a 0 3000).bind fun b=>
  some (.go b)
 else
  some (.go a)
def rG (fu:Nat)(h:BA) (i:(List Int)):Option (Bool):=
 (rP fu h).bind fun j=>j.el (fun b=>
 (wo fu b).bind fun c=>
 if c=true then
  (zo fu i).bind fun d=>
  (Al fu d).bind fun e=>
  (wo fu e).bind fun f=>
  if f=true then
   (AA fu).bind fun a=>
   some a
  else
   some false
 else
  some false
 ) (fun o=>some o)
theorem BV (fu:Nat):BU (rG fu):=by
 intro I a1 B t d e S C b
 unfold rG at b
 have a:=C.bx
 clear C
 generalize U:lT _=G at a ⊢
 refine cf Try.func7 r (l8 [(0,T B),(1,Z d t e)] ⟨r,r,y⟩ fun a2=>q (g (s (jT r) (n (q ?_)))))
 obtain ⟨J,c,b⟩:=bs b
 refine oG (fun f w=>∃ (h:BA),Has f [(0,T h),(1,Z d t e)]∧Bx I w a1 G [] [.l d e t]∧Ld.go h=J) (fun W j=>?_) ?_
 ·unfold rP at c
  refine q (g (s (lh r) (s (BN uk r) (s (vD r r) (n ?_)))))
  rcases iv c with ⟨u,c⟩|⟨u,c⟩
  ·refine jH (bt u) (g (s (lh r) ?_))
   obtain ⟨K,v,c⟩:=bs c
   exact s (TE uk r r v) (s (mZ r) (n (j _ _ ⟨K,⟨r,r,y⟩,a,sm c⟩)))
  exact jI (bf u) (wk (j _ _ ⟨B,⟨r,r,y⟩,a,sm c⟩))
 clear a
 rintro f w ⟨h,hf,a,x⟩
 obtain ⟨a2,rfl⟩:=gP _ _ hf
 clear hf
 subst x
 replace b:=gi b
 refine q (g (s (lh r) ?_))
 obtain ⟨D,L,b⟩:=bs b
 have hc:=(CO fu) (a.pr [] [] [] r)  L
 refine sc (ec Qt r) hc ?_
 rintro _ X ⟨rfl,i⟩
 replace a:=a.cn [] [] i
 refine s (jY r) ?_
 rcases iv b with ⟨k,b⟩|⟨k,b⟩
 ·rw [k]
  refine jW r (s (mH r) ?_)
  obtain ⟨E,M,b⟩:=bs b
  refine jW r ?_
  have hc:=(Jt fu) (a.pr [] [] [0] r)  M
  refine sc (ec UG r) hc ?_
  rintro _ Y ⟨m,o,rfl,i⟩
  replace a:=a.cn [] [] i
  obtain ⟨F,N,b⟩:=bs b
  refine jW r ?_
  have hc:=(KI fu) (a.pr [] [] [0] r)  N
  refine sc (ec UJ r) hc ?_
  rintro _ w7 ⟨rfl,i⟩
  replace a:=a.cn [] [] i
  obtain ⟨H,Q,b⟩:=bs b
  refine jW r ?_
  have hc:=(CO fu) (a.pr [] [] [] r)  Q
  refine sc (ec Qt r) hc ?_
  rintro _ w8 ⟨rfl,i⟩
  replace a:=a.cn [] [] i
  refine s (jO r r) (s (jY r) ?_)
  rcases iv b with ⟨p,b⟩|⟨p,b⟩
  ·rw [p]
   obtain ⟨z,A,b⟩:=bs b
   refine jW r ?_
   have hc:=(JU fu) (a.pr [] [] [] r)  A
   refine sc (ec Ut r) hc ?_
   rintro _ R ⟨rfl,i⟩
   replace a:=a.cn [] [] i
   refine s (jO r r) (s (jT r) (n (kP ?_)))
   obtain rfl:=sm b
   exact jC r (kT r) ⟨r,(a.dp [])⟩
  replace p:=nt p
  rw [p]
  refine jB r (s (jZ r r) (s (jT r) (n (kP ?_))))
  obtain rfl:=sm b
  exact jC r (kT r) ⟨r,(a.dp [])⟩
 replace k:=nt k
 rw [k]
 refine jB r (jB r (jB r (jB r (s (jZ r r) (s (jY r) (jB r (s (jZ r r) (s (jT r) (n (kP ?_))))))))))
 obtain rfl:=sm b
 exact jC r (kT r) ⟨r,(a.dp [])⟩
end
end Go.Proofs.Ytfglbdkfnphjgaa
