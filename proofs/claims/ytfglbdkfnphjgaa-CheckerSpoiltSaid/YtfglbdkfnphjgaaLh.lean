/- Contracts, printed by gen3.py. -/
import Derived.Test.YtfglbdkfnphjgaaZt
import Derived.Test.YtfglbdkfnphjgaaLb
import Derived.Test.YtfglbdkfnphjgaaLc
import Derived.Test.YtfglbdkfnphjgaaLd
import Derived.Test.YtfglbdkfnphjgaaLg
import Derived.Test.YtfglbdkfnphjgaaLi
import Derived.Test.YtfglbdkfnphjgaaLj
set_option linter.unusedVariables false
set_option maxHeartbeats 12800000
set_option linter.unusedSimpArgs false
set_option maxRecDepth 4000
namespace Go.Proofs.Ytfglbdkfnphjgaa
open Go.RowKit Go.Fw
noncomputable section
def KJ (m:(List Int)→Option (BA)):Prop:=∀ {c:World} {f:Nat→Prop} {d:(List Int)} {a:Option Addr} {b:Nat} {e:BA},Pre c f [] [.l a b d]→m d=some e→
 Calls Try.prog 26 #[Z a d b] c (rf fun v w=>v=T e∧Bx c w f (lT []) [] [])
def Ah (fu:Nat)(c:(List Int)):Option (BA):=
 (wG fu c).bind fun a=>
 (zI fu a).bind fun b=>
 some b
theorem LG (fu:Nat):KJ (Ah fu):=by
 intro u A o b c v k d
 unfold Ah at d
 have a:=k.bx
 clear k
 generalize w:lT _=G at a ⊢
 refine cf Try.func26 r (ma [(0,Z b o c)] ⟨r,y⟩ fun B=>q (g (s (mZ r) (n (q (g (s (mD r) ?_)))))))
 obtain ⟨l,p,d⟩:=bs d
 have hc:=(GH fu) (a.pr [] [] [0] r)  p
 refine sc (ec TC r) hc ?_
 rintro _ x ⟨e,f,h,i,rfl,j⟩
 replace a:=a.cn [] [] j
 obtain ⟨m,t,d⟩:=bs d
 have hc:=(JO fu) (a.pr [] [] [0,1] r)  t
 refine sc (ec Uf r) hc ?_
 rintro _ z ⟨rfl,j⟩
 replace a:=a.cn [] [] j
 refine s (mZ r) (n (kP ?_))
 obtain rfl:=sm d
 exact jC r (kT r) ⟨r,(a.dp [])⟩
def Ju (m:Option (Bool)):Prop:=∀ {a:World} {c:Nat→Prop}  {b:Bool},Pre a c [] []→m=some b→
 Calls Try.prog 28 #[] a (rf fun v w=>v=.bool b∧Bx a w c (lT []) [] [])
def AR (fu:Nat):Option (Bool):=
 (xw fu (⟨#[102,117,110,99,32,102,40,97,41,32,123,32,118,97,114,32,116,58,32,105,110,116,59,32,116,32,61,32,97,59,32,125]⟩:BA)).bind fun o=>
 iA o fun f o=>iA o fun j k=>
 (oF fu f).bind fun o=>
 iA o fun a o=>iA o fun l h=>
 if h≠0 then
  some false
 else
  if (a.c.length:Int)≠1 then
   some false
  else
   (ix a.c 0).bind fun m=>
   if (m.length:Int)≠2 then
    some false
   else
    if (a.b.length:Int)≠3 then
     some false
    else
     (Ay fu a (⟨#[102]⟩:BA)).bind fun o=>
     iA o fun b c=>
     (ix m 1).bind fun i=>
     if i.d=1 then
      if i.g=2 then
       (xS fu a 0 0).bind fun d=>
       (Dw fu d ([0]:List Int)).bind fun e=>
       if e=true then
        if b=0 then
         some c
        else
         some false
       else
        some false
      else
       some false
     else
      some false
theorem Jl (fu:Nat):Ju (AR fu):=by
 intro w0 aF r0 hP b
 unfold AR at b
 have a:=hP.bx
 clear hP
 generalize hG:lT _=G at a ⊢
 refine cf Try.func28 r (ma [] y fun aG=>q (g (s (jU r) (n (q (g ?_))))))
 obtain ⟨B,ac,ae,h1,b⟩:=qG b
 have hc:=(DU fu) (a.pr [] [] [] r)  h1
 refine sc (ec QE r) hc ?_
 rintro _ w1 ⟨w,x,z,A,rfl,I⟩
 replace a:=a.cn [] [] I
 refine s pQ (s (jO r r) (s (jO r r) (s (jO r r) (tL a (ko uI) fun w2 b2 a=>lu (nD a 0 [Z w B.a x,Z z B.b A] r uI r r) fun w3 a=>s (xi r) (s (xi r) (n (q (g (s (mE [Z w B.a x,Z z B.b A] BJ uI r (a.bk 0 r)) ?_)))))))))
 obtain ⟨c,ag,ah,h4,b⟩:=qG b
 have hc:=(Bj fu) (a.pr [] [0] [0,1] r)  h4
 refine sc (ec Qz r) hc ?_
 rintro _ w4 ⟨e,f,j,m,o,p,t,u,rfl,I⟩
 replace a:=a.cn [] [0] I
 refine s pQ (s (jO r r) (s (jO r r) (s (jO r r) (tL a (ko zM) fun w5 b5 a=>lu (nD a 0 [Z e c.a.a f,Z j c.a.b m,Z o c.c p,Z t c.b u] r zM r r) fun w6 a=>s (xi r) (s (xi r) (n (q (q (g (s (mi r) (s (mI r r) (s (jZ r) ?_))))))))))))
 rcases iv b with ⟨h7,b⟩|⟨h7,b⟩
 ·rw [decide_eq_true h7]
  refine jB r (jB r (jB r (jB r (s (jN r r) (s (jZ r) (jB r (jB r (jB r (jB r (jB r (jB r (s (jN r r) (s (jZ r) (jB r (jB r (jB r (jB r (s (jN r r) (n (jH r (q (g (s (jU r) (n (kP ?_)))))))))))))))))))))))))
  obtain rfl:=sm b
  exact jC r (kT r) ⟨r,(a.ad [] [])⟩
 rw [decide_eq_false h7]
 refine jQ r (s (vV r) (jQ r (s (Ih r (a.bk 0 r) r) (jQ r (s (lg Bd r) (jQ r (s (mI r r) (s (jX r r) (s (jZ r) ?_)))))))))
 rcases iv b with ⟨h8,b⟩|⟨h8,b⟩
 ·rw [decide_eq_true h8]
  refine jB r (jB r (jB r (jB r (jB r (jB r (s (jN r r) (s (jZ r) (jB r (jB r (jB r (jB r (s (jN r r) (n (jH r (q (g (s (jU r) (n (kP ?_)))))))))))))))))))
  obtain rfl:=sm b
  exact jC r (kT r) ⟨r,(a.ad [] [])⟩
 rw [decide_eq_false h8]
 refine jQ r (s (vV r) (jQ r (s (Ih r (a.bk 0 r) r) ?_)))
 obtain ⟨e9,D,b⟩:=bs b
 obtain ⟨k9,K,D⟩:=kG D
 obtain ⟨ai,a0,a⟩:=a.nm 2 rfl D
 obtain ⟨L,M,rfl,N⟩:=a0
 replace a:=a.ku (d:=.l L M e9) N
 refine jQ r (s (kZ Bd Br r r K (a.dl 4 r) D) (jQ r (s (kz uZ r r ((a.dc 1 r) 0 _ r)) (jQ r (s (lg uZ r) (jQ r (s (mI r r) (s (jX r r) (s (jZ r) ?_)))))))))
 rcases iv b with ⟨Q,b⟩|⟨Q,b⟩
 ·rw [decide_eq_true Q]
  refine jB r (jB r (jB r (jB r (s (jN r r) (n (jH r (q (g (s (jU r) (n (kP ?_)))))))))))
  obtain rfl:=sm b
  exact jC r (kT r) ⟨r,(a.ad [] [])⟩
 rw [decide_eq_false Q]
 refine jQ r (s (zT r) (jQ r (s (MJ r (a.bk 0 r) r) (jQ r (s (lg Ca r) (jQ r (s (mI r r) (s (jX r r) (n ?_)))))))))
 rcases iv b with ⟨R,b⟩|⟨R,b⟩
 ·refine jH (bt R) (q (g (s (jU r) (n (kP ?_)))))
  obtain rfl:=sm b
  exact jC r (kT r) ⟨r,(a.ad [] [])⟩
 refine jI (bf R) (wk (q (g (s (mE [Z e c.a.a f,Z j c.a.b m,Z o c.c p,Z t c.b u] G6 zM r (a.bk 0 r)) ?_))))
 obtain ⟨a3,a4,a5,b⟩:=lV b
 have hc:=(Fq fu) (a.pr [] [0,1] [2,3,4,5] r)  a5
 refine sc (ec Tp r) hc ?_
 rintro _ an ⟨rfl,I⟩
 replace a:=a.cn [] [0,1] I
 refine s pQ (s (jO r r) (s (jO r r) (s (xi r) (s (jU r) (n (q (g (s (vV r) (s (Ih r (a.bk 0 r) r) (s (kZ Bd Br r r K (a.dl 4 r) D) (s (kz uZ r r ((a.dc 1 r) 0 _ r)) ?_)))))))))))
 obtain ⟨v,C,b⟩:=bs b
 obtain ⟨ao,J,C⟩:=kG C
 refine s (kZ uZ wz r r J (a.dl 0 r) C) (s (NZ r) (s (kz EU r r ((vo (ds:=[T v.a,V v.e,V v.b,V v.f,.bool v.c,V v.d,V v.g]) (a.dl 0 r) C (fun _ h=>h)) 5 _ r)) (s (kK r r) (s (jZ r) ?_))))
 rcases iv b with ⟨S,b⟩|⟨S,b⟩
 ·rw [decide_eq_true S]
  refine jQ r (s (vV r) (jQ r (s (Ih r (a.bk 0 r) r) (jQ r (s (kZ Bd Br r r K (a.dl 4 r) D) (jQ r (s (kz uZ r r ((a.dc 1 r) 0 _ r)) (jQ r (s (kZ uZ wz r r J (a.dl 0 r) C) (jQ r (s (IY r) (jQ r (s (kz EU r r ((vo (ds:=[T v.a,V v.e,V v.b,V v.f,.bool v.c,V v.d,V v.g]) (a.dl 0 r) C (fun _ h=>h)) 6 _ r)) (jQ r (s (kK r r) (s (jN r r) (s (jZ r) ?_)))))))))))))))))
  rcases iv b with ⟨U,b⟩|⟨U,b⟩
  ·rw [decide_eq_true U]
   refine jQ r (s (mE [Z e c.a.a f,Z j c.a.b m,Z o c.c p,Z t c.b u] G6 zM r (a.bk 0 r)) ?_)
   obtain ⟨W,a6,b⟩:=bs b
   refine jQ r ?_
   have hc:=(Dy fu) (a.pr [] [0,1] [2,3,4,5] r)  a6
   refine sc (ec Uz r) hc ?_
   rintro _ ap ⟨E,F,Y,rfl,I⟩
   have a7:=a.rX.size
   replace a:=a.cn [] [0,1] I
   replace a:=a.rb 0 w0.heap.size r a7
   refine jQ r (qF (jV a [[V 0]] ([0]:List Int) (Cq r) r r (by decide) ⟨r,y⟩) ?_)
   rintro _ aq ⟨a8,rfl,a⟩
   obtain ⟨a9,aa,b⟩:=bs b
   refine jQ r ?_
   have hc:=(KZ fu) (Pre.all (Dc:=[.l E F W,.l (ad a8) 1 ([0]:List Int)]) (IX ((a.vw 1 1 r r)).all (IX ((a.vw 0 0 r r)).all Uy))) aa
   refine sc (ec Uk r) hc ?_
   rintro _ ar ⟨rfl,I⟩
   replace a:=a.ext I.ex
   refine s (jN r r) (s (jZ r) ?_)
   rcases iv b with ⟨H,b⟩|⟨H,b⟩
   ·rw [H]
    refine jQ r (s (mi r) (jQ r (s (kK r r) (s (jN r r) (s (jZ r) ?_)))))
    rcases iv b with ⟨X,b⟩|⟨X,b⟩
    ·rw [decide_eq_true X]
     refine jQ r (s (jZ r) (s (jN r r) (s (jU r) (n (kP ?_)))))
     obtain rfl:=sm b
     exact jC r (kT r) ⟨r,(a.ad [] [])⟩
    rw [decide_eq_false X]
    refine jB r (s (jX r r) (s (jU r) (n (kP ?_))))
    obtain rfl:=sm b
    exact jC r (kT r) ⟨r,(a.ad [] [])⟩
   replace H:=nt H
   rw [H]
   refine jB r (jB r (s (jX r r) (s (jZ r) (jB r (s (jX r r) (s (jU r) (n (kP ?_))))))))
   obtain rfl:=sm b
   exact jC r (kT r) ⟨r,(a.ad [] [])⟩
  rw [decide_eq_false U]
  refine jB r (jB r (jB r (jB r (s (jX r r) (s (jZ r) (jB r (jB r (s (jX r r) (s (jZ r) (jB r (s (jX r r) (s (jU r) (n (kP ?_))))))))))))))
  obtain rfl:=sm b
  exact jC r (kT r) ⟨r,(a.ad [] [])⟩
 rw [decide_eq_false S]
 refine jB r (jB r (jB r (jB r (jB r (jB r (jB r (jB r (s (jX r r) (s (jZ r) (jB r (jB r (jB r (jB r (s (jX r r) (s (jZ r) (jB r (jB r (s (jX r r) (s (jZ r) (jB r (s (jX r r) (s (jU r) (n (kP ?_))))))))))))))))))))))))
 obtain rfl:=sm b
 exact jC r (kT r) ⟨r,(a.ad [] [])⟩
def Io (m:BA→Option (Bool)):Prop:=∀ {a:World} {d:Nat→Prop} {b:BA}  {c:Bool},Pre a d [] []→m b=some c→
 Calls Try.prog 25 #[T b] a (rf fun v w=>v=.bool c∧Bx a w d (lT []) [] [])
def xY (fu:Nat)(l:BA):Option (Bool):=
 (xw fu l).bind fun m=>
 iA m fun a m=>iA m fun k c=>
 if c≠0 then
  some true
 else
  (oF fu a).bind fun m=>
  iA m fun d m=>iA m fun e f=>
  (uO fu a).bind fun m=>
  iA m fun h m=>iA m fun i j=>
  (vg fu d h).bind fun b=>
  if b=true then
   if e=i then
    some (decide (f=j))
   else
    some false
  else
   some false
theorem H5 (fu:Nat):Io (xY fu):=by
 intro w0 aj Y r0 N d
 unfold xY at d
 have a:=N.bx
 clear N
 generalize hG:lT _=G at a ⊢
 refine cf Try.func25 r (ma [(0,T Y)] ⟨r,y⟩ fun ak=>q (g (s (jU r) (n (q (g (s (lc r) ?_)))))))
 obtain ⟨j,Q,R,h1,d⟩:=qG d
 have hc:=(DU fu) (a.pr [] [] [] r)  h1
 refine sc (ec QE r) hc ?_
 rintro _ w1 ⟨e,f,h,i,rfl,H⟩
 replace a:=a.cn [] [] H
 refine s pQ (s (jO r r) (s (jO r r) (s (jO r r) (tL a (ko uI) fun w2 b2 a=>lu (nD a 0 [Z e j.a f,Z h j.b i] r uI r r) fun w3 a=>s (xi r) (s (xi r) (n (q (q (g (s (mi r) (s (mI r r) (n ?_))))))))))))
 rcases iv d with ⟨J,d⟩|⟨J,d⟩
 ·refine jH (bt J) (q (g (s (jU r) (n (kP ?_)))))
  obtain rfl:=sm d
  exact jC r (kT r) ⟨r,(a.ad [] [])⟩
 refine jI (bf J) (wk (q (g (s (mE [Z e j.a f,Z h j.b i] BJ uI r (a.bk 0 r)) ?_))))
 obtain ⟨b,S,U,h5,d⟩:=qG d
 have hc:=(Bj fu) (a.pr [] [0] [0,1] r)  h5
 refine sc (ec Qz r) hc ?_
 rintro _ w5 ⟨k,l,m,o,p,t,u,v,rfl,H⟩
 replace a:=a.cn [] [0] H
 refine s pQ (s (jO r r) (s (jO r r) (s (jO r r) (tL a (ko zM) fun w6 b6 a=>lu (nD a 0 [Z k b.a.a l,Z m b.a.b o,Z p b.c t,Z u b.b v] r zM r r) fun w7 a=>s (xi r) (s (xi r) (n (q (g (s (mE [Z e j.a f,Z h j.b i] BJ uI r (a.bk 1 r)) ?_)))))))))
 obtain ⟨c,W,X,h8,d⟩:=qG d
 have hc:=(JV fu) (a.pr [] [0,1] [4,5] r)  h8
 refine sc (ec Ut r) hc ?_
 rintro _ w8 ⟨w,x,z,A,B,C,D,E,rfl,H⟩
 replace a:=a.cn [] [0,1] H
 refine s pQ (s (jO r r) (s (jO r r) (s (jO r r) (tL a (ko zM) fun w9 b9 a=>lu (nD a 0 [Z w c.a.a x,Z z c.a.b A,Z B c.c C,Z D c.b E] r zM r r) fun a3 a=>s (xi r) (s (xi r) (n (q (g (s (mE [Z k b.a.a l,Z m b.a.b o,Z p b.c t,Z u b.b v] G6 zM r (a.bk 1 r)) (s (mE [Z w c.a.a x,Z z c.a.b A,Z B c.c C,Z D c.b E] G6 zM r (a.bk 0 r)) ?_))))))))))
 obtain ⟨L,M,d⟩:=bs d
 have hc:=(Gz fu) (a.pr [] [0,1,2] [4,5,6,7,0,1,2,3] r)  M
 refine sc (ec UE r) hc ?_
 rintro _ a4 ⟨rfl,H⟩
 replace a:=a.cn [] [0,1,2] H
 refine s (jZ r) ?_
 rcases iv d with ⟨F,d⟩|⟨F,d⟩
 ·rw [F]
  refine jQ r (s (mi r) (jQ r (s (mi r) (jQ r (s (kK r r) (s (jN r r) (s (jZ r) ?_)))))))
  rcases iv d with ⟨I,d⟩|⟨I,d⟩
  ·rw [decide_eq_true I]
   refine jQ r (s (mi r) (jQ r (s (mi r) (jQ r (s (kK r r) (s (jN r r) (s (jU r) (n (kP ?_)))))))))
   obtain rfl:=sm d
   exact jC r (kT r) ⟨r,(a.ad [] [])⟩
  rw [decide_eq_false I]
  refine jB r (jB r (jB r (s (jX r r) (s (jU r) (n (kP ?_))))))
  obtain rfl:=sm d
  exact jC r (kT r) ⟨r,(a.ad [] [])⟩
 replace F:=nt F
 rw [F]
 refine jB r (jB r (jB r (s (jX r r) (s (jZ r) (jB r (jB r (jB r (s (jX r r) (s (jU r) (n (kP ?_)))))))))))
 obtain rfl:=sm d
 exact jC r (kT r) ⟨r,(a.ad [] [])⟩
def Cf (m:(List Int)→Int→Int→Option (Bool)):Prop:=∀ {c:World} {i:Nat→Prop} {d:(List Int)} {e:Int} {f:Int} {a:Option Addr} {b:Nat} {h:Bool},Pre c i [] [.l a b d]→m d e f=some h→
 Calls Try.prog 8 #[Z a d b,V e,V f] c (rf fun v w=>v=.bool h∧Bx c w i (lT []) [] [])
def rQ (fu:Nat)(a:BA) (b:Int):Option (Ld (Bool) (Bool)):=
 if b < (a.size:Int) then
  (AQ a b).bind fun c=>
  if c < 97 then
   some (.go true)
  else
   (AQ a b).bind fun d=>
   some (.go (decide (122 < d)))
 else
  some (.go false)
def oH (fu:Nat)(b:BA):Nat→Int→Option (Ld (Int) (Bool))
 | 0,_=>none
 | d+1,a=>
 (rQ fu b a).bind fun e=>e.el (fun c=>
 if c=true then
  oH fu b d (wr (a+1))
 else
  some (.go a)
 ) (fun o=>some (.out o))
def rY (fu:Nat)(b:BA) (a:Int):Option (Ld (Bool) (Bool)):=
 if a < (b.size:Int) then
  (AQ b a).bind fun c=>
  if 97≤c then
   (AQ b a).bind fun d=>
   if d≤122 then
    some (.go true)
   else
    (AQ b a).bind fun e=>
    if 48≤e then
     (AQ b a).bind fun f=>
     some (.go (decide (f≤57)))
    else
     some (.go false)
  else
   (AQ b a).bind fun h=>
   if 48≤h then
    (AQ b a).bind fun i=>
    some (.go (decide (i≤57)))
   else
    some (.go false)
 else
  some (.go false)
def oI (fu:Nat)(b:BA):Nat→Int→Option (Ld (Int) (Bool))
 | 0,_=>none
 | d+1,a=>
 (rY fu b a).bind fun e=>e.el (fun c=>
 if c=true then
  oI fu b d (wr (a+1))
 else
  some (.go a)
 ) (fun o=>some (.out o))
def rG (fu:Nat)(t:(List Int)) (u:Int)(v:Int):Option (Bool):=
 (zJ fu t).bind fun h=>
 (Ah fu h).bind fun a=>
 (yK fu u (wr ((a.size:Int)+1))).bind fun i=>
 (oH fu a fu i).bind fun w=>w.el (fun b=>
 (oI fu a fu b).bind fun w=>w.el (fun c=>
 (KA a 0 b).bind fun j=>
 (KA a c (a.size:Int)).bind fun k=>
 (yK fu v ((([(⟨#[97]⟩:BA),(⟨#[118,49]⟩:BA),(⟨#[118,50]⟩:BA),(⟨#[118,51]⟩:BA),(⟨#[102]⟩:BA),(⟨#[103]⟩:BA),(⟨#[122,122]⟩:BA),(⟨#[80]⟩:BA),(⟨#[120]⟩:BA),(⟨#[105,110,116]⟩:BA),(⟨#[118,49,46,120]⟩:BA),(⟨#[118,50,91,48,93]⟩:BA),(⟨#[118,51,46,122]⟩:BA),(⟨#[102,40,49,41]⟩:BA),(⟨#[121]⟩:BA),(⟨#[97,46,120]⟩:BA)]:List BA).length:Nat):Int)).bind fun d=>
 (ix ([(⟨#[97]⟩:BA),(⟨#[118,49]⟩:BA),(⟨#[118,50]⟩:BA),(⟨#[118,51]⟩:BA),(⟨#[102]⟩:BA),(⟨#[103]⟩:BA),(⟨#[122,122]⟩:BA),(⟨#[80]⟩:BA),(⟨#[120]⟩:BA),(⟨#[105,110,116]⟩:BA),(⟨#[118,49,46,120]⟩:BA),(⟨#[118,50,91,48,93]⟩:BA),(⟨#[118,51,46,122]⟩:BA),(⟨#[102,40,49,41]⟩:BA),(⟨#[121]⟩:BA),(⟨#[97,46,120]⟩:BA)]:List BA) d).bind fun l=>
 (qw j l).bind fun m=>
 (qw m k).bind fun p=>
 (xY fu p).bind fun e=>
 if e=true then
  (AR fu).bind fun f=>
  some f
 else
  some false
 ) (fun o=>some o)
 ) (fun o=>some o)
theorem Ct (fu:Nat):Cf (rG fu):=by
 intro M b7 x0 x1 B C D r0 hP i
 unfold rG at i
 have b:=hP.bx
 clear hP
 generalize hG:lT _=G at b ⊢
 refine cf Try.func8 r (ma [(0,Z C x0 D),(1,V x1),(2,V B)] ⟨r,r,r,y⟩ fun b8=>q (g (s (jU r) (n (q (g (s (mD r) ?_)))))))
 obtain ⟨ay,h1,i⟩:=bs i
 have hc:=(Jn fu) (b.pr [] [] [0] r)  h1
 refine sc (ec UQ r) hc ?_
 rintro _ w1 ⟨N,Q,rfl,u⟩
 replace b:=b.cn [] [] u
 obtain ⟨m,h2,i⟩:=bs i
 have hc:=(LG fu) (b.pr [] [] [0] r)  h2
 refine sc (ec UM r) hc ?_
 rintro _ w2 ⟨rfl,u⟩
 replace b:=b.cn [] [] u
 refine s (mZ r) (n (q (g (s (mi r) (s (lc r) (s (Be rH r) (s (kN r r) ?_)))))))
 obtain ⟨R,h3,i⟩:=bs i
 have hc:=(Dz fu) (b.pr [] [] [] r)  h3
 refine sc (ec N9 r) hc ?_
 rintro _ w3 ⟨rfl,u⟩
 replace b:=b.cn [] [] u
 refine s (xi r) (n (q ?_))
 obtain ⟨Y4,j,i⟩:=bs i
 refine oC (fun f w=>∃ (c:Int),Has f [(2,V B),(7,T m),(8,V c)]∧Bx M w b7 G [] []∧Ld.go c=Y4) (fun J4 ab=>?_) ?_
 ·refine nZ (kH (fun b9 f w=>∃ (c:Int),Has f [(2,V B),(7,T m),(8,V c)]∧Bx M w b7 G [] []∧oH fu m b9 c=some Y4) fu ⟨R,⟨r,r,r,y⟩,(b.dp []),j⟩ ?_)
  clear b j
  rintro n4 f w ⟨c,hf,b,j⟩ K4 ae
  obtain ⟨b8,rfl⟩:=gP _ _ hf
  clear hf
  cases n4 with
  | zero=>exact nn j
  | succ n4=>
   rw [oH] at j
   refine q (q ?_)
   obtain ⟨Y5,k,j⟩:=bs j
   refine oC (fun f w=>∃ (v:Bool),Has f [(2,V B),(7,T m),(8,V c),(34,.bool v)]∧Bx M w b7 G [] []∧Ld.go v=Y5) (fun J5 E=>?_) ?_
   ·unfold rQ at k
    refine g (s (mi r) (s (lc r) (s (Be rH r) (s (qB r r) (s (jZ r) ?_)))))
    rcases iv k with ⟨h6,k⟩|⟨h6,k⟩
    ·rw [decide_eq_true h6]
     refine jQ r (s (lc r) (jQ r (s (mi r) ?_)))
     obtain ⟨g7,ag,k⟩:=bs k
     refine jQ r (s (BB rH r r ag) (jQ r (s (qB r r) (jQ r (s (jZ r) ?_)))))
     rcases iv k with ⟨h8,k⟩|⟨h8,k⟩
     ·rw [decide_eq_true h8]
      exact jB r (jB r (jB r (jB r (jQ r (s (jN r r) (s (jN r r) (n (E _ _ ⟨true,⟨r,r,r,r,y⟩,b,sm k⟩))))))))
     rw [decide_eq_false h8]
     refine jQ r (s (lc r) (jQ r (s (mi r) ?_)))
     obtain ⟨g9,ai,k⟩:=bs k
     exact jQ r (s (BB rH r r ai) (jQ r (s (vG r r) (jQ r (s (jX r r) (s (jN r r) (n (E _ _ ⟨(decide (122 < g9)),⟨r,r,r,r,y⟩,b,sm k⟩))))))))
    rw [decide_eq_false h6]
    exact jB r (jB r (jB r (jB r (jB r (jB r (jB r (jB r (jB r (jB r (s (jX r r) (n (E _ _ ⟨false,⟨r,r,r,r,y⟩,b,sm k⟩))))))))))))
   clear b
   rintro f w ⟨v,hf,b,aj⟩
   obtain ⟨b8,rfl⟩:=gP _ _ hf
   clear hf
   subst aj
   replace j:=gi j
   rcases iv j with ⟨x,j⟩|⟨x,j⟩
   ·exact jH (cb x) (wk (nZ (g (s (mi r) (s (kN r r) (s (xi r) (n (ae n4 _ _ (Nat.lt_succ_self _) ⟨(wr (c+1)),⟨r,r,r,y⟩,b,j⟩))))))))
   replace x:=nt x
   exact jI (cb x) (uW (ab _ _ ⟨c,⟨r,r,r,y⟩,b,sm j⟩))
 clear b
 rintro f w ⟨c,hf,b,ak⟩
 obtain ⟨b8,rfl⟩:=gP _ _ hf
 clear hf
 subst ak
 replace i:=gi i
 refine q (g (s (mi r) (s (xi r) (n (q ?_)))))
 obtain ⟨S,d,i⟩:=bs i
 refine oC (fun f w=>∃ (e:Int),Has f [(2,V B),(7,T m),(8,V c),(9,V e)]∧Bx M w b7 G [] []∧Ld.go e=S) (fun aH U=>?_) ?_
 ·refine nZ (kH (fun b9 f w=>∃ (e:Int),Has f [(2,V B),(7,T m),(8,V c),(9,V e)]∧Bx M w b7 G [] []∧oI fu m b9 e=some S) fu ⟨c,⟨r,r,r,r,y⟩,b,d⟩ ?_)
  clear b d
  rintro F f w ⟨e,hf,b,d⟩ aI W
  obtain ⟨b8,rfl⟩:=gP _ _ hf
  clear hf
  cases F with
  | zero=>exact nn d
  | succ F=>
   rw [oI] at d
   refine q (q ?_)
   obtain ⟨al,a,d⟩:=bs d
   refine oC (fun f w=>∃ (p:Bool),Has f [(2,V B),(7,T m),(8,V c),(9,V e),(65,.bool p)]∧Bx M w b7 G [] []∧Ld.go p=al) (fun aJ o=>?_) ?_
   ·unfold rY at a
    refine g (s (mi r) (s (lc r) (s (Be rH r) (s (qB r r) (s (jZ r) ?_)))))
    rcases iv a with ⟨H,a⟩|⟨H,a⟩
    ·rw [decide_eq_true H]
     refine jQ r (s (lc r) (jQ r (s (mi r) ?_)))
     obtain ⟨aK,X,a⟩:=bs a
     refine jQ r (s (BB rH r r X) (jQ r (s (Bi r r) (jQ r (s (jZ r) ?_)))))
     rcases iv a with ⟨I,a⟩|⟨I,a⟩
     ·rw [decide_eq_true I]
      refine jQ r (s (lc r) (jQ r (s (mi r) ?_)))
      obtain ⟨aL,Y,a⟩:=bs a
      refine jQ r (s (BB rH r r Y) (jQ r (s (JD r r) (jQ r (s (jN r r) (jQ r (s (jZ r) ?_)))))))
      rcases iv a with ⟨J,a⟩|⟨J,a⟩
      ·rw [decide_eq_true J]
       exact jB r (jB r (jB r (jB r (jB r (jB r (jB r (jB r (jB r (jB r (jQ r (s (jN r r) (s (jN r r) (n (o _ _ ⟨true,⟨r,r,r,r,r,y⟩,b,sm a⟩))))))))))))))
      rw [decide_eq_false J]
      refine jQ r (s (lc r) (jQ r (s (mi r) ?_)))
      obtain ⟨aM,a0,a⟩:=bs a
      refine jQ r (s (BB rH r r a0) (jQ r (s (Bi r r) (jQ r (s (jZ r) ?_)))))
      rcases iv a with ⟨K,a⟩|⟨K,a⟩
      ·rw [decide_eq_true K]
       refine jQ r (s (lc r) (jQ r (s (mi r) ?_)))
       obtain ⟨am,a1,a⟩:=bs a
       exact jQ r (s (BB rH r r a1) (jQ r (s (JD r r) (jQ r (s (jN r r) (jQ r (s (jX r r) (s (jN r r) (n (o _ _ ⟨(decide (am≤57)),⟨r,r,r,r,r,y⟩,b,sm a⟩))))))))))
      rw [decide_eq_false K]
      exact jB r (jB r (jB r (jB r (jQ r (s (jX r r) (jQ r (s (jX r r) (s (jN r r) (n (o _ _ ⟨false,⟨r,r,r,r,r,y⟩,b,sm a⟩))))))))))
     rw [decide_eq_false I]
     refine jB r (jB r (jB r (jB r (jQ r (s (jX r r) (jQ r (s (jZ r) (jQ r (s (lc r) (jQ r (s (mi r) ?_)))))))))))
     obtain ⟨aN,a2,a⟩:=bs a
     refine jQ r (s (BB rH r r a2) (jQ r (s (Bi r r) (jQ r (s (jZ r) ?_)))))
     rcases iv a with ⟨L,a⟩|⟨L,a⟩
     ·rw [decide_eq_true L]
      refine jQ r (s (lc r) (jQ r (s (mi r) ?_)))
      obtain ⟨an,a3,a⟩:=bs a
      exact jQ r (s (BB rH r r a3) (jQ r (s (JD r r) (jQ r (s (jN r r) (jQ r (s (jX r r) (s (jN r r) (n (o _ _ ⟨(decide (an≤57)),⟨r,r,r,r,r,y⟩,b,sm a⟩))))))))))
     rw [decide_eq_false L]
     exact jB r (jB r (jB r (jB r (jQ r (s (jX r r) (jQ r (s (jX r r) (s (jN r r) (n (o _ _ ⟨false,⟨r,r,r,r,r,y⟩,b,sm a⟩))))))))))
    rw [decide_eq_false H]
    exact jB r (jB r (jB r (jB r (jB r (jB r (jB r (jB r (jB r (jB r (jB r (jB r (jB r (jB r (jB r (jB r (jB r (jB r (jB r (jB r (jB r (jB r (s (jX r r) (n (o _ _ ⟨false,⟨r,r,r,r,r,y⟩,b,sm a⟩))))))))))))))))))))))))
   clear b
   rintro f w ⟨p,hf,b,a4⟩
   obtain ⟨b8,rfl⟩:=gP _ _ hf
   clear hf
   subst a4
   replace d:=gi d
   rcases iv d with ⟨z,d⟩|⟨z,d⟩
   ·exact jH (cb z) (wk (nZ (g (s (mi r) (s (kN r r) (s (xi r) (n (W F _ _ (Nat.lt_succ_self _) ⟨(wr (e+1)),⟨r,r,r,r,y⟩,b,d⟩))))))))
   replace z:=nt z
   exact jI (cb z) (uW (U _ _ ⟨e,⟨r,r,r,r,y⟩,b,sm d⟩))
 clear b
 rintro f w ⟨e,hf,b,a5⟩
 obtain ⟨b8,rfl⟩:=gP _ _ hf
 clear hf
 subst a5
 replace i:=gi i
 refine q (g (qF (jV b [[T (⟨#[97]⟩:BA)],[T (⟨#[118,49]⟩:BA)],[T (⟨#[118,50]⟩:BA)],[T (⟨#[118,51]⟩:BA)],[T (⟨#[102]⟩:BA)],[T (⟨#[103]⟩:BA)],[T (⟨#[122,122]⟩:BA)],[T (⟨#[80]⟩:BA)],[T (⟨#[120]⟩:BA)],[T (⟨#[105,110,116]⟩:BA)],[T (⟨#[118,49,46,120]⟩:BA)],[T (⟨#[118,50,91,48,93]⟩:BA)],[T (⟨#[118,51,46,122]⟩:BA)],[T (⟨#[102,40,49,41]⟩:BA)],[T (⟨#[121]⟩:BA)],[T (⟨#[97,46,120]⟩:BA)]] ([(⟨#[97]⟩:BA),(⟨#[118,49]⟩:BA),(⟨#[118,50]⟩:BA),(⟨#[118,51]⟩:BA),(⟨#[102]⟩:BA),(⟨#[103]⟩:BA),(⟨#[122,122]⟩:BA),(⟨#[80]⟩:BA),(⟨#[120]⟩:BA),(⟨#[105,110,116]⟩:BA),(⟨#[118,49,46,120]⟩:BA),(⟨#[118,50,91,48,93]⟩:BA),(⟨#[118,51,46,122]⟩:BA),(⟨#[102,40,49,41]⟩:BA),(⟨#[121]⟩:BA),(⟨#[97,46,120]⟩:BA)]:List BA) (Nt r r r r r r r r r r r r r r r r) r r (by decide) ⟨r,⟨r,⟨r,⟨r,⟨r,⟨r,⟨r,⟨r,⟨r,⟨r,⟨r,⟨r,⟨r,⟨r,⟨r,⟨r,y⟩⟩⟩⟩⟩⟩⟩⟩⟩⟩⟩⟩⟩⟩⟩⟩) ?_))
 rintro _ aO ⟨aP,rfl,b⟩
 refine s (nJ r) (n (q (oJ b [0] [0] [] (by kernel_rfl) ?_)))
 replace b:=b.drew
 have l:=b
 refine pF 0 r (lc r) l (pF 1 r (mi r) l ?_)
 obtain ⟨aQ,a6,i⟩:=bs i
 refine pF 2 r (Uv rH r r a6) l (pF 3 r (mD r) l (pF 4 r (mi r) l (pF 5 r (mD r) l (pF 6 r (lg kL r) l (pF 11 r (lc r) l (pF 12 r (mi r) l ?_))))))
 obtain ⟨aR,a7,i⟩:=bs i
 refine pF 13 r (Tt rH r r a7) l ?_
 obtain ⟨ao,ap,i⟩:=bs i
 have hc:=(Dz fu) (b.pr [] [0] [] r)  ap
 refine hO 7 (oc r r (ec N9 r) hc ?_)
 rintro _ aS ⟨rfl,u⟩
 replace b:=b.cn [] [0] u
 have l:=b
 refine ⟨(sF l),?_⟩
 obtain ⟨aq,t,i⟩:=bs i
 obtain ⟨aT,a8,t⟩:=kG t
 refine pF 8 r (kZ kL pV r r a8 (b.vw 0 0 r r) t) l (tU 9 r (fun _ hS=>kz rH r r ((vo (ds:=[T aq]) (hS.vw 0 0 r r) t (fun _ h=>h)) 0 _ r)) (sF l) ?_)
 obtain ⟨aU,a9,i⟩:=bs i
 refine pF 10 r (l7 r r a9) l ?_
 obtain ⟨aV,aa,i⟩:=bs i
 refine pF 14 r (l7 r r aa) l ?_
 obtain ⟨ar,au,i⟩:=bs i
 have hc:=(H5 fu) (b.pr [] [0] [] r)  au
 refine hO 15 (oc r r (ec Uq r) hc ?_)
 rintro _ aW ⟨rfl,u⟩
 replace b:=b.cn [] [0] u
 have l:=b
 refine ⟨(sF l),(pF 16 r (jZ r) l ?_)⟩
 rcases iv i with ⟨A,i⟩|⟨A,i⟩
 ·rw [A]
  obtain ⟨av,aw,i⟩:=bs i
  have hc:=(Jl fu) (b.pr [] [0] [] r)  aw
  refine hO 17 (oc r r (ec UR r) hc ?_)
  rintro _ aX ⟨rfl,u⟩
  replace b:=b.cn [] [0] u
  have l:=b
  refine ⟨(sF l),(pF 18 r (jN r r) l (pF 19 r (jU r) l (hD (kP ?_))))⟩
  obtain rfl:=sm i
  exact jC r (kT r) ⟨r,(b.ad [] [])⟩
 replace A:=nt A
 rw [A]
 have l:=b
 refine pM 17 r (by kernel_rfl) r (sF l) (pF 18 r (jX r r) l (pF 19 r (jU r) l (hD (kP ?_))))
 obtain rfl:=sm i
 exact jC r (kT r) ⟨r,(b.ad [] [])⟩
end
end Go.Proofs.Ytfglbdkfnphjgaa
