/- Contracts, printed by gen3.py. -/
import Derived.Test.YtfglbdkfnphjgaaZ5
import Derived.Test.YtfglbdkfnphjgaaZ18
import Derived.Test.YtfglbdkfnphjgaaZ24
import Derived.Test.YtfglbdkfnphjgaaLa
import Derived.Test.YtfglbdkfnphjgaaZ19
import Derived.Test.YtfglbdkfnphjgaaZ20
import Derived.Test.YtfglbdkfnphjgaaLt
import Derived.WalkKit
import Derived.ProofKit
import Derived.OpenShut
import Derived.ChangeOld
import Derived.SizedLaws
import Derived.Lib.SmallJoins
import Derived.Deep.Slices
import Derived.Deep.Fields
set_option linter.unusedVariables false
set_option maxHeartbeats 12800000
set_option linter.unusedSimpArgs false
set_option maxRecDepth 4000
namespace Go.Proofs.Ytfglbdkfnphjgaa
open Go.RowKit Go.Fw
noncomputable section
def GA (m:BA→Option (jO)):Prop:=∀ {k:World} {p:Nat→Prop} {o:BA}  {j:jO},Pre k p [] []→m o=some j→
 Calls Try.prog 37 #[T o] k (qW fun v w=>∃ (a:OA)(b:Nat)(c:OA)(d:Nat)(e:OA)(f:Nat)(h:OA)(i:Nat),v=.agg #[Z a j.a.a b,Z c j.a.b d,Z e j.c f,Z h j.b i]∧Bx k w p (lT []) [] [.l a b j.a.a,.l c d j.a.b,.l e f j.c,.l h i j.b])
def AB (fu:Nat)(h:BA):Option (jO):=
 (vQ fu h).bind fun i=>
 jy i fun a i=>jy i fun c d=>
 (sD fu a).bind fun i=>
 jy i fun b i=>jy i fun e f=>
 some b
theorem Hr (fu:Nat):GA (AB fu):=by
 intro H Y C I w u
 unfold AB at u
 have k:=w.bx
 clear w
 generalize J:lT _=G at k ⊢
 refine cf Try.func37 r ?_
 refine lK [(0,T C)] ⟨r,y⟩ fun a0=>?_
 refine q (g (nU (nM k (jV xD)) ?_))
 rintro _ K ⟨L,rfl,k⟩
 refine n (q (g (s (kY r) ?_)))
 obtain ⟨⟨t,x,z⟩,D,u⟩:=bs u
 replace u:=pi u
 replace u:=pi u
 have hc:=(Dz fu) (k.pr [] [0] [] r)  D
 refine sc (ec TA r) hc ?_
 rintro _ M ⟨l,m,o,p,rfl,v⟩
 replace k:=k.cl [] [0] r v r
 try dsimp only [pick,nth,ca,na] at k
 refine s sZ (s (jZ r r) (s (jZ r r) (s (jZ r r) (nU (nM k (jV tX)) ?_))))
 rintro _ N ⟨Q,rfl,k⟩
 refine lg (tb k 0 [Z l t.a m,Z o t.b p] r tX r r r r r (show _=#[Z l t.a m,Z o t.b p] from r)) ?_
 intro R k
 try dsimp only [List.set] at k
 refine s (xi r) (s (xi r) (n (q (g (s (nN [Z l t.a m,Z o t.b p] Cy r tX r r (Cells.part (k.bk 0 r).cells (o2:=0) r)) ?_)))))
 obtain ⟨⟨a,A,B⟩,F,u⟩:=bs u
 replace u:=pi u
 replace u:=pi u
 have hc:=(Dn fu) (k.pr [] [0,1] [0,1] r)  F
 refine sc (ec Tw r) hc ?_
 rintro _ S ⟨b,c,d,e,f,h,i,j,rfl,v⟩
 replace k:=k.cl [] [0,1] r v r
 try dsimp only [pick,nth,ca,na] at k
 refine s sZ (s (jZ r r) (s (jZ r r) (s (jZ r r) (nU (nM k (jV xD)) ?_))))
 rintro _ U ⟨W,rfl,k⟩
 refine lg (tb k 0 [Z b a.a.a c,Z d a.a.b e,Z f a.c h,Z i a.b j] r xD r r r r r (show _=#[Z b a.a.a c,Z d a.a.b e,Z f a.c h,Z i a.b j] from r)) ?_
 intro X k
 try dsimp only [List.set] at k
 refine s (xi r) (s (xi r) (n (q (g (s (nN [Z b a.a.a c,Z d a.a.b e,Z f a.c h,Z i a.b j] Ep r xD r r (Cells.part (k.bk 0 r).cells (o2:=0) r)) (lg (tb k 2 [Z b a.a.a c,Z d a.a.b e,Z f a.c h,Z i a.b j] r xD r r r r r (show _=#[Z b a.a.a c,Z d a.a.b e,Z f a.c h,Z i a.b j] from r)) ?_))))))
 intro w8 k
 try dsimp only [List.set] at k
 refine n (kT ?_)
 obtain rfl:=sm u
 refine jI r (tV r Ep r xD r (k.bk 2 r)) ?_
 exact ⟨b,c,d,e,f,h,i,j,r,(k.ad [] [0,1,2,3])⟩
def JB (m:Option (Bool)):Prop:=∀ {a:World} {c:Nat→Prop}  {b:Bool},Pre a c [] []→m=some b→
 Calls Try.prog 14 #[] a (qW fun v w=>v=.bool b∧Bx a w c (lT []) [] [])
def yP (fu:Nat):Option (Bool):=
 (AB fu (⟨#[102,117,110,99,32,102,40,97,41,32,123,32,97,32,61,32,97,32,43,32,49,59,32,114,101,116,117,114,110,32,97,59,32,125]⟩:BA)).bind fun c=>
 (oz fu c 0 ([4]:List Int) 10 0 10).bind fun i=>
 jy i fun b a=>
 if a.d=0 then
  if a.c=5 then
   if (!a.b)=true then
    if (b.length:Int)=2 then
     (ix b 1).bind fun d=>
     if (d.a.length:Int)=1 then
      (ix d.a 0).bind fun e=>
      if (e.c.length:Int)=1 then
       (ix e.c 0).bind fun f=>
       (ix f.a 0).bind fun h=>
       some (decide (h=5))
      else
       some false
     else
      some false
    else
     some false
   else
    some false
  else
   some false
 else
  some false
theorem CR (fu:Nat):JB (yP fu):=by
 intro w0 aD r0 hP b
 unfold yP at b
 have a:=hP.bx
 clear hP
 generalize hG:lT _=G at a ⊢
 refine cf Try.func14 r ?_
 refine lK [] y fun aE=>?_
 refine q (g (s (kC r) (n (q (g ?_)))))
 obtain ⟨ag,h1,b⟩:=bs b
 have hc:=(Hr fu) (a.pr [] [] [] r)  h1
 refine sc (ec Wx r) hc ?_
 rintro _ w1 ⟨M,N,Q,R,S,U,W,X,rfl,hK⟩
 replace a:=a.cl [] [] r hK r
 try dsimp only [pick,nth,ca,na] at a
 refine nU (jP a [[V 4]] ([4]:List Int) (Ah r) r r (by decide) ⟨r,y⟩) ?_
 rintro _ w2 ⟨b2,rfl,a⟩
 replace a:=a.OO 0 0 r r
 try dsimp only [List.eraseIdx] at a
 obtain ⟨⟨ah,c⟩,h4,b⟩:=bs b
 replace b:=pi b
 have hc:=(tq fu) (a.pr [] [] [1,2,3,4,0] r)  h4
 refine sc (ec LJ r) hc ?_
 rintro _ w4 ⟨Y,a0,f,j,rfl,hK⟩
 replace a:=a.cl [] [] r hK r
 try dsimp only [pick,nth,ca,na] at a
 refine s sZ (s (jZ r r) (s (jZ r r) (nU (nM a (jV BL)) ?_)))
 rintro _ w5 ⟨b5,rfl,a⟩
 refine s (nk r) (lg (tb a 0 [V c.d,.bool c.b,V c.c,Z f c.a j] r BL r r r r r (show _=#[V c.d,.bool c.b,V c.c,Z f c.a j] from r)) ?_)
 intro w6 a
 try dsimp only [List.set] at a
 refine n (q (g (s (Qf r) (s (BM r (a.bk 0 r) r) (s (kD r r) (s (kL r) ?_))))))
 rcases iv b with ⟨h7,b⟩|⟨h7,b⟩
 ·rw [decide_eq_true h7]
  refine kg r (s (O7 r) (kg r (s (l3 r (a.bk 0 r) r) (kg r (s (kD r r) (s (kr r r) (s (kL r) ?_)))))))
  rcases iv b with ⟨h8,b⟩|⟨h8,b⟩
  ·rw [decide_eq_true h8]
   refine kg r (s (TT r) (kg r (s (l4 r (a.bk 0 r) r) (kg r (s (Al r) (s (kr r r) (s (kL r) ?_)))))))
   rcases iv b with ⟨h9,b⟩|⟨h9,b⟩
   ·rw [h9]
    refine kg r (s (nC r) (kg r (s (lX Gz r) (kg r (s (kD r r) (s (kr r r) (s (kL r) ?_)))))))
    rcases iv b with ⟨v,b⟩|⟨v,b⟩
    ·rw [decide_eq_true v]
     refine kg r (s (nC r) ?_)
     obtain ⟨ab,e,b⟩:=bs b
     obtain ⟨an,t,e⟩:=kJ e
     obtain ⟨ai,a2,a⟩:=a.nm 0 rfl e
     obtain ⟨w,x,rfl,z⟩:=kR.out a2
     replace a:=a.ku (d:=.l w x ab.a) z
     refine kg r (s (kW Gz EZ r r t (a.dl 2 r) e) (kg r (s (Ei r) (kg r (s (jT BJ r r ((a.dc 1 r) 0 _ r)) (kg r (s (lX BJ r) (kg r (s (kD r r) (s (kr r r) (s (kL r) ?_)))))))))))
     rcases iv b with ⟨A,b⟩|⟨A,b⟩
     ·rw [decide_eq_true A]
      refine kg r (s (nC r) (kg r (s (kW Gz EZ r r t (a.dl 2 r) e) (kg r (s (Ei r) (kg r (s (jT BJ r r ((a.dc 1 r) 0 _ r)) ?_)))))))
      obtain ⟨ac,m,b⟩:=bs b
      obtain ⟨ao,u,m⟩:=kJ m
      obtain ⟨aj,a3,a⟩:=a.nm 0 rfl m
      obtain ⟨B,C,rfl,D⟩:=p8.out a3
      replace a:=a.ku (d:=.l B C ac.c) D
      refine kg r (s (kW BJ zT r r u (a.dl 2 r) m) (kg r (s (NS r) (kg r (s (jT KE r r ((a.dc 1 r) 2 _ r)) (kg r (s (lX KE r) (kg r (s (kD r r) (s (kr r r) (s (kL r) ?_)))))))))))
      rcases iv b with ⟨E,b⟩|⟨E,b⟩
      ·rw [decide_eq_true E]
       refine kg r (s (nC r) (kg r (s (kW Gz EZ r r t (a.dl 4 r) e) (kg r (s (Ei r) (kg r (s (jT BJ r r ((a.dc 3 r) 0 _ r)) (kg r (s (kW BJ zT r r u (a.dl 2 r) m) (kg r (s (NS r) (kg r (s (jT KE r r ((a.dc 1 r) 2 _ r)) ?_)))))))))))))
       obtain ⟨a4,o,b⟩:=bs b
       obtain ⟨ap,a5,o⟩:=kJ o
       obtain ⟨ak,a6,a⟩:=a.nm 0 rfl o
       obtain ⟨F,H,I,J,rfl,K,L⟩:=pV.out a6
       replace a:=a.ku (d:=.l F H a4.b) K
       replace a:=a.ku (d:=.l I J a4.a) L
       refine kg r (s (kW KE GY r r a5 (a.dl 3 r) o) (kg r (s (Qg r) (kg r (s (jT ug r r ((a.dc 2 r) 2 _ r)) ?_)))))
       obtain ⟨ae,p,b⟩:=bs b
       obtain ⟨aq,a7,p⟩:=kJ p
       refine kg r (s (kW ug nO r r a7 (a.dl 0 r) p) (kg r (s (jT EC r r ((uy (ds:=[V ae]) (a.dl 0 r) p (fun _ h=>h)) 0 _ r)) (kg r (s (kD r r) (s (kr r r) (s (kC r) (n (kT ?_)))))))))
       obtain rfl:=sm b
       refine jI r (lq r) ?_
       exact ⟨r,(a.ad [] [])⟩
      rw [decide_eq_false E]
      refine jC r (jC r (jC r (jC r (jC r (jC r (jC r (jC r (jC r (jC r (jC r (jC r (jC r (s (jY r r) ?_)))))))))))))
      refine s (kC r) (n (kT ?_))
      obtain rfl:=sm b
      refine jI r (lq r) ?_
      exact ⟨r,(a.ad [] [])⟩
     rw [decide_eq_false A]
     refine jC r (jC r (jC r (jC r (jC r (jC r (jC r (jC r (jC r (s (jY r r) (s (kL r) (jC r (jC r (jC r ?_)))))))))))))
     refine jC r (jC r (jC r (jC r (jC r (jC r (jC r (jC r (jC r (jC r (s (jY r r) (s (kC r) (n (kT ?_)))))))))))))
     obtain rfl:=sm b
     refine jI r (lq r) ?_
     exact ⟨r,(a.ad [] [])⟩
    rw [decide_eq_false v]
    refine jC r (jC r (jC r (jC r (jC r (jC r (s (jY r r) (s (kL r) (jC r (jC r (jC r (jC r (jC r (jC r ?_)))))))))))))
    refine jC r (jC r (jC r (s (jY r r) (s (kL r) (jC r (jC r (jC r (jC r (jC r (jC r (jC r (jC r (jC r ?_)))))))))))))
    refine jC r (jC r (jC r (jC r (s (jY r r) (s (kC r) (n (kT ?_)))))))
    obtain rfl:=sm b
    refine jI r (lq r) ?_
    exact ⟨r,(a.ad [] [])⟩
   replace h9:=nt h9
   rw [h9]
   refine jC r (jC r (jC r (s (jY r r) (s (kL r) (jC r (jC r (jC r (jC r (jC r (jC r (s (jY r r) (s (kL r) (jC r ?_)))))))))))))
   refine jC r (jC r (jC r (jC r (jC r (jC r (jC r (jC r (s (jY r r) (s (kL r) (jC r (jC r (jC r (jC r ?_)))))))))))))
   refine jC r (jC r (jC r (jC r (jC r (jC r (jC r (jC r (jC r (s (jY r r) (s (kC r) (n (kT ?_))))))))))))
   obtain rfl:=sm b
   refine jI r (lq r) ?_
   exact ⟨r,(a.ad [] [])⟩
  rw [decide_eq_false h8]
  refine jC r (jC r (jC r (s (jY r r) (s (kL r) (jC r (jC r (jC r (s (jY r r) (s (kL r) (jC r (jC r (jC r (jC r ?_)))))))))))))
  refine jC r (jC r (s (jY r r) (s (kL r) (jC r (jC r (jC r (jC r (jC r (jC r (jC r (jC r (jC r (s (jY r r) ?_)))))))))))))
  refine s (kL r) (jC r (jC r (jC r (jC r (jC r (jC r (jC r (jC r (jC r (jC r (jC r (jC r (jC r ?_)))))))))))))
  refine s (jY r r) (s (kC r) (n (kT ?_)))
  obtain rfl:=sm b
  refine jI r (lq r) ?_
  exact ⟨r,(a.ad [] [])⟩
 rw [decide_eq_false h7]
 refine jC r (jC r (jC r (s (jY r r) (s (kL r) (jC r (jC r (jC r (s (jY r r) (s (kL r) (jC r (jC r (jC r (s (jY r r) ?_)))))))))))))
 refine s (kL r) (jC r (jC r (jC r (jC r (jC r (jC r (s (jY r r) (s (kL r) (jC r (jC r (jC r (jC r (jC r ?_)))))))))))))
 refine jC r (jC r (jC r (jC r (s (jY r r) (s (kL r) (jC r (jC r (jC r (jC r (jC r (jC r (jC r (jC r ?_)))))))))))))
 refine jC r (jC r (jC r (jC r (jC r (s (jY r r) (s (kC r) (n (kT ?_))))))))
 obtain rfl:=sm b
 refine jI r (lq r) ?_
 exact ⟨r,(a.ad [] [])⟩
def Ck (m:(List Int)→(List Int)→Int→Option (Bool)):Prop:=∀ {e:World} {k:Nat→Prop} {f:(List Int)} {h:(List Int)} {i:Int} {a:Option Addr} {b:Nat} {c:Option Addr} {d:Nat} {j:Bool},Pre e k [] [.l a b f,.l c d h]→m f h i=some j→
 Calls Try.prog 6 #[Z a f b,Z c h d,V i] e (qW fun v w=>v=.bool j∧Bx e w k (lT []) [] [])
def mK (fu:Nat)(a:pV):List pV→Nat→Option (Ld (Unit) (Bool))
 | [],_=>some (.go ())
 | c :: d,e=>
 if a.g=c.g then
  (zB fu a.a c.a).bind fun b=>
  if (!b)=true then
   some (.out false)
  else
   mK fu a d (e+1)
 else
  mK fu a d (e+1)
def nH (fu:Nat)(a:p8):List pV→Nat→Option (Ld (Unit) (Bool))
 | [],_=>some (.go ())
 | b :: c,d=>
 (mK fu b a.c 0).bind fun e=>e.el (fun _=>
 nH fu a c (d+1)
 ) (fun o=>some (.out o))
def kH (fu:Nat)(c:jO) (b:(List kR)):Nat→Int→Option (Ld (Int) (Bool))
 | 0,_=>none
 | d+1,a=>
 if a < (b.length:Int) then
  (ix b a).bind fun f=>
  (ix b (wr (a - 1))).bind fun j=>
  if (f.a.length:Int)≠(j.a.length:Int) then
   kH fu c b d (wr (a+1))
  else
   if (f.a.length:Int)=0 then
    kH fu c b d (wr (a+1))
   else
    (ix j.a 0).bind fun e=>
    (ix f.a 0).bind fun k=>
    if e.j≠k.j then
     kH fu c b d (wr (a+1))
    else
     if e.a < 0 then
      kH fu c b d (wr (a+1))
     else
      if (c.b.length:Int)≤e.a then
       kH fu c b d (wr (a+1))
      else
       (ix c.b e.a).bind fun h=>
       (vB fu h.c).bind fun i=>
       if i=true then
        kH fu c b d (wr (a+1))
       else
        if h.c=6 then
         kH fu c b d (wr (a+1))
        else
         if h.c=10 then
          kH fu c b d (wr (a+1))
         else
          (nH fu k e.c 0).bind fun l=>l.el (fun _=>
          kH fu c b d (wr (a+1))
          ) (fun o=>some (.out o))
 else
  some (.go a)
def rz (fu:Nat)(k:(List Int)) (l:(List Int)) (m:Int):Option (Bool):=
 (vg fu k).bind fun p=>
 jy p fun a c=>
 if (!c)=true then
  (yP fu).bind fun d=>
  some d
 else
  (zJ fu l 2).bind fun e=>
  (yN fu m).bind fun f=>
  (oz fu a 0 e f 0 60).bind fun p=>
  jy p fun h j=>
  (kH fu a h fu 1).bind fun p=>p.el (fun i=>
  (yP fu).bind fun b=>
  some b
  ) (fun o=>some o)
theorem Cw (fu:Nat):Ck (rz fu):=by
 intro w0 cS x0 x1 x2 aA aB aC aD r0 hP Y
 unfold rz at Y
 have a:=hP.bx
 clear hP
 generalize hG:lT _=G at a ⊢
 refine cf Try.func6 r ?_
 refine lK [(0,Z aA x0 aB),(1,Z aC x1 aD),(2,V x2)] ⟨r,r,r,y⟩ fun cT=>?_
 refine q (g (s (kC r) (n (q (g (s (nC r) ?_))))))
 obtain ⟨⟨b,bH⟩,h1,Y⟩:=bs Y
 replace Y:=pi Y
 have hc:=(FL fu) (a.pr [] [] [0] r)  h1
 refine sc (ec Ww r) hc ?_
 rintro _ w1 ⟨m,o,p,t,u,v,x,z,rfl,hK⟩
 replace a:=a.cl [] [] r hK r
 try dsimp only [pick,nth,ca,na] at a
 refine s sZ (s (jZ r r) (s (jZ r r) (nU (nM a (jV xD)) ?_)))
 rintro _ w2 ⟨b2,rfl,a⟩
 refine lg (tb a 0 [Z m b.a.a o,Z p b.a.b t,Z u b.c v,Z x b.b z] r xD r r r r r (show _=#[Z m b.a.a o,Z p b.a.b t,Z u b.c v,Z x b.b z] from r)) ?_
 intro w3 a
 try dsimp only [List.set] at a
 refine s (kC r) (n (q (q (g (s (kL r) (s (Al r) (n ?_)))))))
 rcases iv Y with ⟨h4,Y⟩|⟨h4,Y⟩
 ·refine jN (cb h4) (q (g ?_))
  obtain ⟨bI,h5,Y⟩:=bs Y
  have hc:=(CR fu) (a.pr [] [0] [] r)  h5
  refine sc (ec TK r) hc ?_
  rintro _ w5 ⟨rfl,hK⟩
  replace a:=a.cl [] [0] r hK r
  try dsimp only [pick,nth,ca,na] at a
  refine s (kC r) (n (kT ?_))
  obtain rfl:=sm Y
  refine jI r (lq r) ?_
  exact ⟨r,(a.ad [] [])⟩
 replace h4:=nt h4
 refine jK (cb h4) (wk (q ?_))
 obtain ⟨bJ,h6,Y⟩:=bs Y
 obtain ⟨bL,h7,Y⟩:=bs Y
 obtain ⟨⟨N,B⟩,h9,Y⟩:=bs Y
 replace Y:=pi Y
 refine oq (fun f w=>∃ (e:OA)(j:Nat),Has f [(7,Pt b2),(9,Z e N j)]∧Bx w0 w cS G [.box b2 30 #[Z m b.a.a o,Z p b.a.b t,Z u b.c v,Z x b.b z]] [.l m o b.a.a,.l p t b.a.b,.l u v b.c,.l x z b.b,.l e j N]) (fun Jd hJd=>?_) ?_
 ·refine pX a [0] [] [] (by kernel_rfl) ?_
  replace a:=a.drew
  have A:=(a.dp [])
  refine uF 0 r (fun hS=>nN [Z m b.a.a o,Z p b.a.b t,Z u b.c v,Z x b.b z] Ep r xD r r (Cells.part (hS.bk 0 r).cells (o2:=0) r)) A (pF 1 r (nC r) A (pF 3 r (mi r) A ?_))
  refine mH 2 [9] (by kernel_rfl) (jL ?_ (jL ?_ lH))
  ·have hc:=(Ee fu) (a.pr [] [0] [5] r)  h6
   refine oc r r (ec TB r) hc ?_
   rintro _ w6 ⟨aj,ak,al,rfl,hK⟩
   have aE:=a.rD.size
   replace a:=a.cl [] [0] r hK r
   try dsimp only [pick,nth,ca,na] at a
   replace a:=a.Zh 0 w0.heap.size r aE
   try dsimp only [List.set] at a
   have A:=(a.ad [1] [])
   refine ⟨(sF A),?_⟩
   refine mH 4 [9] (by kernel_rfl) (jL ?_ (jL ?_ lH))
   ·have hc:=(AA fu) (a.pr [] [0,1] [] r)  h7
    refine oc r r (ec Pv r) hc ?_
    rintro _ w7 ⟨rfl,hK⟩
    replace a:=a.cl [] [0,1] r hK r
    try dsimp only [pick,nth,ca,na] at a
    have A:=(a.ad [1] [])
    refine ⟨(sF A),?_⟩
    refine mH 5 [9] (by kernel_rfl) (jL ?_ (jL ?_ lH))
    ·replace a:=a.OO 0 0 r r
     try dsimp only [List.eraseIdx] at a
     have hc:=(tq fu) (a.pr [] [0] [1,2,3,4,0] r)  h9
     refine oc r r (ec LJ r) hc ?_
     rintro _ w9 ⟨e,j,F,H,rfl,hK⟩
     replace a:=a.cl [] [0] r hK r
     try dsimp only [pick,nth,ca,na] at a
     have A:=(a.dp [])
     refine ⟨(sF A),?_⟩
     refine pF 6 r (sZ) A (pF 7 r (jZ r r) A (pF 8 r (jZ r r) A ?_))
     refine hO 9 (oo r r (nM a (jV BL)) ?_)
     rintro _ c3 ⟨c4,rfl,a⟩
     have A:=(a.ad [1] [])
     refine ⟨(sF A),?_⟩
     refine pF 10 r (nk r) A ?_
     refine hO 11 (os r r (tb a 0 [V B.d,.bool B.b,V B.c,Z F B.a H] r BL r r r r r (show _=#[V B.d,.bool B.b,V B.c,Z F B.a H] from r)) ?_)
     intro c5 a
     try dsimp only [List.set] at a
     have A:=(a.ad [1] [])
     refine ⟨(sF A),?_⟩
     refine hD ?_
     exact hJd _ _ ⟨e,j,⟨r,r,y⟩,(a.ad [1] [3,4,5,6,0])⟩
    refine oo r r (nM a (jV BL)) ?_
    rintro _ c6 ⟨c7,rfl,a⟩
    have A:=(a.ad [2] [])
    refine ⟨(sF A),?_⟩
    replace a:=a.OO 1 0 r r
    try dsimp only [List.eraseIdx] at a
    have hc:=(tq fu) (a.pr [] [0,1] [1,2,3,4,0] r)  h9
    refine hO 5 (oc r r (ec LJ r) hc ?_)
    rintro _ w9 ⟨e,j,F,H,rfl,hK⟩
    replace a:=a.cl [] [0,1] r hK r
    try dsimp only [pick,nth,ca,na] at a
    have A:=(a.ad [1] [])
    refine ⟨(sF A),?_⟩
    refine pF 6 r (sZ) A (pF 7 r (jZ r r) A (pF 8 r (jZ r r) A (pF 10 r (nk r) A ?_)))
    refine hO 11 (os r r (tb a 0 [V B.d,.bool B.b,V B.c,Z F B.a H] r BL r r r r r (show _=#[V B.d,.bool B.b,V B.c,Z F B.a H] from r)) ?_)
    intro c8 a
    try dsimp only [List.set] at a
    have A:=(a.ad [1] [])
    refine ⟨(sF A),?_⟩
    refine hD ?_
    exact hJd _ _ ⟨e,j,⟨r,r,y⟩,(a.ad [1] [3,4,5,6,0])⟩
   refine oo r r (nM a (jV BL)) ?_
   rintro _ c9 ⟨cc,rfl,a⟩
   have A:=(a.ad [2] [])
   refine ⟨(sF A),?_⟩
   have hc:=(AA fu) (a.pr [] [0,1,2] [] r)  h7
   refine hO 4 (oc r r (ec Pv r) hc ?_)
   rintro _ w7 ⟨rfl,hK⟩
   replace a:=a.cl [] [0,1,2] r hK r
   try dsimp only [pick,nth,ca,na] at a
   have A:=(a.ad [2] [])
   refine ⟨(sF A),?_⟩
   replace a:=a.OO 1 0 r r
   try dsimp only [List.eraseIdx] at a
   have hc:=(tq fu) (a.pr [] [0,1] [1,2,3,4,0] r)  h9
   refine hO 5 (oc r r (ec LJ r) hc ?_)
   rintro _ w9 ⟨e,j,F,H,rfl,hK⟩
   replace a:=a.cl [] [0,1] r hK r
   try dsimp only [pick,nth,ca,na] at a
   have A:=(a.ad [1] [])
   refine ⟨(sF A),?_⟩
   refine pF 6 r (sZ) A (pF 7 r (jZ r r) A (pF 8 r (jZ r r) A (pF 10 r (nk r) A ?_)))
   refine hO 11 (os r r (tb a 0 [V B.d,.bool B.b,V B.c,Z F B.a H] r BL r r r r r (show _=#[V B.d,.bool B.b,V B.c,Z F B.a H] from r)) ?_)
   intro cd a
   try dsimp only [List.set] at a
   have A:=(a.ad [1] [])
   refine ⟨(sF A),?_⟩
   refine hD ?_
   exact hJd _ _ ⟨e,j,⟨r,r,y⟩,(a.ad [1] [3,4,5,6,0])⟩
  refine oo r r (nM a (jV BL)) ?_
  rintro _ ce ⟨cg,rfl,a⟩
  have A:=(a.ad [1] [])
  refine ⟨(sF A),?_⟩
  have hc:=(Ee fu) (a.pr [] [0,1] [5] r)  h6
  refine hO 2 (oc r r (ec TB r) hc ?_)
  rintro _ w6 ⟨aj,ak,al,rfl,hK⟩
  have aE:=a.rD.size
  replace a:=a.cl [] [0,1] r hK r
  try dsimp only [pick,nth,ca,na] at a
  replace a:=a.Zh 0 w0.heap.size r aE
  try dsimp only [List.set] at a
  have A:=(a.ad [2] [])
  refine ⟨(sF A),?_⟩
  have hc:=(AA fu) (a.pr [] [0,1,2] [] r)  h7
  refine hO 4 (oc r r (ec Pv r) hc ?_)
  rintro _ w7 ⟨rfl,hK⟩
  replace a:=a.cl [] [0,1,2] r hK r
  try dsimp only [pick,nth,ca,na] at a
  have A:=(a.ad [2] [])
  refine ⟨(sF A),?_⟩
  replace a:=a.OO 0 0 r r
  try dsimp only [List.eraseIdx] at a
  have hc:=(tq fu) (a.pr [] [0,1] [1,2,3,4,0] r)  h9
  refine hO 5 (oc r r (ec LJ r) hc ?_)
  rintro _ w9 ⟨e,j,F,H,rfl,hK⟩
  replace a:=a.cl [] [0,1] r hK r
  try dsimp only [pick,nth,ca,na] at a
  have A:=(a.ad [1] [])
  refine ⟨(sF A),?_⟩
  refine pF 6 r (sZ) A (pF 7 r (jZ r r) A (pF 8 r (jZ r r) A (pF 10 r (nk r) A ?_)))
  refine hO 11 (os r r (tb a 0 [V B.d,.bool B.b,V B.c,Z F B.a H] r BL r r r r r (show _=#[V B.d,.bool B.b,V B.c,Z F B.a H] from r)) ?_)
  intro ch a
  try dsimp only [List.set] at a
  have A:=(a.ad [1] [])
  refine ⟨(sF A),?_⟩
  refine hD ?_
  exact hJd _ _ ⟨e,j,⟨r,r,y⟩,(a.ad [1] [3,4,5,6,0])⟩
 clear a
 rintro f w ⟨e,j,hf,a⟩
 obtain ⟨cT,rfl⟩:=iA _ _ hf
 clear hf
 refine q (q (g (s (xi r) (n ?_))))
 obtain ⟨b3,c,Y⟩:=bs Y
 refine oq (fun f w=>∃ (D:Int),Has f []∧Bx w0 w cS G [.box b2 30 #[Z m b.a.a o,Z p b.a.b t,Z u b.c v,Z x b.b z]] [.l m o b.a.a,.l p t b.a.b,.l u v b.c,.l x z b.b,.l e j N]∧Ld.go D=b3) (fun ci b4=>?_) ?_
 ·refine oM (kM (fun cU f w=>∃ (D:Int),Has f [(7,Pt b2),(9,Z e N j),(11,V D)]∧Bx w0 w cS G [.box b2 30 #[Z m b.a.a o,Z p b.a.b t,Z u b.c v,Z x b.b z]] [.l m o b.a.a,.l p t b.a.b,.l u v b.c,.l x z b.b,.l e j N]∧kH fu b N cU D=some b3) fu ⟨1,⟨r,r,r,y⟩,a,c⟩ ?_)
  clear a c
  rintro a6 f w ⟨D,hf,a,c⟩ cj a0
  obtain ⟨cT,rfl⟩:=iA _ _ hf
  clear hf
  cases a6 with
  | zero=>exact nn c
  | succ a6=>
   rw [kH] at c
   refine q (q (g (s (mi r) (s (nC r) (s (lX Gz r) (s (qo r r) (n ?_)))))))
   rcases iv c with ⟨aF,c⟩|⟨aF,c⟩
   ·refine jN (bt aF) (wk (q (oM (q (q ?_)))))
    obtain ⟨bu,a8,c⟩:=bs c
    obtain ⟨ck,am,a8⟩:=kJ a8
    obtain ⟨bN,b5,a⟩:=a.nm 4 rfl a8
    obtain ⟨aG,aH,rfl,aI⟩:=kR.out b5
    replace a:=a.ku (d:=.l aG aH bu.a) aI
    obtain ⟨bv,af,c⟩:=bs c
    obtain ⟨cm,aw,af⟩:=kJ af
    obtain ⟨bO,b6,a⟩:=a.nm 6 rfl af
    obtain ⟨aJ,aK,rfl,aL⟩:=kR.out b6
    replace a:=a.ku (d:=.l aJ aK bv.a) aL
    refine pX a [] [0,1,2,3,8] [] (by kernel_rfl) ?_
    replace a:=a.drew
    have A:=(a.ad [] [0,1,2,3,8])
    refine pF 0 r (nC r) A (pF 1 r (mi r) A (pF 2 r (kW Gz EZ r r am (a.dl 8 r) a8) A (pF 3 r (Ei r) A (uF 4 r (fun hS=>jT BJ r r ((hS.dc 3 r) 0 _ r)) A (pF 5 r (lX BJ r) A (pF 6 r (nC r) A (pF 7 r (mi r) A (pF 8 r (vW r r) A (pF 9 r (kW Gz EZ r r aw (a.dl 8 r) af) A (pF 10 r (Ei r) A (uF 11 r (fun hS=>jT BJ r r ((hS.dc 1 r) 0 _ r)) A (pF 12 r (lX BJ r) A (pF 13 r (rY r r) A ?_)))))))))))))
    refine pF 14 r (kL r) A ?_
    rcases iv c with ⟨aM,c⟩|⟨aM,c⟩
    ·rw [decide_eq_true aM]
     have A:=(a.ad [] [0,1,2,3,8])
     refine nR 15 r (by kernel_rfl) r (sF A) (nR 16 r (by kernel_rfl) r (sF A) (nR 17 r (by kernel_rfl) r (sF A) (nR 18 r (by kernel_rfl) r (sF A) (nR 19 r (by kernel_rfl) r (sF A) (nR 20 r (by kernel_rfl) r (sF A) (nR 21 r (by kernel_rfl) r (sF A) (pF 22 r (kr r r) A (hD (jN r (tT (g (s (mi r) (s (kE r r) ?_)))))))))))))
     refine s (xi r) (n ?_)
     exact a0 a6 _ _ (Nat.lt_succ_self _) ⟨(wr (D+1)),⟨r,r,r,y⟩,(a.dp [4,5,6,7,8]),c⟩
    rw [decide_eq_false aM]
    have A:=(a.ad [] [0,1,2,3,8])
    refine pF 15 r (nC r) A (pF 16 r (mi r) A (pF 17 r (kW Gz EZ r r am (a.dl 8 r) a8) A (pF 18 r (Ei r) A (uF 19 r (fun hS=>jT BJ r r ((hS.dc 3 r) 0 _ r)) A (pF 20 r (lX BJ r) A (pF 21 r (kD r r) A (pF 22 r (jY r r) A (hD ?_))))))))
    rcases iv c with ⟨aN,c⟩|⟨aN,c⟩
    ·refine jN (bt aN) (tT (g (s (mi r) (s (kE r r) (s (xi r) (n ?_))))))
     exact a0 a6 _ _ (Nat.lt_succ_self _) ⟨(wr (D+1)),⟨r,r,r,y⟩,(a.dp [4,5,6,7,8]),c⟩
    refine jK (bf aN) (wk (q ?_))
    obtain ⟨E,ah,c⟩:=bs c
    obtain ⟨cn,b7,ah⟩:=kJ ah
    obtain ⟨bP,b8,a⟩:=a.nm 0 rfl ah
    obtain ⟨K,L,rfl,aO⟩:=p8.out b8
    replace a:=a.ku (d:=.l K L E.c) aO
    obtain ⟨C,ai,c⟩:=bs c
    obtain ⟨co,b9,ai⟩:=kJ ai
    obtain ⟨bQ,ba,a⟩:=a.nm 4 rfl ai
    obtain ⟨I,J,rfl,aP⟩:=p8.out ba
    replace a:=a.ku (d:=.l I J C.c) aP
    refine oq (fun f w=>∃ (an:Nat)(a3:Nat),Has f [(7,Pt b2),(9,Z e N j),(11,V D),(12,Pt an),(13,Pt a3)]∧Bx w0 w cS G [.box b2 30 #[Z m b.a.a o,Z p b.a.b t,Z u b.c v,Z x b.b z],.box an 53 #[V E.j,V E.a,Z K E.c L],.box a3 53 #[V C.j,V C.a,Z I C.c J]] [.l I J C.c,.l K L E.c,.l m o b.a.a,.l p t b.a.b,.l u v b.c,.l x z b.b,.l e j N]) (fun Jd hJd=>?_) ?_
    ·refine pX a [] [0,1,2,3,4,5,6,7,12] [] (by kernel_rfl) ?_
     replace a:=a.drew
     have A:=(a.ad [] [0,1,2,3,4,5,6,7,12])
     refine pF 0 r (nC r) A (pF 1 r (mi r) A (pF 2 r (vW r r) A (pF 3 r (kW Gz EZ r r aw (a.dl 12 r) af) A (pF 4 r (Ei r) A (uF 5 r (fun hS=>jT BJ r r ((hS.dc 5 r) 0 _ r)) A (pF 6 r (kW BJ zT r r b7 (a.dl 4 r) ah) A (uF 7 r (fun hS=>nN [V E.j,V E.a,Z K E.c L] UE r zT r r (hS.dc 3 r)) A (pF 8 r (nC r) A (pF 9 r (mi r) A (pF 10 r (kW Gz EZ r r am (a.dl 12 r) a8) A (pF 11 r (Ei r) A (uF 12 r (fun hS=>jT BJ r r ((hS.dc 7 r) 0 _ r)) A (pF 13 r (kW BJ zT r r b9 (a.dl 6 r) ai) A ?_)))))))))))))
     refine uF 14 r (fun hS=>nN [V C.j,V C.a,Z I C.c J] UE r zT r r (hS.dc 1 r)) A ?_
     refine mH 15 [16] (by kernel_rfl) (jL ?_ (jL ?_ lH))
     ·refine oo r r (nM a (jV zT)) ?_
      rintro _ cp ⟨an,rfl,a⟩
      have A:=(a.ad [] [0,1,2,3,4,5,6,7,12])
      refine ⟨(sF A),?_⟩
      refine hO 16 (oo r r (nM a (jV zT)) ?_)
      rintro _ cq ⟨a3,rfl,a⟩
      have A:=(a.ad [] [0,1,2,3,4,5,6,7,12])
      refine ⟨(sF A),?_⟩
      refine hO 17 (os r r (tb a 1 [V E.j,V E.a,Z K E.c L] r zT r r r r r (show _=#[V E.j,V E.a,Z K E.c L] from r)) ?_)
      intro cr a
      try dsimp only [List.set] at a
      have A:=(a.ad [] [0,1,2,3,4,5,6,7,12])
      refine ⟨(sF A),?_⟩
      refine hO 18 (os r r (tb a 0 [V C.j,V C.a,Z I C.c J] r zT r r r r r (show _=#[V C.j,V C.a,Z I C.c J] from r)) ?_)
      intro ct a
      try dsimp only [List.set] at a
      have A:=(a.ad [] [0,1,2,3,4,5,6,7,12])
      refine ⟨(sF A),?_⟩
      refine hD ?_
      exact hJd _ _ ⟨an,a3,⟨r,r,r,r,r,y⟩,(a.ad [2,1,0] [0,2,8,9,10,11,12])⟩
     refine oo r r (nM a (jV zT)) ?_
     rintro _ cu ⟨bw,rfl,a⟩
     have A:=(a.ad [] [0,1,2,3,4,5,6,7,12])
     refine ⟨(sF A),?_⟩
     refine hO 15 (oo r r (nM a (jV zT)) ?_)
     rintro _ cv ⟨bz,rfl,a⟩
     have A:=(a.ad [] [0,1,2,3,4,5,6,7,12])
     refine ⟨(sF A),?_⟩
     refine hO 17 (os r r (tb a 0 [V E.j,V E.a,Z K E.c L] r zT r r r r r (show _=#[V E.j,V E.a,Z K E.c L] from r)) ?_)
     intro cw a
     try dsimp only [List.set] at a
     have A:=(a.ad [] [0,1,2,3,4,5,6,7,12])
     refine ⟨(sF A),?_⟩
     refine hO 18 (os r r (tb a 1 [V C.j,V C.a,Z I C.c J] r zT r r r r r (show _=#[V C.j,V C.a,Z I C.c J] from r)) ?_)
     intro cx a
     try dsimp only [List.set] at a
     have A:=(a.ad [] [0,1,2,3,4,5,6,7,12])
     refine ⟨(sF A),?_⟩
     refine hD ?_
     exact hJd _ _ ⟨bz,bw,⟨r,r,r,r,r,y⟩,(a.ad [2,0,1] [0,2,8,9,10,11,12])⟩
    clear a
    rintro f w ⟨an,a3,hf,a⟩
    obtain ⟨cT,rfl⟩:=iA _ _ hf
    clear hf
    refine q (q (g (s (TD r) (s (l3 r (a.bk 1 r) r) (s (TD r) (s (l3 r (a.bk 2 r) r) (s (rY r r) (s (kL r) ?_))))))))
    rcases iv c with ⟨aQ,c⟩|⟨aQ,c⟩
    ·rw [decide_eq_true aQ]
     refine jC r (jC r (jC r (s (kr r r) (s (kL r) (jC r (jC r (jC r (jC r (jC r (jC r (s (kr r r) (s (kL r) (jC r ?_)))))))))))))
     refine jC r (jC r (jC r (jC r (jC r (jC r (jC r (s (kr r r) (s (kL r) (jC r (jC r (jC r (jC r (jC r ?_)))))))))))))
     refine jC r (jC r (jC r (s (kr r r) (s (kL r) (jC r (jC r (jC r (jC r (jC r (jC r (jC r (jC r (s (kr r r) ?_)))))))))))))
     refine n (jN r (tT (g (s (mi r) (s (kE r r) (s (xi r) (n ?_)))))))
     exact a0 a6 _ _ (Nat.lt_succ_self _) ⟨(wr (D+1)),⟨r,r,r,y⟩,(a.ad [0] [2,3,4,5,6]),c⟩
    rw [decide_eq_false aQ]
    refine kg r (s (Le r) (kg r (s (l3 r (a.bk 1 r) r) (kg r (s (qo r r) (s (jY r r) (s (kL r) ?_)))))))
    rcases iv c with ⟨aR,c⟩|⟨aR,c⟩
    ·rw [decide_eq_true aR]
     refine jC r (jC r (jC r (jC r (jC r (jC r (s (kr r r) (s (kL r) (jC r (jC r (jC r (jC r (jC r (jC r ?_)))))))))))))
     refine jC r (jC r (s (kr r r) (s (kL r) (jC r (jC r (jC r (jC r (jC r (jC r (jC r (jC r (s (kr r r) (s (kL r) ?_)))))))))))))
     refine jC r (jC r (jC r (jC r (jC r (jC r (jC r (jC r (s (kr r r) (n (jN r (tT (g (s (mi r) ?_)))))))))))))
     refine s (kE r r) (s (xi r) (n ?_))
     exact a0 a6 _ _ (Nat.lt_succ_self _) ⟨(wr (D+1)),⟨r,r,r,y⟩,(a.ad [0] [2,3,4,5,6]),c⟩
    rw [decide_eq_false aR]
    refine kg r (s (Le r) (kg r (s (l3 r (a.bk 1 r) r) (kg r (s (AV r) (kg r (s (Qn r (a.bk 0 r) r) (kg r (s (lX E5 r) (kg r (s (Bq r r) (s (jY r r) (s (kL r) ?_)))))))))))))
    rcases iv c with ⟨aS,c⟩|⟨aS,c⟩
    ·rw [decide_eq_true aS]
     refine jC r (jC r (jC r (jC r (jC r (jC r (jC r (jC r (s (kr r r) (s (kL r) (jC r (jC r (jC r (jC r ?_)))))))))))))
     refine jC r (jC r (jC r (jC r (s (kr r r) (s (kL r) (jC r (jC r (jC r (jC r (jC r (jC r (jC r (jC r ?_)))))))))))))
     refine s (kr r r) (n (jN r (tT (g (s (mi r) (s (kE r r) (s (xi r) (n ?_))))))))
     exact a0 a6 _ _ (Nat.lt_succ_self _) ⟨(wr (D+1)),⟨r,r,r,y⟩,(a.ad [0] [2,3,4,5,6]),c⟩
    rw [decide_eq_false aS]
    refine kg r (s (AV r) (kg r (s (Qn r (a.bk 0 r) r) (kg r (s (Le r) (kg r (s (l3 r (a.bk 1 r) r) ?_)))))))
    obtain ⟨a9,a2,c⟩:=bs c
    obtain ⟨cy,ao,a2⟩:=kJ a2
    refine kg r (s (kW E5 Sv r r ao (a.dl 5 r) a2) (kg r (s (Ph r) (kg r (s (jT EC r r ((uy (ds:=[V a9.j,V a9.c,V a9.f]) (a.dl 5 r) a2 (fun _ h=>h)) 1 _ r)) ?_)))))
    obtain ⟨bA,bB,c⟩:=bs c
    refine kg r ?_
    have hc:=(Fy fu) (a.pr [] [0,1,2] [] r)  bB
    refine sc (ec Yu r) hc ?_
    rintro _ cz ⟨rfl,hK⟩
    replace a:=a.cl [] [0,1,2] r hK r
    try dsimp only [pick,nth,ca,na] at a
    refine s (jY r r) (s (kL r) ?_)
    rcases iv c with ⟨ap,c⟩|⟨ap,c⟩
    ·rw [ap]
     refine jC r (jC r (jC r (jC r (jC r (jC r (jC r (jC r (s (kr r r) (s (kL r) (jC r (jC r (jC r (jC r ?_)))))))))))))
     refine jC r (jC r (jC r (jC r (s (kr r r) (n (jN r (tT (g (s (mi r) (s (kE r r) (s (xi r) (n ?_))))))))))))
     exact a0 a6 _ _ (Nat.lt_succ_self _) ⟨(wr (D+1)),⟨r,r,r,y⟩,(a.ad [0] [2,3,4,5,6]),c⟩
    replace ap:=nt ap
    rw [ap]
    refine kg r (s (AV r) (kg r (s (Qn r (a.bk 0 r) r) (kg r (s (Le r) (kg r (s (l3 r (a.bk 1 r) r) (kg r (s (kW E5 Sv r r ao (a.dl 5 r) a2) (kg r (s (Ph r) (kg r (s (jT EC r r ((uy (ds:=[V a9.j,V a9.c,V a9.f]) (a.dl 5 r) a2 (fun _ h=>h)) 1 _ r)) ?_)))))))))))))
    refine kg r (s (kD r r) (s (jY r r) (s (kL r) ?_)))
    rcases iv c with ⟨aT,c⟩|⟨aT,c⟩
    ·rw [decide_eq_true aT]
     refine jC r (jC r (jC r (jC r (jC r (jC r (jC r (jC r (s (kr r r) (n (jN r (tT (g (s (mi r) ?_)))))))))))))
     refine s (kE r r) (s (xi r) (n ?_))
     exact a0 a6 _ _ (Nat.lt_succ_self _) ⟨(wr (D+1)),⟨r,r,r,y⟩,(a.ad [0] [2,3,4,5,6]),c⟩
    rw [decide_eq_false aT]
    refine kg r (s (AV r) (kg r (s (Qn r (a.bk 0 r) r) (kg r (s (Le r) (kg r (s (l3 r (a.bk 1 r) r) (kg r (s (kW E5 Sv r r ao (a.dl 5 r) a2) (kg r (s (Ph r) (kg r (s (jT EC r r ((uy (ds:=[V a9.j,V a9.c,V a9.f]) (a.dl 5 r) a2 (fun _ h=>h)) 1 _ r)) ?_)))))))))))))
    refine kg r (s (kD r r) (s (jY r r) (n ?_)))
    rcases iv c with ⟨aU,c⟩|⟨aU,c⟩
    ·refine jN (bt aU) (tT (g (s (mi r) (s (kE r r) (s (xi r) (n ?_))))))
     exact a0 a6 _ _ (Nat.lt_succ_self _) ⟨(wr (D+1)),⟨r,r,r,y⟩,(a.ad [0] [2,3,4,5,6]),c⟩
    refine jK (bf aU) (wk (q (g (s (NS r) (s (ZW r (a.bk 1 r) r) (s (lX KE r) (s (mi r) (n ?_))))))))
    have bR:=(a.dl 1 r).bd
    obtain ⟨bb,R,c⟩:=bs c
    refine oq (fun f w=>Has f [(7,Pt b2),(9,Z e N j),(11,V D)]∧Bx w0 w cS G [.box b2 30 #[Z m b.a.a o,Z p b.a.b t,Z u b.c v,Z x b.b z],.box a3 53 #[V C.j,V C.a,Z I C.c J]] [.l I J C.c,.l K L E.c,.l m o b.a.a,.l p t b.a.b,.l u v b.c,.l x z b.b,.l e j N]∧Ld.go ()=bb) (fun cA bc=>?_) ?_
    ·refine oM (kM (fun cU f w=>∃ (a4:Nat),cU=E.c.length - a4∧a4≤E.c.length∧Has f [(130,V (a4:Int)),(7,Pt b2),(9,Z e N j),(11,V D),(13,Pt a3),(128,Z K E.c L),(129,V (E.c.length:Int))]∧Bx w0 w cS G [.box b2 30 #[Z m b.a.a o,Z p b.a.b t,Z u b.c v,Z x b.b z],.box a3 53 #[V C.j,V C.a,Z I C.c J]] [.l I J C.c,.l K L E.c,.l m o b.a.a,.l p t b.a.b,.l u v b.c,.l x z b.b,.l e j N]∧nH fu C (E.c.drop a4) a4=some bb) (E.c.length) ⟨0,r,Nat.zero_le _,⟨r,r,r,r,r,r,r,y⟩,(a.arr [0,2] r),R⟩ ?_)
     clear a R
     rintro cU f w ⟨a4,rfl,bS,hf,a,R⟩ cB bg
     obtain ⟨cT,rfl⟩:=iA _ _ hf
     clear hf
     rcases Nat.lt_or_ge a4 E.c.length with ax | ax
     ·obtain ⟨Q,aq⟩:=mh (l:=E.c) ax
      rw [mP aq,nH] at R
      obtain ⟨bT,bh,a⟩:=a.nm 1 rfl aq
      obtain ⟨S,U,W,X,rfl,aV,aW⟩:=pV.out bh
      replace a:=a.ku (d:=.l S U Q.b) aV
      replace a:=a.ku (d:=.l W X Q.a) aW
      refine q (g (s (sS r r (by omega)) (n (q (jN r (wk (q (oM (q (g (s (kW KE GY r r r (a.dl 4 r) aq) (s (nN [V Q.g,Z S Q.b U,Z W Q.a X] X7 r GY r r (a.dc 2 r)) (nU (nM a (jV GY)) ?_)))))))))))))
      rintro _ cC ⟨aX,rfl,a⟩
      refine lg (tb a 0 [V Q.g,Z S Q.b U,Z W Q.a X] r GY r r r r r (show _=#[V Q.g,Z S Q.b U,Z W Q.a X] from r)) ?_
      intro cD a
      try dsimp only [List.set] at a
      refine n (q (g (s (NS r) (s (ZW r (a.bk 2 r) r) (s (lX KE r) (s (mi r) (n ?_)))))))
      have bU:=(a.dl 3 r).bd
      obtain ⟨bi,M,R⟩:=bs R
      refine oq (fun f w=>Has f [(7,Pt b2),(9,Z e N j),(11,V D),(13,Pt a3),(128,Z K E.c L),(129,V (E.c.length:Int)),(130,V (a4:Int))]∧Bx w0 w cS G [.box aX 57 #[V Q.g,Z S Q.b U,Z W Q.a X],.box b2 30 #[Z m b.a.a o,Z p b.a.b t,Z u b.c v,Z x b.b z],.box a3 53 #[V C.j,V C.a,Z I C.c J]] [.l W X Q.a,.l S U Q.b,.l I J C.c,.l K L E.c,.l m o b.a.a,.l p t b.a.b,.l u v b.c,.l x z b.b,.l e j N]∧Ld.go ()=bi) (fun cE bj=>?_) ?_
      ·refine oM (kM (fun cU f w=>∃ (a5:Nat),cU=C.c.length - a5∧a5≤C.c.length∧Has f [(137,V (a5:Int)),(7,Pt b2),(9,Z e N j),(11,V D),(13,Pt a3),(15,Pt aX),(128,Z K E.c L),(129,V (E.c.length:Int)),(130,V (a4:Int)),(135,Z I C.c J),(136,V (C.c.length:Int))]∧Bx w0 w cS G [.box aX 57 #[V Q.g,Z S Q.b U,Z W Q.a X],.box b2 30 #[Z m b.a.a o,Z p b.a.b t,Z u b.c v,Z x b.b z],.box a3 53 #[V C.j,V C.a,Z I C.c J]] [.l W X Q.a,.l S U Q.b,.l I J C.c,.l K L E.c,.l m o b.a.a,.l p t b.a.b,.l u v b.c,.l x z b.b,.l e j N]∧mK fu Q (C.c.drop a5) a5=some bi) (C.c.length) ⟨0,r,Nat.zero_le _,⟨r,r,r,r,r,r,r,r,r,r,r,y⟩,(a.dp [0,1,3,4,5,6,7,8,9]),M⟩ ?_)
       clear a M
       rintro cU f w ⟨a5,rfl,bV,hf,a,M⟩ cF ay
       obtain ⟨cT,rfl⟩:=iA _ _ hf
       clear hf
       rcases Nat.lt_or_ge a5 C.c.length with az | az
       ·obtain ⟨a7,ar⟩:=mh (l:=C.c) az
        rw [mP ar,mK] at M
        obtain ⟨bW,bl,a⟩:=a.nm 2 rfl ar
        obtain ⟨aa,ab,ac,ae,rfl,aY,aZ⟩:=pV.out bl
        replace a:=a.ku (d:=.l aa ab a7.b) aY
        replace a:=a.ku (d:=.l ac ae a7.a) aZ
        refine q (g (s (sS r r (by omega)) (n (q (jN r (wk (q (oM (q (g (s (kW KE GY r r r (a.dl 5 r) ar) (s (nN [V a7.g,Z aa a7.b ab,Z ac a7.a ae] X7 r GY r r (a.dc 2 r)) (nU (nM a (jV GY)) ?_)))))))))))))
        rintro _ cG ⟨cH,rfl,a⟩
        refine lg (tb a 0 [V a7.g,Z aa a7.b ab,Z ac a7.a ae] r GY r r r r r (show _=#[V a7.g,Z aa a7.b ab,Z ac a7.a ae] from r)) ?_
        intro cI a
        try dsimp only [List.set] at a
        refine n (q (g (s (SN r) (s (l3 r (a.bk 1 r) r) (s (SN r) (s (l3 r (a.bk 0 r) r) (s (kD r r) (s (kL r) ?_))))))))
        rcases iv M with ⟨b0,M⟩|⟨b0,M⟩
        ·rw [decide_eq_true b0]
         refine kg r (s (Qg r) (kg r (s (OP r (a.bk 1 r) r) (kg r (s (Qg r) (kg r (s (OP r (a.bk 0 r) r) ?_)))))))
         obtain ⟨bC,bD,M⟩:=bs M
         refine kg r ?_
         have hc:=(Kc fu) (a.pr [] [0,1,2,3] [3,0] r)  bD
         refine sc (ec X4 r) hc ?_
         rintro _ cJ ⟨rfl,hK⟩
         replace a:=a.cl [] [0,1,2,3] r hK r
         try dsimp only [pick,nth,ca,na] at a
         refine kg r (s (Al r) (s (kr r r) (n ?_)))
         rcases iv M with ⟨au,M⟩|⟨au,M⟩
         ·refine jN (cb au) (q (g (s (kC r) (n (kT ?_)))))
          obtain rfl:=sm M
          replace R:=oi R
          obtain rfl:=sm R
          replace c:=oi c
          obtain rfl:=sm c
          replace Y:=oi Y
          obtain rfl:=sm Y
          refine jI r (lq r) ?_
          exact ⟨r,(a.ad [] [])⟩
         replace au:=nt au
         refine jK (cb au) (wk (g (s (mR r r (by omega) (by omega)) (s (mi r) (n ?_)))))
         exact ay (C.c.length - (a5+1)) _ _ (by omega) ⟨a5+1,r,by omega,⟨r,r,r,r,r,r,r,r,r,r,r,y⟩,(a.ad [1,2,3] [3,4,5,6,7,8,9,10,11]),M⟩
        rw [decide_eq_false b0]
        refine jC r (jC r (jC r (jC r (jC r (jC r (s (jY r r) (n (jK r (wk (g (s (mR r r (by omega) (by omega)) (s (mi r) (n ?_)))))))))))))
        exact ay (C.c.length - (a5+1)) _ _ (by omega) ⟨a5+1,r,by omega,⟨r,r,r,r,r,r,r,r,r,r,r,y⟩,(a.ad [1,2,3] [3,4,5,6,7,8,9,10,11]),M⟩
       obtain rfl:a5=C.c.length:=by omega
       rw [lV,mK] at M
       refine q (g (s (sU r r (by omega)) (n (q (jK r (tT ?_))))))
       exact bj _ _ ⟨⟨r,r,r,r,r,r,r,y⟩,a,sm M⟩
      clear a
      rintro f w ⟨hf,a,bm⟩
      obtain ⟨cT,rfl⟩:=iA _ _ hf
      clear hf
      subst bm
      replace R:=gi R
      refine g (s (mR r r (by omega) (by omega)) (s (mi r) (n ?_)))
      exact bg (E.c.length - (a4+1)) _ _ (by omega) ⟨a4+1,r,by omega,⟨r,r,r,r,r,r,r,y⟩,(a.ad [1,2] [2,3,4,5,6,7,8]),R⟩
     obtain rfl:a4=E.c.length:=by omega
     rw [lV,nH] at R
     refine q (g (s (sU r r (by omega)) (n (q (jK r (tT ?_))))))
     exact bc _ _ ⟨⟨r,r,r,y⟩,a,sm R⟩
    clear a
    rintro f w ⟨hf,a,bn⟩
    obtain ⟨cT,rfl⟩:=iA _ _ hf
    clear hf
    subst bn
    replace c:=gi c
    refine g (s (mi r) (s (kE r r) (s (xi r) (n ?_))))
    exact a0 a6 _ _ (Nat.lt_succ_self _) ⟨(wr (D+1)),⟨r,r,r,y⟩,(a.ad [0] [2,3,4,5,6]),c⟩
   refine jK (bf aF) (tT ?_)
   exact b4 _ _ ⟨D,y,a,sm c⟩
 clear a
 rintro f w ⟨D,hf,a,bo⟩
 obtain ⟨cT,rfl⟩:=iA _ _ hf
 clear hf
 subst bo
 replace Y:=gi Y
 refine q (g ?_)
 obtain ⟨bE,bF,Y⟩:=bs Y
 have hc:=(CR fu) (a.pr [] [0] [] r)  bF
 refine sc (ec TK r) hc ?_
 rintro _ cK ⟨rfl,hK⟩
 replace a:=a.cl [] [0] r hK r
 try dsimp only [pick,nth,ca,na] at a
 refine s (kC r) (n (kT ?_))
 obtain rfl:=sm Y
 refine jI r (lq r) ?_
 exact ⟨r,(a.ad [] [])⟩
end
end Go.Proofs.Ytfglbdkfnphjgaa
set_option linter.unusedVariables false
set_option linter.unusedSimpArgs false
namespace Go.Proofs.Ytfglbdkfnphjgaa
open Go.RowKit Go.Fw
theorem ob {α β:Type} {x:α} {f:α→Option β}:(some x).bind f=f x:=rfl
theorem F8 {α:Type} {l:List α} {i:Nat} {x:α} (h:l[i]?=some x):ix l (i:Int)=some x:=by
 unfold Go.Fw.ix
 rw [if_neg (by omega),Int.toNat_natCast,h]
theorem Z4 {i:Nat} (h:i≤1000000):wr ((i:Int)+1)=((i+1:Nat):Int):=by rw [lQ (by omega) (by omega)];omega
section
variable {fu:Nat}
theorem Ka {l:List Int} (hl:l.length≤100000):∀ (n i:Nat),l.length+1≤n+i→i≤l.length→tH fu l l n (i:Int)=some (.go (l.length:Int))
 | 0,_,h,h2=>by omega
 | n+1,i,h,h2=>by
  rw [tH]
  by_cases c:(i:Int) < l.length
  · obtain ⟨x,hx⟩:=mh (l:=l) (k:=i) (by omega)
    rw [if_pos c,F8 hx,ob,ob,if_neg (by simp),Z4 (by omega)]
    exact Ka hl n (i+1) (by omega) (by omega)
  · rw [if_neg c,show i=l.length by omega]
theorem X5 {l:List Int} (hl:l.length≤100000) (hf:l.length+1≤fu):zB fu l l=some true:=by
 unfold zB
 rw [if_neg (by simp),show (0:Int)=((0:Nat):Int) from rfl,Ka hl fu 0 (by omega) (Nat.zero_le _)]
 rfl
def ZO (f:p8):Prop:=f.c.length≤24∧∀ x ∈ f.c,x.b.length≤8∧x.a.length≤8
def XH (e:kR):Prop:=e.a.length≤20∧∀ f ∈ e.a,ZO f
end
theorem Fit.row {s:jO} {g:sJ} (h:Fit s g) {l:List Int} {k:Nat} (hk:g.ws[k]?=some l):l.length≤8:=by
 obtain ⟨_,V,h1,h2,h3⟩:=h
 have e:(g.ws.map List.length)[k]?=some l.length:=by rw [List.getElem?_map,hk];rfl
 rw [h2,List.getElem?_map] at e
 cases hV:V[k]? with
 | none=>rw [hV] at e;cases e
 | some x=>
  rw [hV] at e
  have:=h3 x (List.mem_of_getElem? hV)
  have:x.a.toNat=l.length:=Option.some.inj e
  omega
theorem Lu.sz {s:jO} (hv:∀ V ∈ s.c,V.length≤24) {e:kR} (h:Lu s e):XH e:=by
 obtain ⟨gs,h1,h2,h3⟩:=h
 refine ⟨by rw [h1,List.length_map];exact h2,fun f hf=>?_⟩
 rw [h1] at hf
 obtain ⟨g,hg,rfl⟩:=List.mem_map.1 hf
 refine ⟨by unfold U5;rw [List.length_map];exact Kn hv,fun x hx=>?_⟩
 obtain ⟨v,hv2,rfl⟩:=List.mem_map.1 hx
 have hb:=(h3 g hg).vis hv2
 obtain ⟨l,hl⟩:=mh (l:=g.ws) (k:=v.toNat) (by omega)
 have h8:=(h3 g hg).row hl
 unfold YE
 rw [List.getD_eq_getElem?_getD,hl]
 exact ⟨by rw [List.length_replicate];exact h8,h8⟩
def ZM:Pn Int→List Int→rG
 | .ok v,o=>⟨0,false,v,o⟩
 | .Eu v,o=>⟨0,true,v,o⟩
 | .err e,o=>⟨e,false,0,o⟩
 | .rt,o=>⟨4,false,0,o⟩
theorem PL:yP 10100=some true:=by kernel_rfl
theorem P6 {fu:Nat} {n:Int}:kG (yN fu n) (fun v=>0≤v∧v≤400):=by
 unfold yN
 exact .bd (Tq (by omega) (by omega)) fun v hv=>.mk ⟨hv.1,by omega⟩
theorem Ns {fu:Nat} {l:List Int}:∀ (n i:Nat) (out:List Int),3≤n+i→i≤2→out.length≤i→kG (tJ fu l 2 n (i:Int) out) (oJ (fun r=>jy r fun _ a=>a.length≤2) (fun _=>False))
 | 0,i,out,h,h2,_=>by omega
 | n+1,i,out,h,h2,h3=>by
  rw [tJ]
  refine .ite (fun c=>?_) fun _=>.go (by show out.length≤2;omega)
  have hJ:kG (yD fu l (i:Int)) (oJ (fun _=>True) (fun _=>False)):=by
   unfold yD
   exact .ite (fun c=>.bd (.ix (by omega) c) fun _ _=>.go trivial) fun _=>.go trivial
  refine .el hJ (fun c _=>.bd (.app (by simp only [List.length_cons,List.length_nil];omega)) fun r hr=>?_) fun _ z=>z.elim
  subst hr
  rw [Z4 (by omega)]
  exact Ns n (i+1) _ (by omega) (by omega) (by rw [ko];omega)
theorem UN {fu:Nat} (hf:3≤fu) {l:List Int}:kG (zJ fu l 2) (fun a=>a.length≤2):=by
 unfold zJ
 refine .el (Ns fu 0 [] (by omega) (by decide) (Nat.le_refl _)) (fun r hr=>?_) fun _ z=>z.elim
 obtain ⟨b,a⟩:=r
 exact .mk hr
end Go.Proofs.Ytfglbdkfnphjgaa
set_option linter.unusedVariables false
set_option linter.unusedSimpArgs false
namespace Go.Proofs.Ytfglbdkfnphjgaa
open Go.RowKit Go.Fw
theorem MZ {fu:Nat} (hf:10100≤fu) {l:List Int}:kG (vg fu l) (fun r=>jy r fun s b=>b=true→CI s∧OI s):=by
 unfold vg
 refine .bd RO fun l2 h2=>.bd (Vn (by omega) (by omega)) fun t _=>?_
 refine .bp (R4 (by omega)) fun p r hr=>.pp hr fun a e hp=>.ite (fun _=>.mk fun z=>(by cases z)) fun c=>?_
 have hp:=hp (by omega)
 refine .Qr (RG hf hp) fun v ev hv=>?_
 obtain ⟨s,ln,e⟩:=v
 rw [pl] at hv ⊢
 rw [pl] at hv ⊢
 refine .mk fun z=>?_
 have he:e=0:=of_decide_eq_true z
 have q:=hv he
 subst he
 exact ⟨⟨fun V hV=>(q.1.1.2 V hV).2,q.2⟩,RH (by omega) hp ev⟩
theorem Pw {s:jO} (hs:CI s) (hw:OI s) {fu:Nat} (hf:10100≤fu) {f:Int} {args:List Int} {n:Int} (h0:0≤n) (hn:n≤5000) :
  ∃ h o,oz fu s f args n 0 60=some (h.take 60,o)∧GH s h∧∀ e ∈ h,Lu s e:=by
 have bad:oz fu s f args n 0 60=some ([],⟨1,false,0,[]⟩)→∃ h o,oz fu s f args n 0 60=some (h.take 60,o)∧GH s h∧∀ e ∈ h,Lu s e:=fun h=>
  ⟨[],⟨1,false,0,[]⟩,h,fun i e e' h1=>by simp at h1,fun e he=>by cases he⟩
 unfold oz traceM at bad ⊢
 cases hF:ix? s.a.b f with
 | none=>rw [hF] at bad;exact bad rfl
 | some fn=>
  rw [hF] at bad
  dsimp only at bad ⊢
  by_cases hp:args.length≠fn.a.length
  · exact bad (if_pos (.inl hp))
  obtain ⟨⟨p,e,o⟩,q,c⟩:=Qz (s:=s) (N:=n.toNat) hs (sm:=stM (jJ fu s) s n.toNat fu) (stk:=[]) (f:=f) (args:=args) (hist:=[]) (out:=[]) (Nat.zero_le _) (Nat.le_refl _) (fun e he=>by cases he)
    fun _ S x k h10 _ hG hX=>RA hs (by omega) fu [] S x k (fun g hg=>by cases hg) (Nat.zero_le _) hG hX h10 (by omega)
  have hM:=Pj (s:=s) (N:=n.toNat) hs hw (Nat.zero_le _) (Nat.le_refl _) (fun e he=>by cases he)
    (fun _ S x k h10 _ hG hX=>RA hs (by omega) fu [] S x k (fun g hg=>by cases hg) (Nat.zero_le _) hG hX h10 (by omega))
    (fun _ V f S x k r a b hV h10 _ hG hX hf' hsw hh hj he=>Yr hs hw (by omega) fu [] V f S x k r a b hV (fun g hg=>by cases hg) (Nat.zero_le _) hG hX h10 (by omega) hf' hsw hh hj he)
    (fun i e e' h1=>by simp at h1) (fun e he=>by simp at he) q
  refine ⟨e,ZM p o,?_,hM.1,c.ev⟩
  rw [if_neg (by omega),q]
  cases p <;> rfl
section
variable {fu:Nat}
theorem PE (hf:100≤fu) {a:pV} (ha:a.a.length≤8):∀ (l:List pV) (k:Nat),(∀ c ∈ l,a.g=c.g→a.a=c.a)→mK fu a l k=some (.go ())
 | [],k,_=>rfl
 | c :: l,k,h=>by
  rw [mK]
  by_cases e:a.g=c.g
  · rw [if_pos e,← h c (.head _) e,X5 (by omega) (by omega),ob,if_neg (by decide)]
    exact PE hf ha l (k+1) fun c hc=>h c (.tail _ hc)
  · rw [if_neg e]
    exact PE hf ha l (k+1) fun c hc=>h c (.tail _ hc)
theorem Tt (hf:100≤fu) {y:p8}:∀ (l:List pV) (k:Nat),(∀ a ∈ l,a.a.length≤8∧∀ c ∈ y.c,a.g=c.g→a.a=c.a)→nH fu y l k=some (.go ())
 | [],k,_=>rfl
 | a :: l,k,h=>by
  rw [nH,PE hf (h a (.head _)).1 _ 0 (h a (.head _)).2,ob]
  exact Tt hf l (k+1) fun c hc=>h c (.tail _ hc)
theorem Tm (hf:100≤fu) {s:jO} {b:List kR} (hb:b.length≤60) (hH:GH s b) (hz:∀ e ∈ b,XH e):∀ (n i:Nat),b.length+2≤n+i→i≤b.length+1→kG (kH fu s b n ((i:Int)+1)) (oJ (fun _=>True) (fun _=>False))
 | 0,i,h,h2=>by omega
 | n+1,i,h,h2=>by
  rw [kH]
  refine .ite (fun c=>?_) fun _=>.go trivial
  have rec_:kG (kH fu s b n (wr ((i:Int)+1+1))) (oJ (fun _=>True) (fun _=>False)):=by
   rw [lQ (by omega) (by omega),show ((i:Int)+1+1)=((i+1:Nat):Int)+1 by omega]
   exact Tm hf hb hH hz n (i+1) (by omega) (by omega)
  obtain ⟨e',he'⟩:=mh (l:=b) (k:=i+1) (by omega)
  obtain ⟨e,he⟩:=mh (l:=b) (k:=i) (by omega)
  rw [show ((i:Int)+1)=((i+1:Nat):Int) by omega] at rec_ ⊢
  rw [F8 he',ob,lQ (by omega) (by omega),show (((i+1:Nat):Int) - 1)=(i:Int) by omega,F8 he,ob]
  refine .ite (fun _=>rec_) fun hl=>.ite (fun _=>rec_) fun h0=>?_
  obtain ⟨x,hx⟩:=mh (l:=e.a) (k:=0) (by omega)
  obtain ⟨y,hy⟩:=mh (l:=e'.a) (k:=0) (by omega)
  rw [show (0:Int)=((0:Nat):Int) from rfl,F8 hx,ob,F8 hy,ob]
  refine .ite (fun _=>rec_) fun hfn=>.ite (fun _=>rec_) fun h1=>.ite (fun _=>rec_) fun h3=>?_
  refine .bd (.ix (by omega) (by omega)) fun info hi=>?_
  have hch:vB fu info.c=some (decide (info.c=1 ∨ info.c=2 ∨ info.c=3)):=by
   unfold vB
   by_cases k1:info.c=1
   · rw [if_pos k1];simp [k1]
   · rw [if_neg k1]
     by_cases k2:info.c=2
     · rw [if_pos k2];simp [k2]
     · rw [if_neg k2];simp [k1,k2]
  rw [hch,ob]
  refine .ite (fun _=>rec_) fun k1=>.ite (fun _=>rec_) fun k6=>.ite (fun _=>rec_) fun k10=>?_
  have k1:¬ (info.c=1 ∨ info.c=2 ∨ info.c=3):=by simpa using k1
  have hP:=hH i e e' he he' x y (by omega) hx hy ⟨by omega,info,hi,by omega,by omega,by omega,k6,k10⟩
  rw [Tt hf x.c 0 fun a ha=>⟨((hz e (List.mem_of_getElem? he)).2 x (List.mem_of_getElem? hx)).2 a ha |>.2,hP a ha⟩,ob]
  exact rec_
end
theorem MO (l a:List Int) (n:Int):rz 10100 l a n=some true:=by
 have h:kG (rz 10100 l a n) (fun b=>b=true):=by
  unfold rz
  rw [PL]
  refine .bp (MZ (by decide)) fun s b hs=>.ite (fun _=>.mk rfl) fun c=>?_
  obtain ⟨hs,hw⟩:=hs (by simpa using c)
  refine .bd (UN (by decide)) fun x hx=>?_
  obtain ⟨N,hN,h0,h4⟩:=P6 (fu:=10100) (n:=n)
  rw [hN,ob]
  obtain ⟨h,o,ht,hH,he⟩:=Pw hs hw (Nat.le_refl 10100) (f:=0) (args:=x) h0 (by omega)
  rw [ht,ob,pl]
  have Z7:=List.length_take_le 60 h
  have hH2:GH s (h.take 60):=fun i e e' h1 h2=>by
   rw [List.getElem?_take] at h1 h2
   split at h1
   · split at h2
     · exact hH i e e' h1 h2
     · cases h2
   · cases h1
  refine .el (show kG (kH 10100 s (h.take 60) 10100 (((0:Nat):Int)+1)) _ from Tm (by decide) Z7 hH2 (fun e he'=>(he e (List.mem_of_mem_take he')).sz hs.vn) 10100 0 (by omega) (by omega)) (fun _ _=>.mk rfl) fun _ z=>z.elim
 obtain ⟨v,h1,rfl⟩:=h
 exact h1
end Go.Proofs.Ytfglbdkfnphjgaa
set_option linter.unusedVariables false
namespace Go.Proofs.Ytfglbdkfnphjgaa
open Go.ChangeShapes Go.WideShapes Go.ChangeAt Go.RowKit Go.Fw Go.Joins
theorem Try.own:ownKnob Try.prog.godebug=none:=by kernel_rfl
theorem Try.laidOut:laidOutB Try.prog=true:=by kernel_rfl
theorem QC {w:World} {a:Addr} {v:Value} (h:w.cell? a=some v):∃ b o,a=⟨b,o,none⟩∧b < w.heap.size:=by
 have h1:=World.cell?_spot h
 obtain ⟨b,o,s⟩:=a
 simp only at h1
 subst h1
 exact ⟨b,o,rfl,World.block_lt_of_cell? w _ h⟩
theorem open_list {H:Type} {enc:TypeId × Value→H} {w:World} {base:Nat} {spare:Nat→Bool} {held:Bool} {fuel:Nat} {cs:List Value} {x:DataW H × List MemPlace} (h:DataW.trod enc Try.prog w base spare held fuel 22 cs=some x) :
   ∃ A c zs,cs=[.slice A zs.length c]∧kN (α:=Int) (fun _=>True) w A c zs:=by
 rcases open_ints Try.underlying22 Try.underlying3 (by kernel_rfl) h with ⟨rfl,hx⟩|⟨a,len,cap,zs,rfl,hb,hl,hm,hz,hx,hcell,hwz⟩
 · exact ⟨none,0,[],rfl,kN.nil⟩
 · have hlz:len≤zs.length:=by rw [hz];split <;> omega
   have hlt:(zs.take len).length=len:=by rw [List.length_take];omega
   refine ⟨some a,cap,zs.take len,by rw [hlt],by omega,hm,fun h0=>?_⟩
   have h1:=hcell 0 (by omega)
   rw [Addr.add_zero'] at h1
   obtain ⟨b,o,rfl,hbb⟩:=QC h1
   refine ⟨rfl,trivial,hbb,fun i z hi=>⟨[.int .i64 z],?_,rfl⟩⟩
   rw [List.getElem?_take] at hi
   split at hi
   · rename_i hj
     have h2:=hcell i (by omega)
     rw [Addr.add_lit] at h2
     intro k v hk
     obtain _ | k:=k
     · obtain rfl:Value.int .i64 z=v:=Option.some.inj hk
       have hd:zs.getD i 0=z:=by rw [List.getD_eq_getElem?_getD,hi];rfl
       rw [hd] at h2
       exact (by simpa [Rp.sz,nS,pE] using h2)
     · cases hk
   · cases hi
theorem Oo {w:World} {A B:Option Addr} {c d:Nat} {l m:List Int} (h:kN (fun _=>True) w A c l) (k:kN (fun _=>True) w B d m):Pre w (fun _=>True) [] [.l A c l,.l B d m]:=⟨fun it hi=>(by cases hi),fun it hi=>(by cases hi),List.Pairwise.nil,fun q hd=>by
 simp only [List.mem_cons,List.not_mem_nil,or_false] at hd
 rcases hd with rfl | rfl
 · exact h
 · exact k⟩
end Go.Proofs.Ytfglbdkfnphjgaa
set_option linter.unusedVariables false
namespace Go.Proofs.Ytfglbdkfnphjgaa
open Go.ChangeShapes Go.WideShapes Go.ChangeAt Go.RowKit Go.Fw Go.Joins
theorem D5 (w:World) {A0:Option Addr} {c0:Nat} {x0:List Int} (h0:kN (fun _=>True) w A0 c0 x0) {A1:Option Addr} {c1:Nat} {x1:List Int} (h1:kN (fun _=>True) w A1 c1 x1) {x2:Int}:Calls Try.prog 6 #[.slice A0 x0.length c0,.slice A1 x1.length c1,Vi x2] w (qW fun v w'=>v=.bool true∧Ext w w'):=
 (Cw 10100 (Oo h0 h1) (MO x0 x1 x2)).mono fun e w' he=>by
  obtain ⟨v,rfl,hv,hb⟩:=he
  exact ⟨v,rfl,hv,hb.ex⟩
set_option maxRecDepth 100000 in
theorem Ci (os:Os) (started:os.Started) (H:Type) (enc:TypeId × Value→H) :
  ReturnsInHanded {} Try.checked os 6 .any (Rows.interpStaysSpec.pre6 enc Try.prog Try.f6 Rows.interpStaysRow.domain false) (Rows.interpStaysSpec.post enc Try.prog Try.f6 false true false false):=by
 refine returnsInHanded_of_change (C:=Try.checked) Try.own started (by kernel_rfl) Try.func6
  (ChangeSpec.witness6 (enc:=enc) (C:=Try.checked) false ⟨#[],#[.slice none 0 0,.slice none 0 0,.int .i64 0],[]⟩ 8 (by kernel_rfl) (by kernel_rfl) (by kernel_rfl) (by kernel_rfl)) ?_
 intro W base args ds gs before hval0 hW hcnd _
 have hval:∀ (j:Nat) t v,Try.f6.params[j]?=some t→args[j]?=some v→Value.okWide Try.prog W .any base t v:=hval0
 have hW':=hW
 obtain ⟨p,q,hA0,hV,rfl,hfz,hnd⟩:=hW
 have hA:DataW.TrodAll enc Try.prog W 0 (fun _=>true) true Try.f6.params.toList args.toList ds p:=hA0
 rw [Try.params6] at hA hval
 obtain ⟨v0,vs0,d0,ds0,p0,q0,hargs,rfl,rfl,h0,r0⟩:=trodAll_cons hA
 obtain ⟨v1,vs1,d1,ds1,p1,q1,rfl,rfl,rfl,h1,r1⟩:=trodAll_cons r0
 obtain ⟨v2,vs2,d2,ds2,p2,q2,rfl,rfl,rfl,h2,r2⟩:=trodAll_cons r1
 obtain ⟨rfl,rfl,rfl⟩:=trodAll_nil r2
 obtain rfl:args=#[v0,v1,v2]:=by cases args;simp_all
 obtain ⟨rfl,rfl⟩:=trodVars_none hV
 have k0:=h0
 have lt0:∀ x ∈ p0,x.block < W.heap.size:=by obtain ⟨m,hm⟩:=k0;exact DataW.trod_lt m _ _ _ hm
 have k1:=h1
 have lt1:∀ x ∈ p1,x.block < W.heap.size:=by obtain ⟨m,hm⟩:=k1;exact DataW.trod_lt m _ _ _ hm
 have k2:=h2
 have lt2:∀ x ∈ p2,x.block < W.heap.size:=by obtain ⟨m,hm⟩:=k2;exact DataW.trod_lt m _ _ _ hm
 obtain ⟨a0,n0,c0,rfl⟩:=okWide_slice Try.underlying22 (hval 0 22 v0 rfl rfl)
 obtain ⟨f0,hf0⟩:=h0
 obtain ⟨A0,e0,l0,hcs0,hl0⟩:=open_list hf0
 simp [Value.cells] at hcs0
 obtain ⟨rfl,rfl,rfl⟩:=hcs0
 obtain ⟨a1,n1,c1,rfl⟩:=okWide_slice Try.underlying22 (hval 1 22 v1 rfl rfl)
 obtain ⟨f1,hf1⟩:=h1
 obtain ⟨A1,e1,l1,hcs1,hl1⟩:=open_list hf1
 simp [Value.cells] at hcs1
 obtain ⟨rfl,rfl,rfl⟩:=hcs1
 obtain ⟨x2,rfl⟩:=okWide_int Try.underlying3 (hval 2 3 v2 rfl rfl)
 clear hA0 hval0
 refine (D5 W hl0 hl1).mono fun e W' he=>?_
 obtain ⟨v,rfl,rfl,bel⟩:=he
 exact ⟨_,rfl,_,_,_,[],_,[],hW',trodAll_mk1 (shut_bool Try.underlying4 _),(trodAll_cons_mk (Below.trod Try.laidOut (by kernel_rfl) (of_decide_eq_true (by kernel_rfl)) k0 bel lt0) (trodAll_cons_mk (Below.trod Try.laidOut (by kernel_rfl) (of_decide_eq_true (by kernel_rfl)) k1 bel lt1) (trodAll_cons_mk (Below.trod Try.laidOut (by kernel_rfl) (of_decide_eq_true (by kernel_rfl)) k2 bel lt2) trodAll_mk0))),rfl,Below.frame bel _,fun h=>by cases h⟩
theorem interpStays_holds:Rows.InterpStaysSaid:=
 OpenClaim.holds_of_wide 6 Try.f6 rfl rfl rfl rfl rfl rfl rfl ⟨rfl,rfl,rfl,rfl,rfl⟩ rfl rfl rfl rfl rfl (by kernel_rfl) Try.func6 (by kernel_rfl)
  (of_decide_eq_true (by kernel_rfl)) (by unfold Func.isWrapper;first | (rw [if_pos (by decide +kernel)];kernel_rfl)|(rw [if_neg (by decide +kernel)];exact ⟨rfl,rfl⟩))
  (fun os started H enc _=>Ci os started H enc)
end Go.Proofs.Ytfglbdkfnphjgaa
