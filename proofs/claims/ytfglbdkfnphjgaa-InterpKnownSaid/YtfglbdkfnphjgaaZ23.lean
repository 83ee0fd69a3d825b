/- Contracts, printed by gen3.py. -/
import Derived.Test.YtfglbdkfnphjgaaZ5
import Derived.Test.YtfglbdkfnphjgaaZ18
import Derived.Test.YtfglbdkfnphjgaaZ22
import Derived.Test.YtfglbdkfnphjgaaZ19
import Derived.Test.YtfglbdkfnphjgaaLt
import Derived.WalkKit
import Derived.ProofKit
import Derived.OpenShut
import Derived.ChangeOld
import Derived.SizedLaws
import Derived.Lib.SmallJoins
import Derived.Deep.Slices
import Derived.Deep.Fields
set_option linter.unusedVariables false
set_option maxHeartbeats 12800000
set_option linter.unusedSimpArgs false
set_option maxRecDepth 4000
namespace Go.Proofs.Ytfglbdkfnphjgaa
open Go.RowKit Go.Fw
noncomputable section
def GR (m:BA→Option (jK)):Prop:=∀ {k:World} {p:Nat→Prop} {o:BA}  {j:jK},Pre k p [] []→m o=some j→
 Calls Try.prog 37 #[T o] k (qQ fun v w=>∃ (a:OA)(b:Nat)(c:OA)(d:Nat)(e:OA)(f:Nat)(h:OA)(i:Nat),v=.agg #[Z a j.a.a b,Z c j.a.b d,Z e j.b f,Z h j.c i]∧Bx k w p (lS []) [] [.l a b j.a.a,.l c d j.a.b,.l e f j.b,.l h i j.c])
def AB (fu:Nat)(h:BA):Option (jK):=
 (vX fu h).bind fun i=>
 jy i fun a i=>jy i fun c d=>
 (vY fu a).bind fun i=>
 jy i fun b i=>jy i fun e f=>
 some b
theorem GJ (fu:Nat):GR (AB fu):=by
 intro H Y C I w u
 unfold AB at u
 have k:=w.bx
 clear w
 generalize J:lS _=G at k ⊢
 refine cf Try.func37 r ?_
 refine lM [(0,T C)] ⟨r,y⟩ fun a0=>?_
 refine q (g (nM (nD k (jU vR)) ?_))
 rintro _ K ⟨L,rfl,k⟩
 refine n (q (g (s (kY r) ?_)))
 obtain ⟨⟨t,x,z⟩,D,u⟩:=bs u
 replace u:=pi u
 replace u:=pi u
 have hc:=(CS fu) (k.pr [] [0] [] r)  D
 refine sc (ec Tq r) hc ?_
 rintro _ M ⟨l,m,o,p,rfl,v⟩
 replace k:=k.cl [] [0] r v r
 try dsimp only [pick,nth,ca,na] at k
 refine s sM (s (kg r r) (s (kg r r) (s (kg r r) (nM (nD k (jU sS)) ?_))))
 rintro _ N ⟨Q,rfl,k⟩
 refine kZ (tb k 0 [Z l t.a m,Z o t.b p] r sS r r r r r (show _=#[Z l t.a m,Z o t.b p] from r)) ?_
 intro R k
 try dsimp only [List.set] at k
 refine s (xi r) (s (xi r) (n (q (g (s (mR [Z l t.a m,Z o t.b p] Ca r sS r r (Cells.part (k.bk 0 r).cells (o2:=0) r)) ?_)))))
 obtain ⟨⟨a,A,B⟩,F,u⟩:=bs u
 replace u:=pi u
 replace u:=pi u
 have hc:=(Dh fu) (k.pr [] [0,1] [0,1] r)  F
 refine sc (ec SY r) hc ?_
 rintro _ S ⟨b,c,d,e,f,h,i,j,rfl,v⟩
 replace k:=k.cl [] [0,1] r v r
 try dsimp only [pick,nth,ca,na] at k
 refine s sM (s (kg r r) (s (kg r r) (s (kg r r) (nM (nD k (jU vR)) ?_))))
 rintro _ U ⟨W,rfl,k⟩
 refine kZ (tb k 0 [Z b a.a.a c,Z d a.a.b e,Z f a.b h,Z i a.c j] r vR r r r r r (show _=#[Z b a.a.a c,Z d a.a.b e,Z f a.b h,Z i a.c j] from r)) ?_
 intro X k
 try dsimp only [List.set] at k
 refine s (xi r) (s (xi r) (n (q (g (s (mR [Z b a.a.a c,Z d a.a.b e,Z f a.b h,Z i a.c j] CK r vR r r (Cells.part (k.bk 0 r).cells (o2:=0) r)) (kZ (tb k 2 [Z b a.a.a c,Z d a.a.b e,Z f a.b h,Z i a.c j] r vR r r r r r (show _=#[Z b a.a.a c,Z d a.a.b e,Z f a.b h,Z i a.c j] from r)) ?_))))))
 intro w8 k
 try dsimp only [List.set] at k
 refine n (kU ?_)
 obtain rfl:=sm u
 refine jB r (tV r CK r vR r (k.bk 2 r)) ?_
 exact ⟨b,c,d,e,f,h,i,j,r,(k.ad [] [0,1,2,3])⟩
def Ih (m:Option (Bool)):Prop:=∀ {a:World} {c:Nat→Prop}  {b:Bool},Pre a c [] []→m=some b→
 Calls Try.prog 14 #[] a (qQ fun v w=>v=.bool b∧Bx a w c (lS []) [] [])
def yQ (fu:Nat):Option (Bool):=
 (AB fu (⟨#[102,117,110,99,32,102,40,97,41,32,123,32,97,32,61,32,97,32,43,32,49,59,32,114,101,116,117,114,110,32,97,59,32,125]⟩:BA)).bind fun c=>
 (ow fu c 0 ([4]:List Int) 10 0 10).bind fun i=>
 jy i fun b a=>
 if a.d=0 then
  if a.c=5 then
   if (!a.b)=true then
    if (b.length:Int)=2 then
     (ix b 1).bind fun d=>
     if (d.a.length:Int)=1 then
      (ix d.a 0).bind fun e=>
      if (e.b.length:Int)=1 then
       (ix e.b 0).bind fun f=>
       (ix f.a 0).bind fun h=>
       some (decide (h=5))
      else
       some false
     else
      some false
    else
     some false
   else
    some false
  else
   some false
 else
  some false
theorem Dj (fu:Nat):Ih (yQ fu):=by
 intro w0 aD r0 hP b
 unfold yQ at b
 have a:=hP.bx
 clear hP
 generalize hG:lS _=G at a ⊢
 refine cf Try.func14 r ?_
 refine lM [] y fun aE=>?_
 refine q (g (s (ko r) (n (q (g ?_)))))
 obtain ⟨ag,h1,b⟩:=bs b
 have hc:=(GJ fu) (a.pr [] [] [] r)  h1
 refine sc (ec Xw r) hc ?_
 rintro _ w1 ⟨M,N,Q,R,S,U,W,X,rfl,hK⟩
 replace a:=a.cl [] [] r hK r
 try dsimp only [pick,nth,ca,na] at a
 refine nM (jN a [[V 4]] ([4]:List Int) (zF r) r r (by decide) ⟨r,y⟩) ?_
 rintro _ w2 ⟨b2,rfl,a⟩
 replace a:=a.OB 0 0 r r
 try dsimp only [List.eraseIdx] at a
 obtain ⟨⟨ah,c⟩,h4,b⟩:=bs b
 replace b:=pi b
 have hc:=(sN fu) (a.pr [] [] [1,2,3,4,0] r)  h4
 refine sc (ec JO r) hc ?_
 rintro _ w4 ⟨Y,a0,f,j,rfl,hK⟩
 replace a:=a.cl [] [] r hK r
 try dsimp only [pick,nth,ca,na] at a
 refine s sM (s (kg r r) (s (kg r r) (nM (nD a (jU BH)) ?_)))
 rintro _ w5 ⟨b5,rfl,a⟩
 refine s (mG r) (kZ (tb a 0 [V c.d,.bool c.b,V c.c,Z f c.a j] r BH r r r r r (show _=#[V c.d,.bool c.b,V c.c,Z f c.a j] from r)) ?_)
 intro w6 a
 try dsimp only [List.set] at a
 refine n (q (g (s (Qz r) (s (BK r (a.bk 0 r) r) (s (kH r r) (s (kQ r) ?_))))))
 rcases iv b with ⟨h7,b⟩|⟨h7,b⟩
 ·rw [decide_eq_true h7]
  refine ku r (s (Qb r) (ku r (s (l3 r (a.bk 0 r) r) (ku r (s (kH r r) (s (kG r r) (s (kQ r) ?_)))))))
  rcases iv b with ⟨h8,b⟩|⟨h8,b⟩
  ·rw [decide_eq_true h8]
   refine ku r (s (TG r) (ku r (s (l4 r (a.bk 0 r) r) (ku r (s (Ae r) (s (kG r r) (s (kQ r) ?_)))))))
   rcases iv b with ⟨h9,b⟩|⟨h9,b⟩
   ·rw [h9]
    refine ku r (s (nL r) (ku r (s (lF Kk r) (ku r (s (kH r r) (s (kG r r) (s (kQ r) ?_)))))))
    rcases iv b with ⟨v,b⟩|⟨v,b⟩
    ·rw [decide_eq_true v]
     refine ku r (s (nL r) ?_)
     obtain ⟨ab,e,b⟩:=bs b
     obtain ⟨an,t,e⟩:=kR e
     obtain ⟨ai,a2,a⟩:=a.nm 0 rfl e
     obtain ⟨w,x,rfl,z⟩:=kV.out a2
     replace a:=a.kr (d:=.l w x ab.a) z
     refine ku r (s (kW Kk CJ r r t (a.dl 2 r) e) (ku r (s (Le r) (ku r (s (jP GZ r r ((a.dc 1 r) 0 _ r)) (ku r (s (lF GZ r) (ku r (s (kH r r) (s (kG r r) (s (kQ r) ?_)))))))))))
     rcases iv b with ⟨A,b⟩|⟨A,b⟩
     ·rw [decide_eq_true A]
      refine ku r (s (nL r) (ku r (s (kW Kk CJ r r t (a.dl 2 r) e) (ku r (s (Le r) (ku r (s (jP GZ r r ((a.dc 1 r) 0 _ r)) ?_)))))))
      obtain ⟨ac,m,b⟩:=bs b
      obtain ⟨ao,u,m⟩:=kR m
      obtain ⟨aj,a3,a⟩:=a.nm 0 rfl m
      obtain ⟨B,C,rfl,D⟩:=pK.out a3
      replace a:=a.kr (d:=.l B C ac.b) D
      refine ku r (s (kW GZ Ba r r u (a.dl 2 r) m) (ku r (s (Ec r) (ku r (s (jP Fb r r ((a.dc 1 r) 2 _ r)) (ku r (s (lF Fb r) (ku r (s (kH r r) (s (kG r r) (s (kQ r) ?_)))))))))))
      rcases iv b with ⟨E,b⟩|⟨E,b⟩
      ·rw [decide_eq_true E]
       refine ku r (s (nL r) (ku r (s (kW Kk CJ r r t (a.dl 4 r) e) (ku r (s (Le r) (ku r (s (jP GZ r r ((a.dc 3 r) 0 _ r)) (ku r (s (kW GZ Ba r r u (a.dl 2 r) m) (ku r (s (Ec r) (ku r (s (jP Fb r r ((a.dc 1 r) 2 _ r)) ?_)))))))))))))
       obtain ⟨a4,o,b⟩:=bs b
       obtain ⟨ap,a5,o⟩:=kR o
       obtain ⟨ak,a6,a⟩:=a.nm 0 rfl o
       obtain ⟨F,H,I,J,rfl,K,L⟩:=rP.out a6
       replace a:=a.kr (d:=.l F H a4.b) K
       replace a:=a.kr (d:=.l I J a4.a) L
       refine ku r (s (kW Fb Gf r r a5 (a.dl 3 r) o) (ku r (s (Ql r) (ku r (s (jP sH r r ((a.dc 2 r) 2 _ r)) ?_)))))
       obtain ⟨ae,p,b⟩:=bs b
       obtain ⟨aq,a7,p⟩:=kR p
       refine ku r (s (kW sH mP r r a7 (a.dl 0 r) p) (ku r (s (jP F8 r r ((uK (ds:=[V ae]) (a.dl 0 r) p (fun _ h=>h)) 0 _ r)) (ku r (s (kH r r) (s (kG r r) (s (ko r) (n (kU ?_)))))))))
       obtain rfl:=sm b
       refine jB r (lq r) ?_
       exact ⟨r,(a.ad [] [])⟩
      rw [decide_eq_false E]
      refine jL r (jL r (jL r (jL r (jL r (jL r (jL r (jL r (jL r (jL r (jL r (jL r (jL r (s (jZ r r) ?_)))))))))))))
      refine s (ko r) (n (kU ?_))
      obtain rfl:=sm b
      refine jB r (lq r) ?_
      exact ⟨r,(a.ad [] [])⟩
     rw [decide_eq_false A]
     refine jL r (jL r (jL r (jL r (jL r (jL r (jL r (jL r (jL r (s (jZ r r) (s (kQ r) (jL r (jL r (jL r ?_)))))))))))))
     refine jL r (jL r (jL r (jL r (jL r (jL r (jL r (jL r (jL r (jL r (s (jZ r r) (s (ko r) (n (kU ?_)))))))))))))
     obtain rfl:=sm b
     refine jB r (lq r) ?_
     exact ⟨r,(a.ad [] [])⟩
    rw [decide_eq_false v]
    refine jL r (jL r (jL r (jL r (jL r (jL r (s (jZ r r) (s (kQ r) (jL r (jL r (jL r (jL r (jL r (jL r ?_)))))))))))))
    refine jL r (jL r (jL r (s (jZ r r) (s (kQ r) (jL r (jL r (jL r (jL r (jL r (jL r (jL r (jL r (jL r ?_)))))))))))))
    refine jL r (jL r (jL r (jL r (s (jZ r r) (s (ko r) (n (kU ?_)))))))
    obtain rfl:=sm b
    refine jB r (lq r) ?_
    exact ⟨r,(a.ad [] [])⟩
   replace h9:=nt h9
   rw [h9]
   refine jL r (jL r (jL r (s (jZ r r) (s (kQ r) (jL r (jL r (jL r (jL r (jL r (jL r (s (jZ r r) (s (kQ r) (jL r ?_)))))))))))))
   refine jL r (jL r (jL r (jL r (jL r (jL r (jL r (jL r (s (jZ r r) (s (kQ r) (jL r (jL r (jL r (jL r ?_)))))))))))))
   refine jL r (jL r (jL r (jL r (jL r (jL r (jL r (jL r (jL r (s (jZ r r) (s (ko r) (n (kU ?_))))))))))))
   obtain rfl:=sm b
   refine jB r (lq r) ?_
   exact ⟨r,(a.ad [] [])⟩
  rw [decide_eq_false h8]
  refine jL r (jL r (jL r (s (jZ r r) (s (kQ r) (jL r (jL r (jL r (s (jZ r r) (s (kQ r) (jL r (jL r (jL r (jL r ?_)))))))))))))
  refine jL r (jL r (s (jZ r r) (s (kQ r) (jL r (jL r (jL r (jL r (jL r (jL r (jL r (jL r (jL r (s (jZ r r) ?_)))))))))))))
  refine s (kQ r) (jL r (jL r (jL r (jL r (jL r (jL r (jL r (jL r (jL r (jL r (jL r (jL r (jL r ?_)))))))))))))
  refine s (jZ r r) (s (ko r) (n (kU ?_)))
  obtain rfl:=sm b
  refine jB r (lq r) ?_
  exact ⟨r,(a.ad [] [])⟩
 rw [decide_eq_false h7]
 refine jL r (jL r (jL r (s (jZ r r) (s (kQ r) (jL r (jL r (jL r (s (jZ r r) (s (kQ r) (jL r (jL r (jL r (s (jZ r r) ?_)))))))))))))
 refine s (kQ r) (jL r (jL r (jL r (jL r (jL r (jL r (s (jZ r r) (s (kQ r) (jL r (jL r (jL r (jL r (jL r ?_)))))))))))))
 refine jL r (jL r (jL r (jL r (s (jZ r r) (s (kQ r) (jL r (jL r (jL r (jL r (jL r (jL r (jL r (jL r ?_)))))))))))))
 refine jL r (jL r (jL r (jL r (jL r (s (jZ r r) (s (ko r) (n (kU ?_))))))))
 obtain rfl:=sm b
 refine jB r (lq r) ?_
 exact ⟨r,(a.ad [] [])⟩
def Cj (m:(List Int)→(List Int)→Int→Option (Bool)):Prop:=∀ {e:World} {k:Nat→Prop} {f:(List Int)} {h:(List Int)} {i:Int} {a:Option Addr} {b:Nat} {c:Option Addr} {d:Nat} {j:Bool},Pre e k [] [.l a b f,.l c d h]→m f h i=some j→
 Calls Try.prog 5 #[Z a f b,Z c h d,V i] e (qQ fun v w=>v=.bool j∧Bx e w k (lS []) [] [])
def nH (fu:Nat)(b:jK) (c:pK):List Int→Nat→Option (Ld (Unit) (Bool))
 | [],_=>some (.go ())
 | d :: f,e=>
 (ix c.b (e:Int)).bind fun a=>
 (ix b.b c.k).bind fun h=>
 if a.g≠d then
  some (.out false)
 else
  (ix h d).bind fun i=>
  if (a.a.length:Int)≠i.a then
   some (.out false)
  else
   if (a.b.length:Int)≠(a.a.length:Int) then
    some (.out false)
   else
    nH fu b c f (e+1)
def nI (fu:Nat)(a:jK):List pK→Nat→Option (Ld (Unit) (Bool))
 | [],_=>some (.go ())
 | b :: e,f=>
 if b.k < 0 then
  some (.out false)
 else
  if (a.b.length:Int)≤b.k then
   some (.out false)
  else
   (tJ fu a b.k b.a).bind fun c=>
   if (b.b.length:Int)≠(c.length:Int) then
    some (.out false)
   else
    (tJ fu a b.k b.a).bind fun d=>
    (nH fu a b d 0).bind fun h=>h.el (fun _=>
    nI fu a e (f+1)
    ) (fun o=>some (.out o))
def nE (fu:Nat)(a:jK):List kV→Nat→Option (Ld (Unit) (Bool))
 | [],_=>some (.go ())
 | b :: c,d=>
 (nI fu a b.a 0).bind fun e=>e.el (fun _=>
 nE fu a c (d+1)
 ) (fun o=>some (.out o))
def ru (fu:Nat)(k:(List Int)) (l:(List Int)) (m:Int):Option (Bool):=
 (vk fu k).bind fun p=>
 jy p fun a e=>
 if (!e)=true then
  (yQ fu).bind fun f=>
  some f
 else
  (zq fu l 2).bind fun h=>
  (yL fu m).bind fun i=>
  (ow fu a 0 h i 0 40).bind fun p=>
  jy p fun b j=>
  (nE fu a b 0).bind fun p=>p.el (fun _=>
  (wC fu b).bind fun c=>
  if c=true then
   (yQ fu).bind fun d=>
   some d
  else
   some false
  ) (fun o=>some o)
theorem Cr (fu:Nat):Cj (ru fu):=by
 intro w0 cu x0 x1 x2 al am an ao r0 hP J
 unfold ru at J
 have b:=hP.bx
 clear hP
 generalize hG:lS _=G at b ⊢
 refine cf Try.func5 r ?_
 refine lM [(0,Z al x0 am),(1,Z an x1 ao),(2,V x2)] ⟨r,r,r,y⟩ fun cv=>?_
 refine q (g (s (ko r) (n (q (g (s (nL r) ?_))))))
 obtain ⟨⟨a,bo⟩,h1,J⟩:=bs J
 replace J:=pi J
 have hc:=(EW fu) (b.pr [] [] [0] r)  h1
 refine sc (ec Yc r) hc ?_
 rintro _ w1 ⟨m,o,p,t,u,v,x,z,rfl,U⟩
 replace b:=b.cl [] [] r U r
 try dsimp only [pick,nth,ca,na] at b
 refine s sM (s (kg r r) (s (kg r r) (nM (nD b (jU vR)) ?_)))
 rintro _ w2 ⟨b2,rfl,b⟩
 refine kZ (tb b 0 [Z m a.a.a o,Z p a.a.b t,Z u a.b v,Z x a.c z] r vR r r r r r (show _=#[Z m a.a.a o,Z p a.a.b t,Z u a.b v,Z x a.c z] from r)) ?_
 intro w3 b
 try dsimp only [List.set] at b
 refine s (ko r) (n (q (q (g (s (kQ r) (s (Ae r) (n ?_)))))))
 rcases iv J with ⟨h4,J⟩|⟨h4,J⟩
 ·refine jJ (cb h4) (q (g ?_))
  obtain ⟨bp,h5,J⟩:=bs J
  have hc:=(Dj fu) (b.pr [] [0] [] r)  h5
  refine sc (ec TY r) hc ?_
  rintro _ w5 ⟨rfl,U⟩
  replace b:=b.cl [] [0] r U r
  try dsimp only [pick,nth,ca,na] at b
  refine s (ko r) (n (kU ?_))
  obtain rfl:=sm J
  refine jB r (lq r) ?_
  exact ⟨r,(b.ad [] [])⟩
 replace h4:=nt h4
 refine jD (cb h4) (wk (q ?_))
 obtain ⟨bq,h6,J⟩:=bs J
 obtain ⟨bu,h7,J⟩:=bs J
 obtain ⟨⟨B,C⟩,h9,J⟩:=bs J
 replace J:=pi J
 refine nT (fun f w=>∃ (e:OA)(j:Nat),Has f [(7,Pt b2),(9,Z e B j)]∧Bx w0 w cu G [.box b2 30 #[Z m a.a.a o,Z p a.a.b t,Z u a.b v,Z x a.c z]] [.l m o a.a.a,.l p t a.a.b,.l u v a.b,.l x z a.c,.l e j B]) (fun Jd hJd=>?_) ?_
 ·refine qc b [0] [] [] (by kernel_rfl) ?_
  replace b:=b.drew
  have c:=(b.dp [])
  refine uF 0 r (fun hS=>mR [Z m a.a.a o,Z p a.a.b t,Z u a.b v,Z x a.c z] CK r vR r r (Cells.part (hS.bk 0 r).cells (o2:=0) r)) c (pF 1 r (nL r) c (pF 3 r (mi r) c ?_))
  refine mM 2 [9] (by kernel_rfl) (jI ?_ (jI ?_ lJ))
  ·have hc:=(DX fu) (b.pr [] [0] [5] r)  h6
   refine oc r r (ec Tw r) hc ?_
   rintro _ w6 ⟨aa,ab,ac,rfl,U⟩
   have a3:=b.qW.size
   replace b:=b.cl [] [0] r U r
   try dsimp only [pick,nth,ca,na] at b
   replace b:=b.Xr 0 w0.heap.size r a3
   try dsimp only [List.set] at b
   have c:=(b.ad [1] [])
   refine ⟨(sF c),?_⟩
   refine mM 4 [9] (by kernel_rfl) (jI ?_ (jI ?_ lJ))
   ·have hc:=(AO fu) (b.pr [] [0,1] [] r)  h7
    refine oc r r (ec Pj r) hc ?_
    rintro _ w7 ⟨rfl,U⟩
    replace b:=b.cl [] [0,1] r U r
    try dsimp only [pick,nth,ca,na] at b
    have c:=(b.ad [1] [])
    refine ⟨(sF c),?_⟩
    refine mM 5 [9] (by kernel_rfl) (jI ?_ (jI ?_ lJ))
    ·replace b:=b.OB 0 0 r r
     try dsimp only [List.eraseIdx] at b
     have hc:=(sN fu) (b.pr [] [0] [1,2,3,4,0] r)  h9
     refine oc r r (ec JO r) hc ?_
     rintro _ w9 ⟨e,j,F,H,rfl,U⟩
     replace b:=b.cl [] [0] r U r
     try dsimp only [pick,nth,ca,na] at b
     have c:=(b.dp [])
     refine ⟨(sF c),?_⟩
     refine pF 6 r (sM) c (pF 7 r (kg r r) c (pF 8 r (kg r r) c ?_))
     refine hO 9 (oo r r (nD b (jU BH)) ?_)
     rintro _ bP ⟨bQ,rfl,b⟩
     have c:=(b.ad [1] [])
     refine ⟨(sF c),?_⟩
     refine pF 10 r (mG r) c ?_
     refine hO 11 (os r r (tb b 0 [V C.d,.bool C.b,V C.c,Z F C.a H] r BH r r r r r (show _=#[V C.d,.bool C.b,V C.c,Z F C.a H] from r)) ?_)
     intro bR b
     try dsimp only [List.set] at b
     have c:=(b.ad [1] [])
     refine ⟨(sF c),?_⟩
     refine hD ?_
     exact hJd _ _ ⟨e,j,⟨r,r,y⟩,(b.ad [1] [3,4,5,6,0])⟩
    refine oo r r (nD b (jU BH)) ?_
    rintro _ bS ⟨bT,rfl,b⟩
    have c:=(b.ad [2] [])
    refine ⟨(sF c),?_⟩
    replace b:=b.OB 1 0 r r
    try dsimp only [List.eraseIdx] at b
    have hc:=(sN fu) (b.pr [] [0,1] [1,2,3,4,0] r)  h9
    refine hO 5 (oc r r (ec JO r) hc ?_)
    rintro _ w9 ⟨e,j,F,H,rfl,U⟩
    replace b:=b.cl [] [0,1] r U r
    try dsimp only [pick,nth,ca,na] at b
    have c:=(b.ad [1] [])
    refine ⟨(sF c),?_⟩
    refine pF 6 r (sM) c (pF 7 r (kg r r) c (pF 8 r (kg r r) c (pF 10 r (mG r) c ?_)))
    refine hO 11 (os r r (tb b 0 [V C.d,.bool C.b,V C.c,Z F C.a H] r BH r r r r r (show _=#[V C.d,.bool C.b,V C.c,Z F C.a H] from r)) ?_)
    intro bU b
    try dsimp only [List.set] at b
    have c:=(b.ad [1] [])
    refine ⟨(sF c),?_⟩
    refine hD ?_
    exact hJd _ _ ⟨e,j,⟨r,r,y⟩,(b.ad [1] [3,4,5,6,0])⟩
   refine oo r r (nD b (jU BH)) ?_
   rintro _ bV ⟨bW,rfl,b⟩
   have c:=(b.ad [2] [])
   refine ⟨(sF c),?_⟩
   have hc:=(AO fu) (b.pr [] [0,1,2] [] r)  h7
   refine hO 4 (oc r r (ec Pj r) hc ?_)
   rintro _ w7 ⟨rfl,U⟩
   replace b:=b.cl [] [0,1,2] r U r
   try dsimp only [pick,nth,ca,na] at b
   have c:=(b.ad [2] [])
   refine ⟨(sF c),?_⟩
   replace b:=b.OB 1 0 r r
   try dsimp only [List.eraseIdx] at b
   have hc:=(sN fu) (b.pr [] [0,1] [1,2,3,4,0] r)  h9
   refine hO 5 (oc r r (ec JO r) hc ?_)
   rintro _ w9 ⟨e,j,F,H,rfl,U⟩
   replace b:=b.cl [] [0,1] r U r
   try dsimp only [pick,nth,ca,na] at b
   have c:=(b.ad [1] [])
   refine ⟨(sF c),?_⟩
   refine pF 6 r (sM) c (pF 7 r (kg r r) c (pF 8 r (kg r r) c (pF 10 r (mG r) c ?_)))
   refine hO 11 (os r r (tb b 0 [V C.d,.bool C.b,V C.c,Z F C.a H] r BH r r r r r (show _=#[V C.d,.bool C.b,V C.c,Z F C.a H] from r)) ?_)
   intro bX b
   try dsimp only [List.set] at b
   have c:=(b.ad [1] [])
   refine ⟨(sF c),?_⟩
   refine hD ?_
   exact hJd _ _ ⟨e,j,⟨r,r,y⟩,(b.ad [1] [3,4,5,6,0])⟩
  refine oo r r (nD b (jU BH)) ?_
  rintro _ bY ⟨bZ,rfl,b⟩
  have c:=(b.ad [1] [])
  refine ⟨(sF c),?_⟩
  have hc:=(DX fu) (b.pr [] [0,1] [5] r)  h6
  refine hO 2 (oc r r (ec Tw r) hc ?_)
  rintro _ w6 ⟨aa,ab,ac,rfl,U⟩
  have a3:=b.qW.size
  replace b:=b.cl [] [0,1] r U r
  try dsimp only [pick,nth,ca,na] at b
  replace b:=b.Xr 0 w0.heap.size r a3
  try dsimp only [List.set] at b
  have c:=(b.ad [2] [])
  refine ⟨(sF c),?_⟩
  have hc:=(AO fu) (b.pr [] [0,1,2] [] r)  h7
  refine hO 4 (oc r r (ec Pj r) hc ?_)
  rintro _ w7 ⟨rfl,U⟩
  replace b:=b.cl [] [0,1,2] r U r
  try dsimp only [pick,nth,ca,na] at b
  have c:=(b.ad [2] [])
  refine ⟨(sF c),?_⟩
  replace b:=b.OB 0 0 r r
  try dsimp only [List.eraseIdx] at b
  have hc:=(sN fu) (b.pr [] [0,1] [1,2,3,4,0] r)  h9
  refine hO 5 (oc r r (ec JO r) hc ?_)
  rintro _ w9 ⟨e,j,F,H,rfl,U⟩
  replace b:=b.cl [] [0,1] r U r
  try dsimp only [pick,nth,ca,na] at b
  have c:=(b.ad [1] [])
  refine ⟨(sF c),?_⟩
  refine pF 6 r (sM) c (pF 7 r (kg r r) c (pF 8 r (kg r r) c (pF 10 r (mG r) c ?_)))
  refine hO 11 (os r r (tb b 0 [V C.d,.bool C.b,V C.c,Z F C.a H] r BH r r r r r (show _=#[V C.d,.bool C.b,V C.c,Z F C.a H] from r)) ?_)
  intro c0 b
  try dsimp only [List.set] at b
  have c:=(b.ad [1] [])
  refine ⟨(sF c),?_⟩
  refine hD ?_
  exact hJd _ _ ⟨e,j,⟨r,r,y⟩,(b.ad [1] [3,4,5,6,0])⟩
 clear b
 rintro f w ⟨e,j,hf,b⟩
 obtain ⟨cv,rfl⟩:=fV _ _ hf
 clear hf
 refine q (q (g (s (nL r) (s (lF Kk r) (s (mi r) (n ?_))))))
 have bz:=(b.dl 4 r).bd
 obtain ⟨aN,D,J⟩:=bs J
 refine nT (fun f w=>Has f [(9,Z e B j)]∧Bx w0 w cu G [.box b2 30 #[Z m a.a.a o,Z p a.a.b t,Z u a.b v,Z x a.c z]] [.l m o a.a.a,.l p t a.a.b,.l u v a.b,.l x z a.c,.l e j B]∧Ld.go ()=aN) (fun c1 aO=>?_) ?_
 ·refine nS (kE (fun cw f w=>∃ (W:Nat),cw=B.length - W∧W≤B.length∧Has f [(36,V (W:Int)),(7,Pt b2),(9,Z e B j),(34,Z e B j),(35,V (B.length:Int))]∧Bx w0 w cu G [.box b2 30 #[Z m a.a.a o,Z p a.a.b t,Z u a.b v,Z x a.c z]] [.l m o a.a.a,.l p t a.a.b,.l u v a.b,.l x z a.c,.l e j B]∧nE fu a (B.drop W) W=some aN) (B.length) ⟨0,r,Nat.zero_le _,⟨r,r,r,r,r,y⟩,b,D⟩ ?_)
  clear b D
  rintro cw f w ⟨W,rfl,bA,hf,b,D⟩ c2 aP
  obtain ⟨cv,rfl⟩:=fV _ _ hf
  clear hf
  rcases Nat.lt_or_ge W B.length with ai | ai
  ·obtain ⟨M,ae⟩:=lY (l:=B) ai
   rw [lK ae,nE] at D
   obtain ⟨bB,aQ,b⟩:=b.nm 4 rfl ae
   obtain ⟨K,L,rfl,ap⟩:=kV.out aQ
   replace b:=b.kr (d:=.l K L M.a) ap
   refine q (g (s (qz r r (by omega)) (n (q (jJ r (wk (q (nS (q (g (s (kW Kk CJ r r r (b.dl 6 r) ae) (s (mR [Z K M.a L] Vz r CJ r r (b.dc 1 r)) (nM (nD b (jU CJ)) ?_)))))))))))))
   rintro _ c3 ⟨c4,rfl,b⟩
   refine kZ (tb b 0 [Z K M.a L] r CJ r r r r r (show _=#[Z K M.a L] from r)) ?_
   intro c5 b
   try dsimp only [List.set] at b
   refine n (q (g (s (Le r) (s (l48 r (b.bk 0 r) r) (s (lF GZ r) (s (mi r) (n ?_)))))))
   have bC:=(b.dl 0 r).bd
   obtain ⟨aR,A,D⟩:=bs D
   refine nT (fun f w=>Has f [(7,Pt b2),(9,Z e B j),(34,Z e B j),(35,V (B.length:Int)),(36,V (W:Int))]∧Bx w0 w cu G [.box b2 30 #[Z m a.a.a o,Z p a.a.b t,Z u a.b v,Z x a.c z]] [.l K L M.a,.l m o a.a.a,.l p t a.a.b,.l u v a.b,.l x z a.c,.l e j B]∧Ld.go ()=aR) (fun c6 aS=>?_) ?_
   ·refine nS (kE (fun cw f w=>∃ (a0:Nat),cw=M.a.length - a0∧a0≤M.a.length∧Has f [(43,V (a0:Int)),(7,Pt b2),(9,Z e B j),(34,Z e B j),(35,V (B.length:Int)),(36,V (W:Int)),(41,Z K M.a L),(42,V (M.a.length:Int))]∧Bx w0 w cu G [.box b2 30 #[Z m a.a.a o,Z p a.a.b t,Z u a.b v,Z x a.c z]] [.l K L M.a,.l m o a.a.a,.l p t a.a.b,.l u v a.b,.l x z a.c,.l e j B]∧nI fu a (M.a.drop a0) a0=some aR) (M.a.length) ⟨0,r,Nat.zero_le _,⟨r,r,r,r,r,r,r,r,y⟩,(b.ad [1] [0,2,3,4,5,6]),A⟩ ?_)
    clear b A
    rintro cw f w ⟨a0,rfl,bD,hf,b,A⟩ c7 aT
    obtain ⟨cv,rfl⟩:=fV _ _ hf
    clear hf
    rcases Nat.lt_or_ge a0 M.a.length with aj | aj
    ·obtain ⟨N,af⟩:=lY (l:=M.a) aj
     rw [lK af,nI] at A
     obtain ⟨bE,aU,b⟩:=b.nm 0 rfl af
     obtain ⟨Q,R,rfl,aq⟩:=pK.out aU
     replace b:=b.kr (d:=.l Q R N.b) aq
     refine q (g (s (qz r r (by omega)) (n (q (jJ r (wk (q (nS (q (g (s (kW GZ Ba r r r (b.dl 2 r) af) (s (mR [V N.k,V N.a,Z Q N.b R] U0 r Ba r r (b.dc 1 r)) (nM (nD b (jU Ba)) ?_)))))))))))))
     rintro _ c8 ⟨ar,rfl,b⟩
     refine kZ (tb b 0 [V N.k,V N.a,Z Q N.b R] r Ba r r r r r (show _=#[V N.k,V N.a,Z Q N.b R] from r)) ?_
     intro c9 b
     try dsimp only [List.set] at b
     refine n (q (q (qc b [0,1] [] [] (by kernel_rfl) ?_)))
     replace b:=b.drew
     have c:=(b.dp [])
     refine pF 0 r (KX r) c (uF 1 r (fun hS=>l3 r (hS.bk 0 r) r) c (pF 2 r (qo r r) c (pF 3 r (kQ r) c ?_)))
     rcases iv A with ⟨au,A⟩|⟨au,A⟩
     ·rw [decide_eq_true au]
      have c:=(b.dp [])
      refine jR 4 r (by kernel_rfl) r (sF c) (jR 5 r (by kernel_rfl) r (sF c) (jR 6 r (by kernel_rfl) r (sF c) (jR 7 r (by kernel_rfl) r (sF c) (jR 8 r (by kernel_rfl) r (sF c) (jR 9 r (by kernel_rfl) r (sF c) (pF 10 r (kG r r) c (pF 11 r (kQ r) c (jR 12 r (by kernel_rfl) r (sF c) (jR 13 r (by kernel_rfl) r (sF c) (jR 14 r (by kernel_rfl) r (sF c) (jR 15 r (by kernel_rfl) r (sF c) (jR 16 r (by kernel_rfl) r (sF c) (jR 17 r (by kernel_rfl) r (sF c) ?_)))))))))))))
      refine jR 18 r (by kernel_rfl) r (sF c) (jR 19 r (by kernel_rfl) r (sF c) (jR 20 r (by kernel_rfl) r (sF c) (jR 21 r (by kernel_rfl) r (sF c) (jR 22 r (by kernel_rfl) r (sF c) (pF 23 r (kG r r) c (hD (jJ r (q (g (s (ko r) (n (kU ?_))))))))))))
      obtain rfl:=sm A
      replace D:=oi D
      obtain rfl:=sm D
      replace J:=oi J
      obtain rfl:=sm J
      refine jB r (lq r) ?_
      exact ⟨r,(b.ad [] [])⟩
     rw [decide_eq_false au]
     have c:=(b.dp [])
     refine pF 4 r (KX r) c (uF 5 r (fun hS=>l3 r (hS.bk 0 r) r) c (pF 6 r (y5 r) c (uF 7 r (fun hS=>MB r (hS.bk 1 r) r) c (pF 8 r (lF Cn r) c (pF 9 r (AX r r) c (pF 10 r (jZ r r) c (pF 11 r (kQ r) c ?_)))))))
     rcases iv A with ⟨av,A⟩|⟨av,A⟩
     ·rw [decide_eq_true av]
      have c:=(b.dp [])
      refine jR 12 r (by kernel_rfl) r (sF c) (jR 13 r (by kernel_rfl) r (sF c) (jR 14 r (by kernel_rfl) r (sF c) (jR 15 r (by kernel_rfl) r (sF c) (jR 16 r (by kernel_rfl) r (sF c) (jR 17 r (by kernel_rfl) r (sF c) (jR 18 r (by kernel_rfl) r (sF c) (jR 19 r (by kernel_rfl) r (sF c) (jR 20 r (by kernel_rfl) r (sF c) (jR 21 r (by kernel_rfl) r (sF c) (jR 22 r (by kernel_rfl) r (sF c) (pF 23 r (kG r r) c (hD (jJ r ?_)))))))))))))
      refine q (g (s (ko r) (n (kU ?_))))
      obtain rfl:=sm A
      replace D:=oi D
      obtain rfl:=sm D
      replace J:=oi J
      obtain rfl:=sm J
      refine jB r (lq r) ?_
      exact ⟨r,(b.ad [] [])⟩
     rw [decide_eq_false av]
     have c:=(b.dp [])
     refine pF 12 r (Ec r) c (uF 13 r (fun hS=>WR r (hS.bk 0 r) r) c (pF 14 r (lF Fb r) c (uF 15 r (fun hS=>mR [Z m a.a.a o,Z p a.a.b t,Z u a.b v,Z x a.c z] CK r vR r r (Cells.part (hS.bk 1 r).cells (o2:=0) r)) c (pF 16 r (KX r) c (uF 17 r (fun hS=>l3 r (hS.bk 0 r) r) c (pF 18 r (TB r) c (uF 19 r (fun hS=>l3 r (hS.bk 0 r) r) c ?_)))))))
     obtain ⟨ba,bb,A⟩:=bs A
     have hc:=(Bp fu) (b.pr [] [0,1] [3,4,5,6] r)  bb
     refine hO 20 (oc r r (ec Tp r) hc ?_)
     rintro _ cc ⟨aJ,aK,aL,rfl,U⟩
     have a3:=b.qW.size
     replace b:=b.cl [] [0,1] r U r
     try dsimp only [pick,nth,ca,na] at b
     replace b:=b.Xr 0 w0.heap.size r a3
     try dsimp only [List.set] at b
     have c:=(b.ad [1,2] [])
     refine ⟨(sF c),?_⟩
     refine pF 21 r (lF sH r) c (pF 22 r (rT r r) c (pF 23 r (jZ r r) c (hD ?_)))
     rcases iv A with ⟨aw,A⟩|⟨aw,A⟩
     ·refine jJ (bt aw) (q (g (s (ko r) (n (kU ?_)))))
      obtain rfl:=sm A
      replace D:=oi D
      obtain rfl:=sm D
      replace J:=oi J
      obtain rfl:=sm J
      refine jB r (lq r) ?_
      exact ⟨r,(b.ad [] [])⟩
     refine jD (bf aw) (wk (q (g (s (mR [Z m a.a.a o,Z p a.a.b t,Z u a.b v,Z x a.c z] CK r vR r r (Cells.part (b.bk 2 r).cells (o2:=0) r)) (s (KX r) (s (l3 r (b.bk 1 r) r) (s (TB r) (s (l3 r (b.bk 1 r) r) ?_))))))))
     obtain ⟨I,bc,A⟩:=bs A
     have hc:=(Bp fu) (b.pr [] [0,1,2] [4,5,6,7] r)  bc
     refine sc (ec Tp r) hc ?_
     rintro _ cd ⟨X,Y,S,rfl,U⟩
     have a3:=b.qW.size
     replace b:=b.cl [] [0,1,2] r U r
     try dsimp only [pick,nth,ca,na] at b
     replace b:=b.Xr 0 w0.heap.size r a3
     try dsimp only [List.set] at b
     refine s (lF sH r) (s (mi r) (n ?_))
     have bF:=(b.vw 0 0 r r).bd
     obtain ⟨aV,E,A⟩:=bs A
     refine nT (fun f w=>Has f [(7,Pt b2),(9,Z e B j),(34,Z e B j),(35,V (B.length:Int)),(36,V (W:Int)),(41,Z K M.a L),(42,V (M.a.length:Int)),(43,V (a0:Int))]∧Bx w0 w cu G [O w0.heap.size X Y 3 Int S,.box ar 53 #[V N.k,V N.a,Z Q N.b R],.box b2 30 #[Z m a.a.a o,Z p a.a.b t,Z u a.b v,Z x a.c z]] [.els S I,.l Q R N.b,.l K L M.a,.l m o a.a.a,.l p t a.a.b,.l u v a.b,.l x z a.c,.l e j B]∧Ld.go ()=aV) (fun ce aW=>?_) ?_
     ·refine nS (kE (fun cw f w=>∃ (a2:Nat),cw=I.length - a2∧a2≤I.length∧Has f [(78,V (a2:Int)),(7,Pt b2),(9,Z e B j),(14,Pt ar),(34,Z e B j),(35,V (B.length:Int)),(36,V (W:Int)),(41,Z K M.a L),(42,V (M.a.length:Int)),(43,V (a0:Int)),(76,Z X I Y),(77,V (I.length:Int))]∧Bx w0 w cu G [O w0.heap.size X Y 3 Int S,.box ar 53 #[V N.k,V N.a,Z Q N.b R],.box b2 30 #[Z m a.a.a o,Z p a.a.b t,Z u a.b v,Z x a.c z]] [.els S I,.l Q R N.b,.l K L M.a,.l m o a.a.a,.l p t a.a.b,.l u v a.b,.l x z a.c,.l e j B]∧nH fu a N (I.drop a2) a2=some aV) (I.length) ⟨0,r,Nat.zero_le _,⟨r,r,r,r,r,r,r,r,r,r,r,r,y⟩,(b.ad [0,2,3] [0,2,4,5,6,7,8,9]),E⟩ ?_)
      clear b E
      rintro cw f w ⟨a2,rfl,bG,hf,b,E⟩ cg aX
      obtain ⟨cv,rfl⟩:=fV _ _ hf
      clear hf
      rcases Nat.lt_or_ge a2 I.length with ak | ak
      ·obtain ⟨bg,ag⟩:=lY (l:=I) ak
       rw [lK ag,nH] at E
       refine q (g (s (qz r r (by omega)) (n (q (jJ r (wk (q (nS (q (g (s (mi r) (s (kW sH mP r r r (b.vw 0 0 r r) ag) (s (jP F8 r r ((uK (ds:=[V bg]) (b.vw 0 0 r r) ag (fun _ h=>h)) 0 _ r)) ?_)))))))))))))
       refine s (xi r) (s (xi r) (n (q ?_)))
       obtain ⟨aY,a1,E⟩:=bs E
       obtain ⟨ch,a5,a1⟩:=kR a1
       obtain ⟨bH,aZ,b⟩:=b.nm 1 rfl a1
       obtain ⟨ax,ay,az,aA,rfl,aB,aC⟩:=rP.out aZ
       replace b:=b.kr (d:=.l ax ay aY.b) aB
       replace b:=b.kr (d:=.l az aA aY.a) aC
       obtain ⟨bh,a6,E⟩:=bs E
       obtain ⟨ci,b0,a6⟩:=kR a6
       obtain ⟨bI,b1,b⟩:=b.nm 8 rfl a6
       obtain ⟨aD,aE,rfl,aF⟩:=b1
       replace b:=b.kr (d:=.l aD aE bh) aF
       refine qc b [1,2] [0,1,2,3,4,6,10] [] (by kernel_rfl) ?_
       replace b:=b.drew
       have c:=(b.ad [1,2] [0,1,2,3,4,6,10])
       refine pF 0 r (Ec r) c (uF 1 r (fun hS=>WR r (hS.bk 0 r) r) c (pF 2 r (mi r) c (pF 3 r (kW Fb Gf r r a5 (b.dl 6 r) a1) c (pF 4 r (YZ r) c (uF 5 r (fun hS=>jP F8 r r ((hS.dc 4 r) 0 _ r)) c (pF 6 r (mi r) c (pF 7 r (rT r r) c (pF 8 r (kQ r) c ?_))))))))
       rcases iv E with ⟨aG,E⟩|⟨aG,E⟩
       ·rw [decide_eq_true aG]
        have c:=(b.ad [1,2] [0,1,2,3,4,6,10])
        refine jR 9 r (by kernel_rfl) r (sF c) (jR 10 r (by kernel_rfl) r (sF c) (jR 11 r (by kernel_rfl) r (sF c) (jR 12 r (by kernel_rfl) r (sF c) (jR 13 r (by kernel_rfl) r (sF c) (jR 14 r (by kernel_rfl) r (sF c) (jR 15 r (by kernel_rfl) r (sF c) (jR 16 r (by kernel_rfl) r (sF c) (jR 17 r (by kernel_rfl) r (sF c) (jR 18 r (by kernel_rfl) r (sF c) (jR 19 r (by kernel_rfl) r (sF c) (jR 20 r (by kernel_rfl) r (sF c) (jR 21 r (by kernel_rfl) r (sF c) (jR 22 r (by kernel_rfl) r (sF c) ?_)))))))))))))
        refine jR 23 r (by kernel_rfl) r (sF c) (jR 24 r (by kernel_rfl) r (sF c) (jR 25 r (by kernel_rfl) r (sF c) (jR 26 r (by kernel_rfl) r (sF c) (pF 27 r (kG r r) c (pF 28 r (kQ r) c (jR 29 r (by kernel_rfl) r (sF c) (jR 30 r (by kernel_rfl) r (sF c) (jR 31 r (by kernel_rfl) r (sF c) (jR 32 r (by kernel_rfl) r (sF c) (jR 33 r (by kernel_rfl) r (sF c) (jR 34 r (by kernel_rfl) r (sF c) (jR 35 r (by kernel_rfl) r (sF c) (jR 36 r (by kernel_rfl) r (sF c) ?_)))))))))))))
        refine jR 37 r (by kernel_rfl) r (sF c) (jR 38 r (by kernel_rfl) r (sF c) (jR 39 r (by kernel_rfl) r (sF c) (jR 40 r (by kernel_rfl) r (sF c) (jR 41 r (by kernel_rfl) r (sF c) (jR 42 r (by kernel_rfl) r (sF c) (jR 43 r (by kernel_rfl) r (sF c) (pF 44 r (kG r r) c (hD (jJ r (q (g (s (ko r) (n ?_)))))))))))))
        refine kU ?_
        obtain rfl:=sm E
        replace A:=oi A
        obtain rfl:=sm A
        replace D:=oi D
        obtain rfl:=sm D
        replace J:=oi J
        obtain rfl:=sm J
        refine jB r (lq r) ?_
        exact ⟨r,(b.ad [] [])⟩
       rw [decide_eq_false aG]
       have c:=(b.ad [1,2] [0,1,2,3,4,6,10])
       refine pF 9 r (Ec r) c (uF 10 r (fun hS=>WR r (hS.bk 0 r) r) c (pF 11 r (mi r) c (pF 12 r (kW Fb Gf r r a5 (b.dl 6 r) a1) c (pF 13 r (Ql r) c (uF 14 r (fun hS=>jP sH r r ((hS.dc 4 r) 2 _ r)) c (pF 15 r (lF sH r) c (pF 16 r (y5 r) c (uF 17 r (fun hS=>MB r (hS.bk 1 r) r) c (pF 18 r (KX r) c (uF 19 r (fun hS=>l3 r (hS.bk 0 r) r) c (pF 20 r (kW Cn Dg r r b0 (b.dl 10 r) a6) c (uF 21 r (fun hS=>jP zQ r r ((hS.dc 1 r) 0 _ r)) c (pF 22 r (mi r) c ?_)))))))))))))
       obtain ⟨a4,a7,E⟩:=bs E
       obtain ⟨cj,b3,a7⟩:=kR a7
       refine pF 23 r (kW zQ yU r r b3 (b.dl 0 r) a7) c (pF 24 r (QG r) c (tU 25 r (fun _ hS=>jP F8 r r ((uK (ds:=[T a4.b,V a4.e,V a4.c,V a4.a,.bool a4.f,V a4.d,V a4.g]) (hS.dl 0 r) a7 (fun _ h=>h)) 3 _ r)) (sF c) (pF 26 r (rT r r) c (pF 27 r (jZ r r) c (pF 28 r (kQ r) c ?_)))))
       rcases iv E with ⟨aH,E⟩|⟨aH,E⟩
       ·rw [decide_eq_true aH]
        have c:=(b.ad [1,2] [0,1,2,3,4,6,10])
        refine jR 29 r (by kernel_rfl) r (sF c) (jR 30 r (by kernel_rfl) r (sF c) (jR 31 r (by kernel_rfl) r (sF c) (jR 32 r (by kernel_rfl) r (sF c) (jR 33 r (by kernel_rfl) r (sF c) (jR 34 r (by kernel_rfl) r (sF c) (jR 35 r (by kernel_rfl) r (sF c) (jR 36 r (by kernel_rfl) r (sF c) (jR 37 r (by kernel_rfl) r (sF c) (jR 38 r (by kernel_rfl) r (sF c) (jR 39 r (by kernel_rfl) r (sF c) (jR 40 r (by kernel_rfl) r (sF c) (jR 41 r (by kernel_rfl) r (sF c) (jR 42 r (by kernel_rfl) r (sF c) ?_)))))))))))))
        refine jR 43 r (by kernel_rfl) r (sF c) (pF 44 r (kG r r) c (hD (jJ r (q (g (s (ko r) (n (kU ?_))))))))
        obtain rfl:=sm E
        replace A:=oi A
        obtain rfl:=sm A
        replace D:=oi D
        obtain rfl:=sm D
        replace J:=oi J
        obtain rfl:=sm J
        refine jB r (lq r) ?_
        exact ⟨r,(b.ad [] [])⟩
       rw [decide_eq_false aH]
       have c:=(b.ad [1,2] [0,1,2,3,4,6,10])
       refine pF 29 r (Ec r) c (uF 30 r (fun hS=>WR r (hS.bk 0 r) r) c (pF 31 r (mi r) c (pF 32 r (kW Fb Gf r r a5 (b.dl 6 r) a1) c (pF 33 r (TK r) c (uF 34 r (fun hS=>jP SE r r ((hS.dc 4 r) 1 _ r)) c (pF 35 r (lF SE r) c (pF 36 r (Ec r) c (uF 37 r (fun hS=>WR r (hS.bk 0 r) r) c (pF 38 r (mi r) c (pF 39 r (kW Fb Gf r r a5 (b.dl 6 r) a1) c (pF 40 r (Ql r) c (uF 41 r (fun hS=>jP sH r r ((hS.dc 4 r) 2 _ r)) c (pF 42 r (lF sH r) c ?_)))))))))))))
       refine pF 43 r (rT r r) c (pF 44 r (jZ r r) c (hD ?_))
       rcases iv E with ⟨aI,E⟩|⟨aI,E⟩
       ·refine jJ (bt aI) (q (g (s (ko r) (n (kU ?_)))))
        obtain rfl:=sm E
        replace A:=oi A
        obtain rfl:=sm A
        replace D:=oi D
        obtain rfl:=sm D
        replace J:=oi J
        obtain rfl:=sm J
        refine jB r (lq r) ?_
        exact ⟨r,(b.ad [] [])⟩
       refine jD (bf aI) (wk (g (s (lU r r (by omega) (by omega)) (s (mi r) (n ?_)))))
       exact aX (I.length - (a2+1)) _ _ (by omega) ⟨a2+1,r,by omega,⟨r,r,r,r,r,r,r,r,r,r,r,r,y⟩,(b.dp [5,6,7,8,9,10,11,12]),E⟩
      obtain rfl:a2=I.length:=by omega
      rw [lu,nH] at E
      refine q (g (s (qL r r (by omega)) (n (q (jD r (ug ?_))))))
      exact aW _ _ ⟨⟨r,r,r,r,r,r,r,r,y⟩,b,sm E⟩
     clear b
     rintro f w ⟨hf,b,b4⟩
     obtain ⟨cv,rfl⟩:=fV _ _ hf
     clear hf
     subst b4
     replace A:=gi A
     refine g (s (lU r r (by omega) (by omega)) (s (mi r) (n ?_)))
     exact aT (M.a.length - (a0+1)) _ _ (by omega) ⟨a0+1,r,by omega,⟨r,r,r,r,r,r,r,r,y⟩,(b.ad [2] [2,3,4,5,6,7]),A⟩
    obtain rfl:a0=M.a.length:=by omega
    rw [lu,nI] at A
    refine q (g (s (qL r r (by omega)) (n (q (jD r (ug ?_))))))
    exact aS _ _ ⟨⟨r,r,r,r,r,y⟩,b,sm A⟩
   clear b
   rintro f w ⟨hf,b,b5⟩
   obtain ⟨cv,rfl⟩:=fV _ _ hf
   clear hf
   subst b5
   replace D:=gi D
   refine g (s (lU r r (by omega) (by omega)) (s (mi r) (n ?_)))
   exact aP (B.length - (W+1)) _ _ (by omega) ⟨W+1,r,by omega,⟨r,r,r,r,r,y⟩,(b.dp [1,2,3,4,5]),D⟩
  obtain rfl:W=B.length:=by omega
  rw [lu,nE] at D
  refine q (g (s (qL r r (by omega)) (n (q (jD r (ug ?_))))))
  exact aO _ _ ⟨⟨r,y⟩,b,sm D⟩
 clear b
 rintro f w ⟨hf,b,b6⟩
 obtain ⟨cv,rfl⟩:=fV _ _ hf
 clear hf
 subst b6
 replace J:=gi J
 refine q (g (s (nL r) ?_))
 obtain ⟨bi,bj,J⟩:=bs J
 have hc:=(Gu fu) (b.pr [] [0] [4] r)  bj
 refine sc (ec XT r) hc ?_
 rintro _ ck ⟨rfl,U⟩
 replace b:=b.cl [] [0] r U r
 try dsimp only [pick,nth,ca,na] at b
 refine s (kQ r) ?_
 rcases iv J with ⟨ah,J⟩|⟨ah,J⟩
 ·rw [ah]
  obtain ⟨bl,bm,J⟩:=bs J
  refine ku r ?_
  have hc:=(Dj fu) (b.pr [] [0] [] r)  bm
  refine sc (ec TY r) hc ?_
  rintro _ cm ⟨rfl,U⟩
  replace b:=b.cl [] [0] r U r
  try dsimp only [pick,nth,ca,na] at b
  refine s (kG r r) (s (ko r) (n (kU ?_)))
  obtain rfl:=sm J
  refine jB r (lq r) ?_
  exact ⟨r,(b.ad [] [])⟩
 replace ah:=nt ah
 rw [ah]
 refine jL r (s (jZ r r) (s (ko r) (n (kU ?_))))
 obtain rfl:=sm J
 refine jB r (lq r) ?_
 exact ⟨r,(b.ad [] [])⟩
end
end Go.Proofs.Ytfglbdkfnphjgaa
set_option linter.unusedVariables false
set_option linter.unusedSimpArgs false
namespace Go.Proofs.Ytfglbdkfnphjgaa
open Go.RowKit Go.Fw
theorem ob {α β:Type} {x:α} {f:α→Option β}:(some x).bind f=f x:=rfl
theorem Ux {α:Type} {l:List α} {i:Nat} {x:α} (h:l[i]?=some x):ix l (i:Int)=some x:=by
 unfold Go.Fw.ix
 rw [if_neg (by omega),Int.toNat_natCast,h]
theorem wrs {i:Nat} (h:i≤1000000):wr ((i:Int)+1)=((i+1:Nat):Int):=by rw [l5 (by omega) (by omega)];omega
section
variable {fu:Nat}
def ZG (f:pK):Prop:=f.b.length≤24∧∀ x ∈ f.b,x.b.length≤8∧x.a.length≤8
def Zw (e:kV):Prop:=e.a.length≤20∧∀ f ∈ e.a,ZG f
end
theorem Fit.row {s:jK} {g:tZ} (h:Fit s g) {l:List Int} {k:Nat} (hk:g.ws[k]?=some l):l.length≤8:=by
 obtain ⟨_,V,h1,h2,h3⟩:=h
 have e:(g.ws.map List.length)[k]?=some l.length:=by rw [List.getElem?_map,hk];rfl
 rw [h2,List.getElem?_map] at e
 cases hV:V[k]? with
 | none=>rw [hV] at e;cases e
 | some x=>
  rw [hV] at e
  have:=h3 x (List.mem_of_getElem? hV)
  have:x.a.toNat=l.length:=Option.some.inj e
  omega
theorem GV.sz {s:jK} (hv:∀ V ∈ s.b,V.length≤24) {e:kV} (h:GV s e):Zw e:=by
 obtain ⟨gs,h1,h2,h3⟩:=h
 refine ⟨by rw [h1,List.length_map];exact h2,fun f hf=>?_⟩
 rw [h1] at hf
 obtain ⟨g,hg,rfl⟩:=List.mem_map.1 hf
 refine ⟨by unfold Ho;rw [List.length_map];exact JL hv,fun x hx=>?_⟩
 obtain ⟨v,hv2,rfl⟩:=List.mem_map.1 hx
 have hb:=(h3 g hg).vis hv2
 obtain ⟨l,hl⟩:=lY (l:=g.ws) (k:=v.toNat) (by omega)
 have h8:=(h3 g hg).row hl
 unfold Ov
 rw [List.getD_eq_getElem?_getD,hl]
 exact ⟨by rw [List.length_replicate];exact h8,h8⟩
def Zi:Pn Int→List Int→qX
 | .ok v,o=>⟨0,false,v,o⟩
 | .Es v,o=>⟨0,true,v,o⟩
 | .err e,o=>⟨e,false,0,o⟩
 | .rt,o=>⟨4,false,0,o⟩
theorem P9 {s:jK} (hs:CI s) {fu:Nat} (hf:10100≤fu) {f:Int} {args:List Int} {n:Int} (h0:0≤n) (hn:n≤5000) :
  ∃ h o,(∀ fr mo:Int,0≤fr→0≤mo→mo≤100→ow fu s f args n fr mo=some (window h fr.toNat mo.toNat,o))∧h.length≤n.toNat∧o.a.length≤h.length∧∀ e ∈ h,GV s e:=by
 have bad:(∀ fr mo:Int,0≤fr→0≤mo→mo≤100→ow fu s f args n fr mo=some ([],⟨1,false,0,[]⟩))→∃ h o,(∀ fr mo:Int,0≤fr→0≤mo→mo≤100→ow fu s f args n fr mo=some (window h fr.toNat mo.toNat,o))∧h.length≤n.toNat∧o.a.length≤h.length∧∀ e ∈ h,GV s e:=fun h=>
  ⟨[],⟨1,false,0,[]⟩,fun fr mo h1 h2 h3=>by rw [h fr mo h1 h2 h3];simp [window],Nat.zero_le _,Nat.le_refl _,fun e he=>by cases he⟩
 unfold ow traceM at bad ⊢
 cases hF:ix? s.a.b f with
 | none=>rw [hF] at bad;exact bad fun _ _ _ _ _=>rfl
 | some fn=>
  rw [hF] at bad
  dsimp only at bad ⊢
  by_cases hp:args.length≠fn.a.length
  · exact bad fun fr mo _ _ _=>if_pos (.inl hp)
  obtain ⟨r,hr,hC⟩:=Qs (s:=s) (N:=n.toNat) hs (sm:=stM (jM fu s) s n.toNat fu) (stk:=[]) (f:=f) (args:=args) (hist:=[]) (out:=[]) (Nat.zero_le _) (Nat.le_refl _) (fun e he=>by cases he)
    fun _ S x k h10 _ hG hX=>YD hs (by omega) fu [] S x k (fun g hg=>by cases hg) (Nat.zero_le _) hG hX h10 (by omega)
  obtain ⟨p,h,o⟩:=r
  refine ⟨h,Zi p o,fun fr mo h1 h2 h3=>?_,hC.hl,?_,hC.ev⟩
  · rw [if_neg (by omega),hr]
    cases p <;> rfl
  · cases p <;> exact hC.ol
theorem PY:yQ 10100=some true:=by kernel_rfl
theorem Qc {fu:Nat} {n:Int}:kD (yL fu n) (fun v=>0≤v∧v≤400):=by
 unfold yL
 exact .bd (TR (by omega) (by omega)) fun v hv=>.mk ⟨hv.1,by omega⟩
theorem Nl {fu:Nat} {l:List Int}:∀ (n i:Nat) (out:List Int),3≤n+i→i≤2→out.length≤i→kD (tF fu l 2 n (i:Int) out) (oI (fun r=>jy r fun _ a=>a.length≤2) (fun _=>False))
 | 0,i,out,h,h2,_=>by omega
 | n+1,i,out,h,h2,h3=>by
  rw [tF]
  refine .ite (fun c=>?_) fun _=>.go (by show out.length≤2;omega)
  have hJ:kD (yx fu l (i:Int)) (oI (fun _=>True) (fun _=>False)):=by
   unfold yx
   exact .ite (fun c=>.bd (.ix (by omega) c) fun _ _=>.go trivial) fun _=>.go trivial
  refine .el hJ (fun c _=>.bd (.app (by simp only [List.length_cons,List.length_nil];omega)) fun r hr=>?_) fun _ z=>z.elim
  subst hr
  rw [wrs (by omega)]
  exact Nl n (i+1) _ (by omega) (by omega) (by rw [kI];omega)
theorem Uj {fu:Nat} (hf:3≤fu) {l:List Int}:kD (zq fu l 2) (fun a=>a.length≤2):=by
 unfold zq
 refine .el (Nl fu 0 [] (by omega) (by decide) (Nat.le_refl _)) (fun r hr=>?_) fun _ z=>z.elim
 obtain ⟨b,a⟩:=r
 exact .mk hr
end Go.Proofs.Ytfglbdkfnphjgaa
set_option linter.unusedVariables false
set_option linter.unusedSimpArgs false
namespace Go.Proofs.Ytfglbdkfnphjgaa
open Go.RowKit Go.Fw
theorem E9 {fu:Nat} {i:Int}:∀ (r:List jV) (k:Nat) (acc:List Int),nJ fu i r k acc=kN fu i r k acc
 | [],k,acc=>rfl
 | x :: r,k,acc=>by
  rw [nJ,kN,E9 r,funext fun a=>E9 r (k+1) a]
theorem NV {fu:Nat} {s:jK} {f i:Int}:tJ fu s f i=jM fu s f i:=by
 unfold tJ jM
 simp only [E9]
section
variable {fu:Nat} {s:jK}
theorem TU {g:tZ} (h:Fit s g):∀ (r:List Int) (k:Nat),(BJ s g.f g.st).drop k=r→nH fu s (Ho s g) r k=some (.go ())
 | [],k,_=>rfl
 | v :: r,k,hk=>by
  have hv:(BJ s g.f g.st)[k]?=some v:=by
   have:=congrArg (·[0]?) hk
   simpa using this
  have hr:(BJ s g.f g.st).drop (k+1)=r:=by rw [lK hv] at hk;exact (List.cons.inj hk).2
  obtain ⟨f0,f1,V,x,hV,q0,q1,hx,_⟩:=KG hv
  obtain ⟨_,V',hV',h2,h3⟩:=h
  rw [hV] at hV'
  cases hV'
  have hlen:=congrArg List.length h2
  rw [List.length_map,List.length_map] at hlen
  obtain ⟨row,hrow⟩:=lY (l:=g.ws) (k:=v.toNat) (by omega)
  have hw:(row.length:Int)=x.a:=by
   have e:(g.ws.map List.length)[v.toNat]?=some row.length:=by rw [List.getElem?_map,hrow];rfl
   rw [h2,List.getElem?_map,hx] at e
   have:=h3 x (List.mem_of_getElem? hx)
   have:x.a.toNat=row.length:=Option.some.inj e
   omega
  have e1:(Ho s g).b[k]?=some (Ov g.ws v):=by unfold Ho;rw [List.getElem?_map,hv];rfl
  have e2:ix s.b (Ho s g).k=some V:=by unfold Go.Fw.ix Ho;dsimp only;rw [if_neg (by omega),hV]
  have e3:ix V v=some x:=by unfold Go.Fw.ix;rw [if_neg (by omega),hx]
  have e4:(Ov g.ws v).a=row:=by unfold Ov;rw [List.getD_eq_getElem?_getD,hrow];rfl
  have e5:(Ov g.ws v).b.length=row.length:=by unfold Ov;rw [List.length_replicate,List.getD_eq_getElem?_getD,hrow];rfl
  rw [nH,Ux e1,ob,e2,ob,if_neg (by simp [Ov]),e3,ob,e4,if_neg (by omega),e5,if_neg (by simp)]
  exact TU ⟨f0,V,hV,h2,h3⟩ r (k+1) hr
variable (hv:∀ V ∈ s.b,V.length≤24)
include hv
theorem TT:∀ (gs:List tZ) (k:Nat),(∀ g ∈ gs,Fit s g)→nI fu s (gs.map (Ho s)) k=some (.go ())
 | [],k,_=>rfl
 | g :: gs,k,h=>by
  have hg:=h g (.head _)
  obtain ⟨h0,V,hV,h2,h3⟩:=hg
  have:=kT hV
  rw [List.map_cons,nI,if_neg (show ¬ (Ho s g).k < 0 from by unfold Ho;dsimp only;omega),if_neg (show ¬ (s.b.length:Int)≤(Ho s g).k from by unfold Ho;dsimp only;omega),NV,HV hv,ob,
   if_neg (by unfold Ho;simp),ob,show BJ s (Ho s g).k (Ho s g).a=BJ s g.f g.st from rfl,TU (g:=g) ⟨h0,V,hV,h2,h3⟩ (BJ s g.f g.st) 0 rfl,ob]
  exact TT gs (k+1) fun g hg=>h g (.tail _ hg)
theorem Tm:∀ (l:List kV) (k:Nat),(∀ e ∈ l,GV s e)→nE fu s l k=some (.go ())
 | [],k,_=>rfl
 | e :: l,k,h=>by
  obtain ⟨gs,h1,h2,h3⟩:=h e (.head _)
  rw [nE,h1,TT hv gs 0 h3,ob]
  exact Tm l (k+1) fun e he=>h e (.tail _ he)
end
section
variable {fu:Nat}
theorem Tt:∀ (n k:Nat),p8 fu (List.replicate n true) k=some (.go ())
 | 0,k=>rfl
 | n+1,k=>by rw [List.replicate_succ,p8,if_neg (by decide)];exact Tt n (k+1)
theorem TF {ws:List (List Int)}:∀ (l:List Int) (k:Nat),pW fu (l.map (Ov ws)) k=some (.go ())
 | [],k=>rfl
 | v :: l,k=>by
  rw [List.map_cons,pW,show (Ov ws v).b=List.replicate (ws.getD v.toNat []).length true from rfl,Tt,ob]
  exact TF l (k+1)
theorem TM {s:jK}:∀ (gs:List tZ) (k:Nat),pX fu (gs.map (Ho s)) k=some (.go ())
 | [],k=>rfl
 | g :: gs,k=>by
  rw [List.map_cons,pX,show (Ho s g).b=(BJ s g.f g.st).map (Ov g.ws) from rfl,TF,ob]
  exact TM gs (k+1)
theorem Te {s:jK}:∀ (l:List kV) (k:Nat),(∀ e ∈ l,GV s e)→p9 fu l k=some (.go ())
 | [],k,_=>rfl
 | e :: l,k,h=>by
  obtain ⟨gs,h1,h2,h3⟩:=h e (.head _)
  rw [p9,h1,TM,ob]
  exact Te l (k+1) fun e he=>h e (.tail _ he)
end
theorem Mi (l a:List Int) (n:Int):ru 10100 l a n=some true:=by
 have h:kD (ru 10100 l a n) (fun b=>b=true):=by
  unfold ru
  rw [PY]
  refine .bp (LZ (by decide)) fun s b hs=>.ite (fun _=>.mk rfl) fun c=>?_
  have hs:=hs (by simpa using c)
  refine .bd (Uj (by decide)) fun x hx=>?_
  obtain ⟨N,hN,h0,h4⟩:=Qc (fu:=10100) (n:=n)
  rw [hN,ob]
  obtain ⟨h,o,ht,hl,ho,he⟩:=P9 hs (Nat.le_refl 10100) (f:=0) (args:=x) h0 (by omega)
  have he':∀ e ∈ window h (0:Int).toNat (40:Int).toNat,GV s e:=fun e h'=>he e (List.mem_of_mem_drop (List.mem_of_mem_take h'))
  rw [ht 0 40 (by decide) (by decide) (by decide),ob,pl,Tm hs.vn _ 0 he',ob]
  show kD ((wC 10100 _).bind _) _
  unfold wC
  rw [Te _ 0 he',ob]
  exact .mk rfl
 obtain ⟨v,h1,rfl⟩:=h
 exact h1
end Go.Proofs.Ytfglbdkfnphjgaa
set_option linter.unusedVariables false
namespace Go.Proofs.Ytfglbdkfnphjgaa
open Go.ChangeShapes Go.WideShapes Go.ChangeAt Go.RowKit Go.Fw Go.Joins
theorem Try.own:ownKnob Try.prog.godebug=none:=by kernel_rfl
theorem Try.laidOut:laidOutB Try.prog=true:=by kernel_rfl
theorem QA {w:World} {a:Addr} {v:Value} (h:w.cell? a=some v):∃ b o,a=⟨b,o,none⟩∧b < w.heap.size:=by
 have h1:=World.cell?_spot h
 obtain ⟨b,o,s⟩:=a
 simp only at h1
 subst h1
 exact ⟨b,o,rfl,World.block_lt_of_cell? w _ h⟩
theorem open_list {H:Type} {enc:TypeId × Value→H} {w:World} {base:Nat} {spare:Nat→Bool} {held:Bool} {fuel:Nat} {cs:List Value} {x:DataW H × List MemPlace} (h:DataW.trod enc Try.prog w base spare held fuel 22 cs=some x) :
   ∃ A c zs,cs=[.slice A zs.length c]∧kK (α:=Int) (fun _=>True) w A c zs:=by
 rcases open_ints Try.underlying22 Try.underlying3 (by kernel_rfl) h with ⟨rfl,hx⟩|⟨a,len,cap,zs,rfl,hb,hl,hm,hz,hx,hcell,hwz⟩
 · exact ⟨none,0,[],rfl,kK.nil⟩
 · have hlz:len≤zs.length:=by rw [hz];split <;> omega
   have hlt:(zs.take len).length=len:=by rw [List.length_take];omega
   refine ⟨some a,cap,zs.take len,by rw [hlt],by omega,hm,fun h0=>?_⟩
   have h1:=hcell 0 (by omega)
   rw [Addr.add_zero'] at h1
   obtain ⟨b,o,rfl,hbb⟩:=QA h1
   refine ⟨rfl,trivial,hbb,fun i z hi=>⟨[.int .i64 z],?_,rfl⟩⟩
   rw [List.getElem?_take] at hi
   split at hi
   · rename_i hj
     have h2:=hcell i (by omega)
     rw [Addr.add_lit] at h2
     intro k v hk
     obtain _ | k:=k
     · obtain rfl:Value.int .i64 z=v:=Option.some.inj hk
       have hd:zs.getD i 0=z:=by rw [List.getD_eq_getElem?_getD,hi];rfl
       rw [hd] at h2
       exact (by simpa [Rp.sz,nN,oU] using h2)
     · cases hk
   · cases hi
theorem NW {w:World} {A B:Option Addr} {c d:Nat} {l m:List Int} (h:kK (fun _=>True) w A c l) (k:kK (fun _=>True) w B d m):Pre w (fun _=>True) [] [.l A c l,.l B d m]:=⟨fun it hi=>(by cases hi),fun it hi=>(by cases hi),List.Pairwise.nil,fun q hd=>by
 simp only [List.mem_cons,List.not_mem_nil,or_false] at hd
 rcases hd with rfl | rfl
 · exact h
 · exact k⟩
end Go.Proofs.Ytfglbdkfnphjgaa
set_option linter.unusedVariables false
namespace Go.Proofs.Ytfglbdkfnphjgaa
open Go.ChangeShapes Go.WideShapes Go.ChangeAt Go.RowKit Go.Fw Go.Joins
theorem Dx (w:World) {A0:Option Addr} {c0:Nat} {x0:List Int} (h0:kK (fun _=>True) w A0 c0 x0) {A1:Option Addr} {c1:Nat} {x1:List Int} (h1:kK (fun _=>True) w A1 c1 x1) {x2:Int}:Calls Try.prog 5 #[.slice A0 x0.length c0,.slice A1 x1.length c1,Vi x2] w (qQ fun v w'=>v=.bool true∧Ext w w'):=
 (Cr 10100 (NW h0 h1) (Mi x0 x1 x2)).mono fun e w' he=>by
  obtain ⟨v,rfl,hv,hb⟩:=he
  exact ⟨v,rfl,hv,hb.ex⟩
set_option maxRecDepth 100000 in
theorem BZ (os:Os) (started:os.Started) (H:Type) (enc:TypeId × Value→H) :
  ReturnsInHanded {} Try.checked os 5 .any (Rows.interpKnownSpec.pre6 enc Try.prog Try.f5 Rows.interpKnownRow.domain false) (Rows.interpKnownSpec.post enc Try.prog Try.f5 false true false false):=by
 refine returnsInHanded_of_change (C:=Try.checked) Try.own started (by kernel_rfl) Try.func5
  (ChangeSpec.witness6 (enc:=enc) (C:=Try.checked) false ⟨#[],#[.slice none 0 0,.slice none 0 0,.int .i64 0],[]⟩ 8 (by kernel_rfl) (by kernel_rfl) (by kernel_rfl) (by kernel_rfl)) ?_
 intro W base args ds gs before hval0 hW hcnd _
 have hval:∀ (j:Nat) t v,Try.f5.params[j]?=some t→args[j]?=some v→Value.okWide Try.prog W .any base t v:=hval0
 have hW':=hW
 obtain ⟨p,q,hA0,hV,rfl,hfz,hnd⟩:=hW
 have hA:DataW.TrodAll enc Try.prog W 0 (fun _=>true) true Try.f5.params.toList args.toList ds p:=hA0
 rw [Try.params5] at hA hval
 obtain ⟨v0,vs0,d0,ds0,p0,q0,hargs,rfl,rfl,h0,r0⟩:=trodAll_cons hA
 obtain ⟨v1,vs1,d1,ds1,p1,q1,rfl,rfl,rfl,h1,r1⟩:=trodAll_cons r0
 obtain ⟨v2,vs2,d2,ds2,p2,q2,rfl,rfl,rfl,h2,r2⟩:=trodAll_cons r1
 obtain ⟨rfl,rfl,rfl⟩:=trodAll_nil r2
 obtain rfl:args=#[v0,v1,v2]:=by cases args;simp_all
 obtain ⟨rfl,rfl⟩:=trodVars_none hV
 have k0:=h0
 have lt0:∀ x ∈ p0,x.block < W.heap.size:=by obtain ⟨m,hm⟩:=k0;exact DataW.trod_lt m _ _ _ hm
 have k1:=h1
 have lt1:∀ x ∈ p1,x.block < W.heap.size:=by obtain ⟨m,hm⟩:=k1;exact DataW.trod_lt m _ _ _ hm
 have k2:=h2
 have lt2:∀ x ∈ p2,x.block < W.heap.size:=by obtain ⟨m,hm⟩:=k2;exact DataW.trod_lt m _ _ _ hm
 obtain ⟨a0,n0,c0,rfl⟩:=okWide_slice Try.underlying22 (hval 0 22 v0 rfl rfl)
 obtain ⟨f0,hf0⟩:=h0
 obtain ⟨A0,e0,l0,hcs0,hl0⟩:=open_list hf0
 simp [Value.cells] at hcs0
 obtain ⟨rfl,rfl,rfl⟩:=hcs0
 obtain ⟨a1,n1,c1,rfl⟩:=okWide_slice Try.underlying22 (hval 1 22 v1 rfl rfl)
 obtain ⟨f1,hf1⟩:=h1
 obtain ⟨A1,e1,l1,hcs1,hl1⟩:=open_list hf1
 simp [Value.cells] at hcs1
 obtain ⟨rfl,rfl,rfl⟩:=hcs1
 obtain ⟨x2,rfl⟩:=okWide_int Try.underlying3 (hval 2 3 v2 rfl rfl)
 clear hA0 hval0
 refine (Dx W hl0 hl1).mono fun e W' he=>?_
 obtain ⟨v,rfl,rfl,bel⟩:=he
 exact ⟨_,rfl,_,_,_,[],_,[],hW',trodAll_mk1 (shut_bool Try.underlying4 _),(trodAll_cons_mk (Below.trod Try.laidOut (by kernel_rfl) (of_decide_eq_true (by kernel_rfl)) k0 bel lt0) (trodAll_cons_mk (Below.trod Try.laidOut (by kernel_rfl) (of_decide_eq_true (by kernel_rfl)) k1 bel lt1) (trodAll_cons_mk (Below.trod Try.laidOut (by kernel_rfl) (of_decide_eq_true (by kernel_rfl)) k2 bel lt2) trodAll_mk0))),rfl,Below.frame bel _,fun h=>by cases h⟩
theorem interpKnown_holds:Rows.InterpKnownSaid:=
 OpenClaim.holds_of_wide 5 Try.f5 rfl rfl rfl rfl rfl rfl rfl ⟨rfl,rfl,rfl,rfl,rfl⟩ rfl rfl rfl rfl rfl (by kernel_rfl) Try.func5 (by kernel_rfl)
  (of_decide_eq_true (by kernel_rfl)) (by unfold Func.isWrapper;first | (rw [if_pos (by decide +kernel)];kernel_rfl)|(rw [if_neg (by decide +kernel)];exact ⟨rfl,rfl⟩))
  (fun os started H enc _=>BZ os started H enc)
end Go.Proofs.Ytfglbdkfnphjgaa
