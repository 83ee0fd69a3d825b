/- Contracts, printed by gen3.py. -/
import Derived.Test.YtfglbdkfnphjgaaZ5
import Derived.Test.YtfglbdkfnphjgaaZ18
import Derived.Test.YtfglbdkfnphjgaaZ23
import Derived.Test.YtfglbdkfnphjgaaLa
import Derived.Test.YtfglbdkfnphjgaaZ19
import Derived.Test.YtfglbdkfnphjgaaLt
import Derived.WalkKit
import Derived.ProofKit
import Derived.OpenShut
import Derived.ChangeOld
import Derived.SizedLaws
import Derived.Lib.SmallJoins
import Derived.Deep.Slices
import Derived.Deep.Fields
set_option linter.unusedVariables false
set_option maxHeartbeats 12800000
set_option linter.unusedSimpArgs false
set_option maxRecDepth 4000
namespace Go.Proofs.Ytfglbdkfnphjgaa
open Go.RowKit Go.Fw
noncomputable section
def GI (m:BA→Option (jQ)):Prop:=∀ {k:World} {p:Nat→Prop} {o:BA}  {j:jQ},Pre k p [] []→m o=some j→
 Calls Try.prog 37 #[T o] k (qw fun v w=>∃ (a:OA)(b:Nat)(c:OA)(d:Nat)(e:OA)(f:Nat)(h:OA)(i:Nat),v=.agg #[Z a j.a.a b,Z c j.a.b d,Z e j.b f,Z h j.c i]∧Bx k w p (lK []) [] [.l a b j.a.a,.l c d j.a.b,.l e f j.b,.l h i j.c])
def AV (fu:Nat)(h:BA):Option (jQ):=
 (vY fu h).bind fun i=>
 jy i fun a i=>jy i fun c d=>
 (vZ fu a).bind fun i=>
 jy i fun b i=>jy i fun e f=>
 some b
theorem GJ (fu:Nat):GI (AV fu):=by
 intro H Y C I w u
 unfold AV at u
 have k:=w.bx
 clear w
 generalize J:lK _=G at k ⊢
 refine cf Try.func37 r ?_
 refine lI [(0,T C)] ⟨r,y⟩ fun a0=>?_
 refine q (g (nO (nH k (jX wm)) ?_))
 rintro _ K ⟨L,rfl,k⟩
 refine n (q (g (s (lg r) ?_)))
 obtain ⟨⟨t,x,z⟩,D,u⟩:=bs u
 replace u:=pi u
 replace u:=pi u
 have hc:=(CU fu) (k.pr [] [0] [] r)  D
 refine sc (ec TA r) hc ?_
 rintro _ M ⟨l,m,o,p,rfl,v⟩
 replace k:=k.cl [] [0] r v r
 try dsimp only [pick,nth,ca,na] at k
 refine s rJ (s (jV r r) (s (jV r r) (s (jV r r) (nO (nH k (jX sM)) ?_))))
 rintro _ N ⟨Q,rfl,k⟩
 refine lu (tb k 0 [Z l t.a m,Z o t.b p] r sM r r r r r (show _=#[Z l t.a m,Z o t.b p] from r)) ?_
 intro R k
 try dsimp only [List.set] at k
 refine s (xi r) (s (xi r) (n (q (g (s (nG [Z l t.a m,Z o t.b p] Cg r sM r r (Cells.part (k.bk 0 r).cells (o2:=0) r)) ?_)))))
 obtain ⟨⟨a,A,B⟩,F,u⟩:=bs u
 replace u:=pi u
 replace u:=pi u
 have hc:=(Dw fu) (k.pr [] [0,1] [0,1] r)  F
 refine sc (ec Uh r) hc ?_
 rintro _ S ⟨b,c,d,e,f,h,i,j,rfl,v⟩
 replace k:=k.cl [] [0,1] r v r
 try dsimp only [pick,nth,ca,na] at k
 refine s rJ (s (jV r r) (s (jV r r) (s (jV r r) (nO (nH k (jX wm)) ?_))))
 rintro _ U ⟨W,rfl,k⟩
 refine lu (tb k 0 [Z b a.a.a c,Z d a.a.b e,Z f a.b h,Z i a.c j] r wm r r r r r (show _=#[Z b a.a.a c,Z d a.a.b e,Z f a.b h,Z i a.c j] from r)) ?_
 intro X k
 try dsimp only [List.set] at k
 refine s (xi r) (s (xi r) (n (q (g (s (nG [Z b a.a.a c,Z d a.a.b e,Z f a.b h,Z i a.c j] DY r wm r r (Cells.part (k.bk 0 r).cells (o2:=0) r)) (lu (tb k 2 [Z b a.a.a c,Z d a.a.b e,Z f a.b h,Z i a.c j] r wm r r r r r (show _=#[Z b a.a.a c,Z d a.a.b e,Z f a.b h,Z i a.c j] from r)) ?_))))))
 intro w8 k
 try dsimp only [List.set] at k
 refine n (kR ?_)
 obtain rfl:=sm u
 refine jC r (tN r DY r wm r (k.bk 2 r)) ?_
 exact ⟨b,c,d,e,f,h,i,j,r,(k.ad [] [0,1,2,3])⟩
def JM (m:Option (Bool)):Prop:=∀ {a:World} {c:Nat→Prop}  {b:Bool},Pre a c [] []→m=some b→
 Calls Try.prog 14 #[] a (qw fun v w=>v=.bool b∧Bx a w c (lK []) [] [])
def vT (fu:Nat):Option (Bool):=
 (AV fu (⟨#[102,117,110,99,32,102,40,97,41,32,123,32,97,32,61,32,97,32,43,32,49,59,32,114,101,116,117,114,110,32,97,59,32,125]⟩:BA)).bind fun c=>
 (l7 fu c 0 ([4]:List Int) 10 0 10).bind fun i=>
 jy i fun b a=>
 if a.d=0 then
  if a.c=5 then
   if (!a.b)=true then
    if (b.length:Int)=2 then
     (ix b 1).bind fun d=>
     if (d.a.length:Int)=1 then
      (ix d.a 0).bind fun e=>
      if (e.b.length:Int)=1 then
       (ix e.b 0).bind fun f=>
       (ix f.a 0).bind fun h=>
       some (decide (h=5))
      else
       some false
     else
      some false
    else
     some false
   else
    some false
  else
   some false
 else
  some false
theorem Ay (fu:Nat):JM (vT fu):=by
 intro w0 aD r0 hP b
 unfold vT at b
 have a:=hP.bx
 clear hP
 generalize hG:lK _=G at a ⊢
 refine cf Try.func14 r ?_
 refine lI [] y fun aE=>?_
 refine q (g (s (kg r) (n (q (g ?_)))))
 obtain ⟨ag,h1,b⟩:=bs b
 have hc:=(GJ fu) (a.pr [] [] [] r)  h1
 refine sc (ec XU r) hc ?_
 rintro _ w1 ⟨M,N,Q,R,S,U,W,X,rfl,hK⟩
 replace a:=a.cl [] [] r hK r
 try dsimp only [pick,nth,ca,na] at a
 refine nO (jO a [[V 4]] ([4]:List Int) (Aq r) r r (by decide) ⟨r,y⟩) ?_
 rintro _ w2 ⟨b2,rfl,a⟩
 replace a:=a.Qa 0 0 r r
 try dsimp only [List.eraseIdx] at a
 obtain ⟨⟨ah,c⟩,h4,b⟩:=bs b
 replace b:=pi b
 have hc:=(oG fu) (a.pr [] [] [1,2,3,4,0] r)  h4
 refine sc (ec Ea r) hc ?_
 rintro _ w4 ⟨Y,a0,f,j,rfl,hK⟩
 replace a:=a.cl [] [] r hK r
 try dsimp only [pick,nth,ca,na] at a
 refine s rJ (s (jV r r) (s (jV r r) (nO (nH a (jX za)) ?_)))
 rintro _ w5 ⟨b5,rfl,a⟩
 refine s (mO r) (lu (tb a 0 [V c.d,.bool c.b,V c.c,Z f c.a j] r za r r r r r (show _=#[V c.d,.bool c.b,V c.c,Z f c.a j] from r)) ?_)
 intro w6 a
 try dsimp only [List.set] at a
 refine n (q (g (s (Ih r) (s (Bc r (a.bk 0 r) r) (s (kH r r) (s (kL r) ?_))))))
 rcases iv b with ⟨h7,b⟩|⟨h7,b⟩
 ·rw [decide_eq_true h7]
  refine kr r (s (JZ r) (kr r (s (l3 r (a.bk 0 r) r) (kr r (s (kH r r) (s (kC r r) (s (kL r) ?_)))))))
  rcases iv b with ⟨h8,b⟩|⟨h8,b⟩
  ·rw [decide_eq_true h8]
   refine kr r (s (NA r) (kr r (s (l4 r (a.bk 0 r) r) (kr r (s (zh r) (s (kC r r) (s (kL r) ?_)))))))
   rcases iv b with ⟨h9,b⟩|⟨h9,b⟩
   ·rw [h9]
    refine kr r (s (l5 r) (kr r (s (kZ BN r) (kr r (s (kH r r) (s (kC r r) (s (kL r) ?_)))))))
    rcases iv b with ⟨v,b⟩|⟨v,b⟩
    ·rw [decide_eq_true v]
     refine kr r (s (l5 r) ?_)
     obtain ⟨ab,e,b⟩:=bs b
     obtain ⟨an,t,e⟩:=kJ e
     obtain ⟨ai,a2,a⟩:=a.nm 0 rfl e
     obtain ⟨w,x,rfl,z⟩:=kK.out a2
     replace a:=a.ku (d:=.l w x ab.a) z
     refine kr r (s (kV BN ED r r t (a.dl 2 r) e) (kr r (s (D9 r) (kr r (s (jP BM r r ((a.dc 1 r) 0 _ r)) (kr r (s (kZ BM r) (kr r (s (kH r r) (s (kC r r) (s (kL r) ?_)))))))))))
     rcases iv b with ⟨A,b⟩|⟨A,b⟩
     ·rw [decide_eq_true A]
      refine kr r (s (l5 r) (kr r (s (kV BN ED r r t (a.dl 2 r) e) (kr r (s (D9 r) (kr r (s (jP BM r r ((a.dc 1 r) 0 _ r)) ?_)))))))
      obtain ⟨ac,m,b⟩:=bs b
      obtain ⟨ao,u,m⟩:=kJ m
      obtain ⟨aj,a3,a⟩:=a.nm 0 rfl m
      obtain ⟨B,C,rfl,D⟩:=nJ.out a3
      replace a:=a.ku (d:=.l B C ac.b) D
      refine kr r (s (kV BM DC r r u (a.dl 2 r) m) (kr r (s (Bw r) (kr r (s (jP DT r r ((a.dc 1 r) 2 _ r)) (kr r (s (kZ DT r) (kr r (s (kH r r) (s (kC r r) (s (kL r) ?_)))))))))))
      rcases iv b with ⟨E,b⟩|⟨E,b⟩
      ·rw [decide_eq_true E]
       refine kr r (s (l5 r) (kr r (s (kV BN ED r r t (a.dl 4 r) e) (kr r (s (D9 r) (kr r (s (jP BM r r ((a.dc 3 r) 0 _ r)) (kr r (s (kV BM DC r r u (a.dl 2 r) m) (kr r (s (Bw r) (kr r (s (jP DT r r ((a.dc 1 r) 2 _ r)) ?_)))))))))))))
       obtain ⟨a4,o,b⟩:=bs b
       obtain ⟨ap,a5,o⟩:=kJ o
       obtain ⟨ak,a6,a⟩:=a.nm 0 rfl o
       obtain ⟨F,H,I,J,rfl,K,L⟩:=rQ.out a6
       replace a:=a.ku (d:=.l F H a4.b) K
       replace a:=a.ku (d:=.l I J a4.a) L
       refine kr r (s (kV DT KX r r a5 (a.dl 3 r) o) (kr r (s (Pq r) (kr r (s (jP rM r r ((a.dc 2 r) 2 _ r)) ?_)))))
       obtain ⟨ae,p,b⟩:=bs b
       obtain ⟨aq,a7,p⟩:=kJ p
       refine kr r (s (kV rM mK r r a7 (a.dl 0 r) p) (kr r (s (jP Fu r r ((uI (ds:=[V ae]) (a.dl 0 r) p (fun _ h=>h)) 0 _ r)) (kr r (s (kH r r) (s (kC r r) (s (kg r) (n (kR ?_)))))))))
       obtain rfl:=sm b
       refine jC r (kW r) ?_
       exact ⟨r,(a.ad [] [])⟩
      rw [decide_eq_false E]
      refine jJ r (jJ r (jJ r (jJ r (jJ r (jJ r (jJ r (jJ r (jJ r (jJ r (jJ r (jJ r (jJ r (s (jZ r r) ?_)))))))))))))
      refine s (kg r) (n (kR ?_))
      obtain rfl:=sm b
      refine jC r (kW r) ?_
      exact ⟨r,(a.ad [] [])⟩
     rw [decide_eq_false A]
     refine jJ r (jJ r (jJ r (jJ r (jJ r (jJ r (jJ r (jJ r (jJ r (s (jZ r r) (s (kL r) (jJ r (jJ r (jJ r ?_)))))))))))))
     refine jJ r (jJ r (jJ r (jJ r (jJ r (jJ r (jJ r (jJ r (jJ r (jJ r (s (jZ r r) (s (kg r) (n (kR ?_)))))))))))))
     obtain rfl:=sm b
     refine jC r (kW r) ?_
     exact ⟨r,(a.ad [] [])⟩
    rw [decide_eq_false v]
    refine jJ r (jJ r (jJ r (jJ r (jJ r (jJ r (s (jZ r r) (s (kL r) (jJ r (jJ r (jJ r (jJ r (jJ r (jJ r ?_)))))))))))))
    refine jJ r (jJ r (jJ r (s (jZ r r) (s (kL r) (jJ r (jJ r (jJ r (jJ r (jJ r (jJ r (jJ r (jJ r (jJ r ?_)))))))))))))
    refine jJ r (jJ r (jJ r (jJ r (s (jZ r r) (s (kg r) (n (kR ?_)))))))
    obtain rfl:=sm b
    refine jC r (kW r) ?_
    exact ⟨r,(a.ad [] [])⟩
   replace h9:=nt h9
   rw [h9]
   refine jJ r (jJ r (jJ r (s (jZ r r) (s (kL r) (jJ r (jJ r (jJ r (jJ r (jJ r (jJ r (s (jZ r r) (s (kL r) (jJ r ?_)))))))))))))
   refine jJ r (jJ r (jJ r (jJ r (jJ r (jJ r (jJ r (jJ r (s (jZ r r) (s (kL r) (jJ r (jJ r (jJ r (jJ r ?_)))))))))))))
   refine jJ r (jJ r (jJ r (jJ r (jJ r (jJ r (jJ r (jJ r (jJ r (s (jZ r r) (s (kg r) (n (kR ?_))))))))))))
   obtain rfl:=sm b
   refine jC r (kW r) ?_
   exact ⟨r,(a.ad [] [])⟩
  rw [decide_eq_false h8]
  refine jJ r (jJ r (jJ r (s (jZ r r) (s (kL r) (jJ r (jJ r (jJ r (s (jZ r r) (s (kL r) (jJ r (jJ r (jJ r (jJ r ?_)))))))))))))
  refine jJ r (jJ r (s (jZ r r) (s (kL r) (jJ r (jJ r (jJ r (jJ r (jJ r (jJ r (jJ r (jJ r (jJ r (s (jZ r r) ?_)))))))))))))
  refine s (kL r) (jJ r (jJ r (jJ r (jJ r (jJ r (jJ r (jJ r (jJ r (jJ r (jJ r (jJ r (jJ r (jJ r ?_)))))))))))))
  refine s (jZ r r) (s (kg r) (n (kR ?_)))
  obtain rfl:=sm b
  refine jC r (kW r) ?_
  exact ⟨r,(a.ad [] [])⟩
 rw [decide_eq_false h7]
 refine jJ r (jJ r (jJ r (s (jZ r r) (s (kL r) (jJ r (jJ r (jJ r (s (jZ r r) (s (kL r) (jJ r (jJ r (jJ r (s (jZ r r) ?_)))))))))))))
 refine s (kL r) (jJ r (jJ r (jJ r (jJ r (jJ r (jJ r (s (jZ r r) (s (kL r) (jJ r (jJ r (jJ r (jJ r (jJ r ?_)))))))))))))
 refine jJ r (jJ r (jJ r (jJ r (s (jZ r r) (s (kL r) (jJ r (jJ r (jJ r (jJ r (jJ r (jJ r (jJ r (jJ r ?_)))))))))))))
 refine jJ r (jJ r (jJ r (jJ r (jJ r (s (jZ r r) (s (kg r) (n (kR ?_))))))))
 obtain rfl:=sm b
 refine jC r (kW r) ?_
 exact ⟨r,(a.ad [] [])⟩
def Cm (m:(List Int)→(List Int)→Int→Int→Option (Bool)):Prop:=∀ {e:World} {o:Nat→Prop} {f:(List Int)} {h:(List Int)} {i:Int} {j:Int} {a:Option Addr} {b:Nat} {c:Option Addr} {d:Nat} {k:Bool},Pre e o [] [.l a b f,.l c d h]→m f h i j=some k→
 Calls Try.prog 4 #[Z a f b,Z c h d,V i,V j] e (qw fun v w=>v=.bool k∧Bx e w o (lK []) [] [])
def qQ (fu:Nat)(z:(List Int)) (A:(List Int)) (x:Int)(B:Int):Option (Bool):=
 (u6 fu z).bind fun C=>
 jy C fun e p=>
 if (!p)=true then
  (vT fu).bind fun t=>
  some t
 else
  (zC fu A 2).bind fun f=>
  (uE fu x).bind fun u=>
  (l7 fu e 0 f u 0 30).bind fun C=>
  jy C fun c a=>
  (uE fu x).bind fun h=>
  (uE fu B).bind fun i=>
  (l7 fu e 0 f (wr (h+i)) 0 30).bind fun C=>
  jy C fun d b=>
  if (d.length:Int) < (c.length:Int) then
   some false
  else
   (sl d 0 (c.length:Int)).bind fun v=>
   (vE fu c v).bind fun j=>
   if (!j)=true then
    some false
   else
    if (b.a.length:Int) < (a.a.length:Int) then
     some false
    else
     (sl b.a 0 (a.a.length:Int)).bind fun w=>
     (vQ fu a.a w).bind fun k=>
     if (!k)=true then
      some false
     else
      if a.d=13 then
       (vT fu).bind fun l=>
       some l
      else
       (uq fu a b).bind fun m=>
       if m=true then
        (vT fu).bind fun o=>
        some o
       else
        some false
theorem Cz (fu:Nat):Cm (qQ fu):=by
 intro w0 bK x0 x1 x2 x3 a5 a6 a7 a8 r0 hP A
 unfold qQ at A
 have a:=hP.bx
 clear hP
 generalize hG:lK _=G at a ⊢
 refine cf Try.func4 r ?_
 refine lI [(0,Z a5 x0 a6),(1,Z a7 x1 a8),(2,V x2),(3,V x3)] ⟨r,r,r,r,y⟩ fun bL=>?_
 refine q (g (s (kg r) (n (q (g (s (l5 r) ?_))))))
 obtain ⟨⟨u,aY⟩,h1,A⟩:=bs A
 replace A:=pi A
 have hc:=(F5 fu) (a.pr [] [] [0] r)  h1
 refine sc (ec Xp r) hc ?_
 rintro _ w1 ⟨C,D,E,F,H,I,J,K,rfl,B⟩
 replace a:=a.cl [] [] r B r
 try dsimp only [pick,nth,ca,na] at a
 refine s rJ (s (jV r r) (s (jV r r) (nO (nH a (jX wm)) ?_)))
 rintro _ w2 ⟨b2,rfl,a⟩
 refine lu (tb a 0 [Z C u.a.a D,Z E u.a.b F,Z H u.b I,Z J u.c K] r wm r r r r r (show _=#[Z C u.a.a D,Z E u.a.b F,Z H u.b I,Z J u.c K] from r)) ?_
 intro w3 a
 try dsimp only [List.set] at a
 refine s (kg r) (n (q (q (g (s (kL r) (s (zh r) (n ?_)))))))
 rcases iv A with ⟨h4,A⟩|⟨h4,A⟩
 ·refine jL (cb h4) (q (g ?_))
  obtain ⟨b0,h5,A⟩:=bs A
  have hc:=(Ay fu) (a.pr [] [0] [] r)  h5
  refine sc (ec Qd r) hc ?_
  rintro _ w5 ⟨rfl,B⟩
  replace a:=a.cl [] [0] r B r
  try dsimp only [pick,nth,ca,na] at a
  refine s (kg r) (n (kR ?_))
  obtain rfl:=sm A
  refine jC r (kW r) ?_
  exact ⟨r,(a.ad [] [])⟩
 replace h4:=nt h4
 refine jH (cb h4) (wk (q (g (s (l5 r) ?_))))
 obtain ⟨a0,h6,A⟩:=bs A
 have hc:=(KF fu) (a.pr [] [0] [5] r)  h6
 refine sc (ec Zp r) hc ?_
 rintro _ w6 ⟨L,M,ak,rfl,B⟩
 have aw:=a.q9.size
 replace a:=a.cl [] [0] r B r
 try dsimp only [pick,nth,ca,na] at a
 replace a:=a.reb 0 w0.heap.size r aw
 try dsimp only [List.set] at a
 refine s (mO r) (n (q ?_))
 obtain ⟨b1,h7,A⟩:=bs A
 obtain ⟨⟨Q,j⟩,h9,A⟩:=bs A
 replace A:=pi A
 refine nW (fun f w=>∃ (v:OA)(x:Nat)(N:Nat)(m:OA)(o:Nat),Has f [(2,V x2),(3,V x3),(9,Pt b2),(11,Z L a0 M),(12,Z v Q x),(13,Pt N)]∧Bx w0 w bK G [.box b2 30 #[Z C u.a.a D,Z E u.a.b F,Z H u.b I,Z J u.c K],.box N 39 #[V j.d,.bool j.b,V j.c,Z m j.a o]] [.l C D u.a.a,.l E F u.a.b,.l H I u.b,.l J K u.c,.l L M a0,.l v x Q,.l m o j.a]) (fun Jd hJd=>?_) ?_
 ·refine oL a [1] [] [] (by kernel_rfl) ?_
  replace a:=a.drew
  have b:=(a.ad [1] [])
  refine uF 0 r (fun hS=>nG [Z C u.a.a D,Z E u.a.b F,Z H u.b I,Z J u.c K] DY r wm r r (Cells.part (hS.bk 0 r).cells (o2:=0) r)) b (pF 1 r (l5 r) b (pF 2 r (mi r) b ?_))
  refine mg 3 [8] (by kernel_rfl) (jI ?_ (jI ?_ lG))
  ·have hc:=(su fu) (a.pr [] [0,1] [] r)  h7
   refine oc r r (ec E9 r) hc ?_
   rintro _ w7 ⟨rfl,B⟩
   replace a:=a.cl [] [0,1] r B r
   try dsimp only [pick,nth,ca,na] at a
   have b:=(a.ad [1] [])
   refine ⟨(sF b),?_⟩
   refine mg 4 [8] (by kernel_rfl) (jI ?_ (jI ?_ lG))
   ·replace a:=a.Qa 0 0 r r
    try dsimp only [List.eraseIdx] at a
    have hc:=(oG fu) (a.pr [] [0] [1,2,3,4,0] r)  h9
    refine oc r r (ec Ea r) hc ?_
    rintro _ w9 ⟨v,x,m,o,rfl,B⟩
    replace a:=a.cl [] [0] r B r
    try dsimp only [pick,nth,ca,na] at a
    have b:=(a.dp [])
    refine ⟨(sF b),?_⟩
    refine pF 5 r (rJ) b (pF 6 r (jV r r) b (pF 7 r (jV r r) b ?_))
    refine hO 8 (oo r r (nH a (jX za)) ?_)
    rintro _ bd ⟨N,rfl,a⟩
    have b:=(a.ad [1] [])
    refine ⟨(sF b),?_⟩
    refine pF 9 r (mO r) b ?_
    refine hO 10 (os r r (tb a 0 [V j.d,.bool j.b,V j.c,Z m j.a o] r za r r r r r (show _=#[V j.d,.bool j.b,V j.c,Z m j.a o] from r)) ?_)
    intro bg a
    try dsimp only [List.set] at a
    have b:=(a.ad [1] [])
    refine ⟨(sF b),?_⟩
    refine hD ?_
    exact hJd _ _ ⟨v,x,N,m,o,⟨r,r,r,r,r,r,y⟩,(a.ad [1,0] [3,4,5,6,2,0,1])⟩
   refine oo r r (nH a (jX za)) ?_
   rintro _ bh ⟨az,rfl,a⟩
   have b:=(a.ad [2] [])
   refine ⟨(sF b),?_⟩
   replace a:=a.Qa 1 0 r r
   try dsimp only [List.eraseIdx] at a
   have hc:=(oG fu) (a.pr [] [0,1] [1,2,3,4,0] r)  h9
   refine hO 4 (oc r r (ec Ea r) hc ?_)
   rintro _ w9 ⟨v,x,m,o,rfl,B⟩
   replace a:=a.cl [] [0,1] r B r
   try dsimp only [pick,nth,ca,na] at a
   have b:=(a.ad [1] [])
   refine ⟨(sF b),?_⟩
   refine pF 5 r (rJ) b (pF 6 r (jV r r) b (pF 7 r (jV r r) b (pF 9 r (mO r) b ?_)))
   refine hO 10 (os r r (tb a 0 [V j.d,.bool j.b,V j.c,Z m j.a o] r za r r r r r (show _=#[V j.d,.bool j.b,V j.c,Z m j.a o] from r)) ?_)
   intro bi a
   try dsimp only [List.set] at a
   have b:=(a.ad [1] [])
   refine ⟨(sF b),?_⟩
   refine hD ?_
   exact hJd _ _ ⟨v,x,az,m,o,⟨r,r,r,r,r,r,y⟩,(a.ad [1,0] [3,4,5,6,2,0,1])⟩
  refine oo r r (nH a (jX za)) ?_
  rintro _ bj ⟨aA,rfl,a⟩
  have b:=(a.ad [2] [])
  refine ⟨(sF b),?_⟩
  have hc:=(su fu) (a.pr [] [0,1,2] [] r)  h7
  refine hO 3 (oc r r (ec E9 r) hc ?_)
  rintro _ w7 ⟨rfl,B⟩
  replace a:=a.cl [] [0,1,2] r B r
  try dsimp only [pick,nth,ca,na] at a
  have b:=(a.ad [2] [])
  refine ⟨(sF b),?_⟩
  replace a:=a.Qa 1 0 r r
  try dsimp only [List.eraseIdx] at a
  have hc:=(oG fu) (a.pr [] [0,1] [1,2,3,4,0] r)  h9
  refine hO 4 (oc r r (ec Ea r) hc ?_)
  rintro _ w9 ⟨v,x,m,o,rfl,B⟩
  replace a:=a.cl [] [0,1] r B r
  try dsimp only [pick,nth,ca,na] at a
  have b:=(a.ad [1] [])
  refine ⟨(sF b),?_⟩
  refine pF 5 r (rJ) b (pF 6 r (jV r r) b (pF 7 r (jV r r) b (pF 9 r (mO r) b ?_)))
  refine hO 10 (os r r (tb a 0 [V j.d,.bool j.b,V j.c,Z m j.a o] r za r r r r r (show _=#[V j.d,.bool j.b,V j.c,Z m j.a o] from r)) ?_)
  intro bl a
  try dsimp only [List.set] at a
  have b:=(a.ad [1] [])
  refine ⟨(sF b),?_⟩
  refine hD ?_
  exact hJd _ _ ⟨v,x,aA,m,o,⟨r,r,r,r,r,r,y⟩,(a.ad [1,0] [3,4,5,6,2,0,1])⟩
 clear a
 rintro f w ⟨v,x,N,m,o,hf,a⟩
 obtain ⟨bL,rfl⟩:=gP _ _ hf
 clear hf
 refine q ?_
 obtain ⟨aB,al,A⟩:=bs A
 obtain ⟨aC,a9,A⟩:=bs A
 obtain ⟨⟨R,c⟩,Y,A⟩:=bs A
 replace A:=pi A
 refine nW (fun f w=>∃ (p:OA)(t:Nat)(S:Nat)(e:OA)(h:Nat),Has f [(12,Z v Q x),(13,Pt N),(14,Z p R t),(15,Pt S)]∧Bx w0 w bK G [.box N 39 #[V j.d,.bool j.b,V j.c,Z m j.a o],.box S 39 #[V c.d,.bool c.b,V c.c,Z e c.a h]] [.l v x Q,.l m o j.a,.l p t R,.l e h c.a]) (fun Jd hJd=>?_) ?_
 ·refine oL a [0] [] [] (by kernel_rfl) ?_
  replace a:=a.drew
  have b:=(a.ad [0] [])
  refine uF 0 r (fun hS=>nG [Z C u.a.a D,Z E u.a.b F,Z H u.b I,Z J u.c K] DY r wm r r (Cells.part (hS.bk 0 r).cells (o2:=0) r)) b (pF 1 r (l5 r) b (pF 2 r (mi r) b (pF 4 r (mi r) b ?_)))
  refine mg 3 [11] (by kernel_rfl) (jI ?_ (jI ?_ lG))
  ·have hc:=(su fu) (a.pr [] [0,1] [] r)  al
   refine oc r r (ec E9 r) hc ?_
   rintro _ aD ⟨rfl,B⟩
   replace a:=a.cl [] [0,1] r B r
   try dsimp only [pick,nth,ca,na] at a
   have b:=(a.ad [0] [])
   refine ⟨(sF b),?_⟩
   refine mg 5 [11] (by kernel_rfl) (jI ?_ (jI ?_ lG))
   ·have hc:=(su fu) (a.pr [] [0,1] [] r)  a9
    refine oc r r (ec E9 r) hc ?_
    rintro _ am ⟨rfl,B⟩
    replace a:=a.cl [] [0,1] r B r
    try dsimp only [pick,nth,ca,na] at a
    have b:=(a.ad [0] [])
    refine ⟨(sF b),?_⟩
    refine pF 6 r (kF r r) b ?_
    refine mg 7 [11] (by kernel_rfl) (jI ?_ (jI ?_ lG))
    ·have hc:=(oG fu) (a.pr [] [0,1] [0,1,2,3,4] r)  Y
     refine oc r r (ec Ea r) hc ?_
     rintro _ aa ⟨p,t,e,h,rfl,B⟩
     replace a:=a.cl [] [0,1] r B r
     try dsimp only [pick,nth,ca,na] at a
     have b:=(a.ad [0] [])
     refine ⟨(sF b),?_⟩
     refine pF 8 r (rJ) b (pF 9 r (jV r r) b (pF 10 r (jV r r) b ?_))
     refine hO 11 (oo r r (nH a (jX za)) ?_)
     rintro _ bm ⟨S,rfl,a⟩
     have b:=(a.ad [1] [])
     refine ⟨(sF b),?_⟩
     refine pF 12 r (mO r) b ?_
     refine hO 13 (os r r (tb a 0 [V c.d,.bool c.b,V c.c,Z e c.a h] r za r r r r r (show _=#[V c.d,.bool c.b,V c.c,Z e c.a h] from r)) ?_)
     intro bn a
     try dsimp only [List.set] at a
     have b:=(a.ad [1] [])
     refine ⟨(sF b),?_⟩
     refine hD ?_
     exact hJd _ _ ⟨p,t,S,e,h,⟨r,r,r,r,y⟩,(a.ad [2,0] [7,8,0,1])⟩
    refine oo r r (nH a (jX za)) ?_
    rintro _ bo ⟨aE,rfl,a⟩
    have b:=(a.ad [1] [])
    refine ⟨(sF b),?_⟩
    have hc:=(oG fu) (a.pr [] [0,1,2] [0,1,2,3,4] r)  Y
    refine hO 7 (oc r r (ec Ea r) hc ?_)
    rintro _ aa ⟨p,t,e,h,rfl,B⟩
    replace a:=a.cl [] [0,1,2] r B r
    try dsimp only [pick,nth,ca,na] at a
    have b:=(a.ad [1] [])
    refine ⟨(sF b),?_⟩
    refine pF 8 r (rJ) b (pF 9 r (jV r r) b (pF 10 r (jV r r) b (pF 12 r (mO r) b ?_)))
    refine hO 13 (os r r (tb a 0 [V c.d,.bool c.b,V c.c,Z e c.a h] r za r r r r r (show _=#[V c.d,.bool c.b,V c.c,Z e c.a h] from r)) ?_)
    intro bp a
    try dsimp only [List.set] at a
    have b:=(a.ad [1] [])
    refine ⟨(sF b),?_⟩
    refine hD ?_
    exact hJd _ _ ⟨p,t,aE,e,h,⟨r,r,r,r,y⟩,(a.ad [2,0] [7,8,0,1])⟩
   refine oo r r (nH a (jX za)) ?_
   rintro _ bq ⟨aF,rfl,a⟩
   have b:=(a.ad [1] [])
   refine ⟨(sF b),?_⟩
   have hc:=(su fu) (a.pr [] [0,1,2] [] r)  a9
   refine hO 5 (oc r r (ec E9 r) hc ?_)
   rintro _ am ⟨rfl,B⟩
   replace a:=a.cl [] [0,1,2] r B r
   try dsimp only [pick,nth,ca,na] at a
   have b:=(a.ad [1] [])
   refine ⟨(sF b),?_⟩
   refine pF 6 r (kF r r) b ?_
   have hc:=(oG fu) (a.pr [] [0,1,2] [0,1,2,3,4] r)  Y
   refine hO 7 (oc r r (ec Ea r) hc ?_)
   rintro _ aa ⟨p,t,e,h,rfl,B⟩
   replace a:=a.cl [] [0,1,2] r B r
   try dsimp only [pick,nth,ca,na] at a
   have b:=(a.ad [1] [])
   refine ⟨(sF b),?_⟩
   refine pF 8 r (rJ) b (pF 9 r (jV r r) b (pF 10 r (jV r r) b (pF 12 r (mO r) b ?_)))
   refine hO 13 (os r r (tb a 0 [V c.d,.bool c.b,V c.c,Z e c.a h] r za r r r r r (show _=#[V c.d,.bool c.b,V c.c,Z e c.a h] from r)) ?_)
   intro br a
   try dsimp only [List.set] at a
   have b:=(a.ad [1] [])
   refine ⟨(sF b),?_⟩
   refine hD ?_
   exact hJd _ _ ⟨p,t,aF,e,h,⟨r,r,r,r,y⟩,(a.ad [2,0] [7,8,0,1])⟩
  refine oo r r (nH a (jX za)) ?_
  rintro _ bu ⟨aG,rfl,a⟩
  have b:=(a.ad [1] [])
  refine ⟨(sF b),?_⟩
  have hc:=(su fu) (a.pr [] [0,1,2] [] r)  al
  refine hO 3 (oc r r (ec E9 r) hc ?_)
  rintro _ aD ⟨rfl,B⟩
  replace a:=a.cl [] [0,1,2] r B r
  try dsimp only [pick,nth,ca,na] at a
  have b:=(a.ad [1] [])
  refine ⟨(sF b),?_⟩
  have hc:=(su fu) (a.pr [] [0,1,2] [] r)  a9
  refine hO 5 (oc r r (ec E9 r) hc ?_)
  rintro _ am ⟨rfl,B⟩
  replace a:=a.cl [] [0,1,2] r B r
  try dsimp only [pick,nth,ca,na] at a
  have b:=(a.ad [1] [])
  refine ⟨(sF b),?_⟩
  refine pF 6 r (kF r r) b ?_
  have hc:=(oG fu) (a.pr [] [0,1,2] [0,1,2,3,4] r)  Y
  refine hO 7 (oc r r (ec Ea r) hc ?_)
  rintro _ aa ⟨p,t,e,h,rfl,B⟩
  replace a:=a.cl [] [0,1,2] r B r
  try dsimp only [pick,nth,ca,na] at a
  have b:=(a.ad [1] [])
  refine ⟨(sF b),?_⟩
  refine pF 8 r (rJ) b (pF 9 r (jV r r) b (pF 10 r (jV r r) b (pF 12 r (mO r) b ?_)))
  refine hO 13 (os r r (tb a 0 [V c.d,.bool c.b,V c.c,Z e c.a h] r za r r r r r (show _=#[V c.d,.bool c.b,V c.c,Z e c.a h] from r)) ?_)
  intro bv a
  try dsimp only [List.set] at a
  have b:=(a.ad [1] [])
  refine ⟨(sF b),?_⟩
  refine hD ?_
  exact hJd _ _ ⟨p,t,aG,e,h,⟨r,r,r,r,y⟩,(a.ad [2,0] [7,8,0,1])⟩
 clear a
 rintro f w ⟨p,t,S,e,h,hf,a⟩
 obtain ⟨bL,rfl⟩:=gP _ _ hf
 clear hf
 refine q (q (oL a [0,1] [] [] (by kernel_rfl) ?_))
 replace a:=a.drew
 have b:=(a.dp [])
 refine pF 0 r (l5 r) b (pF 1 r (kZ BN r) b (pF 2 r (l5 r) b (pF 3 r (kZ BN r) b (pF 4 r (pz r r) b (pF 5 r (kL r) b ?_)))))
 rcases iv A with ⟨ab,A⟩|⟨ab,A⟩
 ·rw [decide_eq_true ab]
  have b:=(a.dp [])
  refine jM 6 r (by kernel_rfl) r (sF b) (jM 7 r (by kernel_rfl) r (sF b) (jM 8 r (by kernel_rfl) r (sF b) (jM 9 r (by kernel_rfl) r (sF b) (jM 10 r (by kernel_rfl) r (sF b) (jM 11 r (by kernel_rfl) r (sF b) (jM 12 r (by kernel_rfl) r (sF b) (pF 13 r (kC r r) b (pF 14 r (kL r) b (jM 15 r (by kernel_rfl) r (sF b) (jM 16 r (by kernel_rfl) r (sF b) (jM 17 r (by kernel_rfl) r (sF b) (jM 18 r (by kernel_rfl) r (sF b) (jM 19 r (by kernel_rfl) r (sF b) ?_)))))))))))))
  refine jM 20 r (by kernel_rfl) r (sF b) (jM 21 r (by kernel_rfl) r (sF b) (pF 22 r (kC r r) b (pF 23 r (kL r) b (jM 24 r (by kernel_rfl) r (sF b) (jM 25 r (by kernel_rfl) r (sF b) (jM 26 r (by kernel_rfl) r (sF b) (jM 27 r (by kernel_rfl) r (sF b) (jM 28 r (by kernel_rfl) r (sF b) (jM 29 r (by kernel_rfl) r (sF b) (jM 30 r (by kernel_rfl) r (sF b) (jM 31 r (by kernel_rfl) r (sF b) (jM 32 r (by kernel_rfl) r (sF b) (jM 33 r (by kernel_rfl) r (sF b) ?_)))))))))))))
  refine pF 34 r (kC r r) b (hD (jL r (q (g (s (kg r) (n (kR ?_)))))))
  obtain rfl:=sm A
  refine jC r (kW r) ?_
  exact ⟨r,(a.ad [] [])⟩
 rw [decide_eq_false ab]
 have b:=(a.dp [])
 refine pF 6 r (l5 r) b (pF 7 r (l5 r) b (pF 8 r (l5 r) b (pF 9 r (kZ BN r) b ?_)))
 obtain ⟨ac,an,A⟩:=bs A
 obtain ⟨aH,ao,b5,ap,aI,a1,a2⟩:=zY an
 obtain rfl:aH=0:=by omega
 have ae:ac.length=ao:=by rw [← a2,List.length_take,List.length_drop];omega
 replace a:=a.ku (d:=.l p t ac) (by have bM:=(a.dl 2 r).head a1;rw [a2] at bM;exact bM)
 refine tP 10 r (fun _=>show Yl _ _ _ _ _ _ _ _ _ (.slice p ac.length t) from (congrArg (fun z=>Value.slice p z t) ae).symm ▸ wR ao BN ED r r ap (Nat.le_trans a1 ((a.dl 3 r)).cap)) (sF b) ?_
 obtain ⟨aJ,aK,A⟩:=bs A
 have hc:=(FL fu) (a.pr [] [0,1] [1,0] r)  aK
 refine hO 11 (oc r r (ec XR r) hc ?_)
 rintro _ bw ⟨rfl,B⟩
 replace a:=a.cl [] [0,1] r B r
 try dsimp only [pick,nth,ca,na] at a
 have b:=(a.dp [])
 refine ⟨(sF b),?_⟩
 refine pF 12 r (zh r) b (pF 13 r (jZ r r) b (pF 14 r (kL r) b ?_))
 rcases iv A with ⟨U,A⟩|⟨U,A⟩
 ·rw [U]
  have b:=(a.dp [])
  refine jM 15 r (by kernel_rfl) r (sF b) (jM 16 r (by kernel_rfl) r (sF b) (jM 17 r (by kernel_rfl) r (sF b) (jM 18 r (by kernel_rfl) r (sF b) (jM 19 r (by kernel_rfl) r (sF b) (jM 20 r (by kernel_rfl) r (sF b) (jM 21 r (by kernel_rfl) r (sF b) (pF 22 r (kC r r) b (pF 23 r (kL r) b (jM 24 r (by kernel_rfl) r (sF b) (jM 25 r (by kernel_rfl) r (sF b) (jM 26 r (by kernel_rfl) r (sF b) (jM 27 r (by kernel_rfl) r (sF b) (jM 28 r (by kernel_rfl) r (sF b) ?_)))))))))))))
  refine jM 29 r (by kernel_rfl) r (sF b) (jM 30 r (by kernel_rfl) r (sF b) (jM 31 r (by kernel_rfl) r (sF b) (jM 32 r (by kernel_rfl) r (sF b) (jM 33 r (by kernel_rfl) r (sF b) (pF 34 r (kC r r) b (hD (jL r (q (g (s (kg r) (n (kR ?_))))))))))))
  obtain rfl:=sm A
  refine jC r (kW r) ?_
  exact ⟨r,(a.ad [] [])⟩
 replace U:=nt U
 rw [U]
 have b:=(a.dp [])
 refine pF 15 r (Eb r) b (uF 16 r (fun hS=>Kr r (hS.bk 1 r) r) b (pF 17 r (kZ rM r) b (pF 18 r (Eb r) b (uF 19 r (fun hS=>Kr r (hS.bk 0 r) r) b (pF 20 r (kZ rM r) b (pF 21 r (pz r r) b (pF 22 r (jZ r r) b (pF 23 r (kL r) b ?_))))))))
 rcases iv A with ⟨af,A⟩|⟨af,A⟩
 ·rw [decide_eq_true af]
  have b:=(a.dp [])
  refine jM 24 r (by kernel_rfl) r (sF b) (jM 25 r (by kernel_rfl) r (sF b) (jM 26 r (by kernel_rfl) r (sF b) (jM 27 r (by kernel_rfl) r (sF b) (jM 28 r (by kernel_rfl) r (sF b) (jM 29 r (by kernel_rfl) r (sF b) (jM 30 r (by kernel_rfl) r (sF b) (jM 31 r (by kernel_rfl) r (sF b) (jM 32 r (by kernel_rfl) r (sF b) (jM 33 r (by kernel_rfl) r (sF b) (pF 34 r (kC r r) b (hD (jL r (q ?_)))))))))))))
  refine g (s (kg r) (n (kR ?_)))
  obtain rfl:=sm A
  refine jC r (kW r) ?_
  exact ⟨r,(a.ad [] [])⟩
 rw [decide_eq_false af]
 have b:=(a.dp [])
 refine pF 24 r (Eb r) b (uF 25 r (fun hS=>Kr r (hS.bk 0 r) r) b (pF 26 r (Eb r) b (uF 27 r (fun hS=>Kr r (hS.bk 1 r) r) b (pF 28 r (Eb r) b (uF 29 r (fun hS=>Kr r (hS.bk 0 r) r) b (pF 30 r (kZ rM r) b ?_))))))
 obtain ⟨ag,aq,A⟩:=bs A
 obtain ⟨aL,ar,b6,au,aM,a3,a4⟩:=zY aq
 obtain rfl:aL=0:=by omega
 have ah:ag.length=ar:=by rw [← a4,List.length_take,List.length_drop];omega
 replace a:=a.ku (d:=.l e h ag) (by have bM:=(a.dl 4 r).head a3;rw [a4] at bM;exact bM)
 refine tP 31 r (fun _=>show Yl _ _ _ _ _ _ _ _ _ (.slice e ag.length h) from (congrArg (fun z=>Value.slice e z h) ah).symm ▸ wR ar rM mK r r au (Nat.le_trans a3 ((a.dl 5 r)).cap)) (sF b) ?_
 obtain ⟨aN,aO,A⟩:=bs A
 have hc:=(Br fu) (a.pr [] [0,1] [3,0] r)  aO
 refine hO 32 (oc r r (ec QO r) hc ?_)
 rintro _ bz ⟨rfl,B⟩
 replace a:=a.cl [] [0,1] r B r
 try dsimp only [pick,nth,ca,na] at a
 have b:=(a.dp [])
 refine ⟨(sF b),?_⟩
 refine pF 33 r (zh r) b (pF 34 r (jZ r r) b (hD ?_))
 rcases iv A with ⟨W,A⟩|⟨W,A⟩
 ·refine jL (cb W) (q (g (s (kg r) (n (kR ?_)))))
  obtain rfl:=sm A
  refine jC r (kW r) ?_
  exact ⟨r,(a.ad [] [])⟩
 replace W:=nt W
 refine jH (cb W) (wk (q (g (s (Ih r) (s (Bc r (a.bk 0 r) r) (s (kH r r) (s (kL r) ?_)))))))
 rcases iv A with ⟨ai,A⟩|⟨ai,A⟩
 ·rw [decide_eq_true ai]
  refine jJ r (jJ r (jJ r (s (kC r r) (s (kL r) ?_))))
  obtain ⟨aP,aQ,A⟩:=bs A
  refine kr r ?_
  have hc:=(Ay fu) (a.pr [] [0,1] [] r)  aQ
  refine sc (ec Qd r) hc ?_
  rintro _ bA ⟨rfl,B⟩
  replace a:=a.cl [] [0,1] r B r
  try dsimp only [pick,nth,ca,na] at a
  refine s (kC r r) (s (kg r) (n (kR ?_)))
  obtain rfl:=sm A
  refine jC r (kW r) ?_
  exact ⟨r,(a.ad [] [])⟩
 rw [decide_eq_false ai]
 refine kr r (s (nG [V j.d,.bool j.b,V j.c,Z m j.a o] Qj r za r r (Cells.part (a.bk 0 r).cells (o2:=0) r)) (kr r (s (nG [V c.d,.bool c.b,V c.c,Z e c.a h] Qj r za r r (Cells.part (a.bk 1 r).cells (o2:=0) r)) ?_)))
 obtain ⟨aR,aS,A⟩:=bs A
 refine kr r ?_
 have hc:=(Ey fu) (a.pr [] [0,1] [3,5] r)  aS
 refine sc (ec Xu r) hc ?_
 rintro _ bB ⟨rfl,B⟩
 replace a:=a.cl [] [0,1] r B r
 try dsimp only [pick,nth,ca,na] at a
 refine s (jZ r r) (s (kL r) ?_)
 rcases iv A with ⟨X,A⟩|⟨X,A⟩
 ·rw [X]
  obtain ⟨aT,aU,A⟩:=bs A
  refine kr r ?_
  have hc:=(Ay fu) (a.pr [] [0,1] [] r)  aU
  refine sc (ec Qd r) hc ?_
  rintro _ bC ⟨rfl,B⟩
  replace a:=a.cl [] [0,1] r B r
  try dsimp only [pick,nth,ca,na] at a
  refine s (kC r r) (s (kg r) (n (kR ?_)))
  obtain rfl:=sm A
  refine jC r (kW r) ?_
  exact ⟨r,(a.ad [] [])⟩
 replace X:=nt X
 rw [X]
 refine jJ r (s (jZ r r) (s (kg r) (n (kR ?_))))
 obtain rfl:=sm A
 refine jC r (kW r) ?_
 exact ⟨r,(a.ad [] [])⟩
end
end Go.Proofs.Ytfglbdkfnphjgaa
set_option linter.unusedVariables false
set_option linter.unusedSimpArgs false
namespace Go.Proofs.Ytfglbdkfnphjgaa
open Go.RowKit Go.Fw
theorem ob {α β:Type} {x:α} {f:α→Option β}:(some x).bind f=f x:=rfl
theorem Cq {α:Type} {l:List α} {i:Nat} {x:α} (h:l[i]?=some x):ix l (i:Int)=some x:=by
 unfold Go.Fw.ix
 rw [if_neg (by omega),Int.toNat_natCast,h]
theorem Xi {i:Nat} (h:i≤1000000):wr ((i:Int)+1)=((i+1:Nat):Int):=by rw [lV (by omega) (by omega)];omega
section
variable {fu:Nat}
theorem LP {l:List Int} (hl:l.length≤100000):∀ (n i:Nat),l.length+1≤n+i→i≤l.length→tu fu l l n (i:Int)=some (.go (l.length:Int))
 | 0,_,h,h2=>by omega
 | n+1,i,h,h2=>by
  rw [tu]
  by_cases c:(i:Int) < l.length
  · obtain ⟨x,hx⟩:=mG (l:=l) (k:=i) (by omega)
    rw [if_pos c,Cq hx,ob,ob,if_neg (by simp),Xi (by omega)]
    exact LP hl n (i+1) (by omega) (by omega)
  · rw [if_neg c,show i=l.length by omega]
theorem Po {l:List Int} (hl:l.length≤100000) (hf:l.length+1≤fu):vQ fu l l=some true:=by
 unfold vQ
 rw [if_neg (by simp),show (0:Int)=((0:Nat):Int) from rfl,LP hl fu 0 (by omega) (Nat.zero_le _)]
 rfl
theorem Hw {l:List Bool} (hl:l.length≤100000):∀ (n i:Nat),l.length+1≤n+i→i≤l.length→rU fu l l n (i:Int)=some (.go (l.length:Int))
 | 0,_,h,h2=>by omega
 | n+1,i,h,h2=>by
  rw [rU]
  by_cases c:(i:Int) < l.length
  · obtain ⟨x,hx⟩:=mG (l:=l) (k:=i) (by omega)
    rw [if_pos c,Cq hx,ob,ob,if_neg (by simp),Xi (by omega)]
    exact Hw hl n (i+1) (by omega) (by omega)
  · rw [if_neg c,show i=l.length by omega]
theorem VJ {l:List Bool} (hl:l.length≤100000) (hf:l.length+1≤fu):yS fu l l=some true:=by
 unfold yS
 rw [if_neg (by simp),show (0:Int)=((0:Nat):Int) from rfl,Hw hl fu 0 (by omega) (Nat.zero_le _)]
 rfl
def Vm (f:nJ):Prop:=f.b.length≤24∧∀ x ∈ f.b,x.b.length≤8∧x.a.length≤8
def RG (e:kK):Prop:=e.a.length≤20∧∀ f ∈ e.a,Vm f
theorem FR (hf:100≤fu) {f:nJ} (hs:Vm f):∀ (n i:Nat),f.b.length+1≤n+i→i≤f.b.length→qP fu f f n (i:Int)=some (.go (f.b.length:Int))
 | 0,_,h,h2=>by omega
 | n+1,i,h,h2=>by
  have:=hs.1
  rw [qP]
  by_cases c:(i:Int) < f.b.length
  · obtain ⟨x,hx⟩:=mG (l:=f.b) (k:=i) (by omega)
    have k:=hs.2 x (List.mem_of_getElem? hx)
    rw [if_pos c,Cq hx,ob,ob,if_neg (by simp),VJ (by omega) (by omega),ob,if_neg (by decide),Po (by omega) (by omega),ob,if_neg (by decide),Xi (by omega)]
    exact FR hf hs n (i+1) (by omega) (by omega)
  · rw [if_neg c,show i=f.b.length by omega]
theorem R5 (hf:100≤fu) {f:nJ} (hs:Vm f):wQ fu f f=some true:=by
 have:=hs.1
 unfold wQ
 rw [if_neg (by simp),if_neg (by simp),if_neg (by simp),show (0:Int)=((0:Nat):Int) from rfl,FR hf hs fu 0 (by omega) (Nat.zero_le _)]
 rfl
theorem ND (hf:100≤fu) {l:List kK} {b:Nat} {e:kK} (hb:l[b]?=some e) (hs:RG e):∀ (n i:Nat),e.a.length+1≤n+i→i≤e.a.length→qo fu l l (b:Int) n (i:Int)=some (.go (e.a.length:Int))
 | 0,_,h,h2=>by omega
 | n+1,i,h,h2=>by
  have:=hs.1
  rw [qo,Cq hb,ob]
  by_cases c:(i:Int) < e.a.length
  · obtain ⟨x,hx⟩:=mG (l:=e.a) (k:=i) (by omega)
    rw [if_pos c,Cq hx,ob,ob,Cq hx,ob,R5 hf (hs.2 x (List.mem_of_getElem? hx)),ob,if_neg (by decide),Xi (by omega)]
    exact ND hf hb hs n (i+1) (by omega) (by omega)
  · rw [if_neg c,show i=e.a.length by omega]
theorem Nn (hf:100≤fu) {l:List kK} (hl:l.length≤100000) (hs:∀ e ∈ l,RG e):∀ (n i:Nat),l.length+1≤n+i→i≤l.length→ql fu l l n (i:Int)=some (.go (l.length:Int))
 | 0,_,h,h2=>by omega
 | n+1,i,h,h2=>by
  rw [ql]
  by_cases c:(i:Int) < l.length
  · obtain ⟨x,hx⟩:=mG (l:=l) (k:=i) (by omega)
    have hx2:=hs x (List.mem_of_getElem? hx)
    have:=hx2.1
    rw [if_pos c,Cq hx,ob,ob,if_neg (by simp),show (0:Int)=((0:Nat):Int) from rfl,ND hf hx hx2 fu 0 (by omega) (Nat.zero_le _),Xi (by omega)]
    exact Nn hf hl hs n (i+1) (by omega) (by omega)
  · rw [if_neg c,show i=l.length by omega]
theorem ZV (hf:100≤fu) {l:List kK} (hl:l.length≤100000) (hl2:l.length+1≤fu) (hs:∀ e ∈ l,RG e):vE fu l l=some true:=by
 unfold vE
 rw [if_neg (by simp),show (0:Int)=((0:Nat):Int) from rfl,Nn hf hl hs fu 0 (by omega) (Nat.zero_le _)]
 rfl
theorem Xl {o:nL} (hl:o.a.length≤100000) (hf:o.a.length+1≤fu):uq fu o o=some true:=by
 unfold uq
 rw [if_pos rfl,if_pos rfl,if_pos rfl,Po hl hf]
 rfl
end
theorem Fit.row {s:jQ} {g:sH} (h:Fit s g) {l:List Int} {k:Nat} (hk:g.ws[k]?=some l):l.length≤8:=by
 obtain ⟨_,V,h1,h2,h3⟩:=h
 have e:(g.ws.map List.length)[k]?=some l.length:=by rw [List.getElem?_map,hk];rfl
 rw [h2,List.getElem?_map] at e
 cases hV:V[k]? with
 | none=>rw [hV] at e;cases e
 | some x=>
  rw [hV] at e
  have:=h3 x (List.mem_of_getElem? hV)
  have:x.a.toNat=l.length:=Option.some.inj e
  omega
theorem Lg.sz {s:jQ} (hv:∀ V ∈ s.b,V.length≤24) {e:kK} (h:Lg s e):RG e:=by
 obtain ⟨gs,h1,h2,h3⟩:=h
 refine ⟨by rw [h1,List.length_map];exact h2,fun f hf=>?_⟩
 rw [h1] at hf
 obtain ⟨g,hg,rfl⟩:=List.mem_map.1 hf
 refine ⟨by unfold XK;rw [List.length_map];exact Lh hv,fun x hx=>?_⟩
 obtain ⟨v,hv2,rfl⟩:=List.mem_map.1 hx
 have hb:=(h3 g hg).vis hv2
 obtain ⟨l,hl⟩:=mG (l:=g.ws) (k:=v.toNat) (by omega)
 have h8:=(h3 g hg).row hl
 unfold Zx
 rw [List.getD_eq_getElem?_getD,hl]
 exact ⟨by rw [List.length_replicate];exact h8,h8⟩
def Vb:Pn Int→List Int→nL
 | .ok v,o=>⟨0,false,v,o⟩
 | .Ep v,o=>⟨0,true,v,o⟩
 | .err e,o=>⟨e,false,0,o⟩
 | .rt,o=>⟨4,false,0,o⟩
theorem Qi:vT 10100=some true:=by kernel_rfl
theorem Le {fu:Nat} {n:Int}:kE (uE fu n) (fun v=>0≤v∧v≤400):=by
 unfold uE
 exact .bd (TN (by omega) (by omega)) fun v hv=>.mk ⟨hv.1,by omega⟩
theorem Np {fu:Nat} {l:List Int}:∀ (n i:Nat) (out:List Int),3≤n+i→i≤2→out.length≤i→kE (sP fu l 2 n (i:Int) out) (oI (fun r=>jy r fun _ a=>a.length≤2) (fun _=>False))
 | 0,i,out,h,h2,_=>by omega
 | n+1,i,out,h,h2,h3=>by
  rw [sP]
  refine .ite (fun c=>?_) fun _=>.go (by show out.length≤2;omega)
  have hJ:kE (xX fu l (i:Int)) (oI (fun _=>True) (fun _=>False)):=by
   unfold xX
   exact .ite (fun c=>.bd (.ix (by omega) c) fun _ _=>.go trivial) fun _=>.go trivial
  refine .el hJ (fun c _=>.bd (.app (by simp only [List.length_cons,List.length_nil];omega)) fun r hr=>?_) fun _ z=>z.elim
  subst hr
  rw [Xi (by omega)]
  exact Np n (i+1) _ (by omega) (by omega) (by rw [kG];omega)
theorem Xc {fu:Nat} (hf:3≤fu) {l:List Int}:kE (zC fu l 2) (fun a=>a.length≤2):=by
 unfold zC
 refine .el (Np fu 0 [] (by omega) (by decide) (Nat.le_refl _)) (fun r hr=>?_) fun _ z=>z.elim
 obtain ⟨b,a⟩:=r
 exact .mk hr
end Go.Proofs.Ytfglbdkfnphjgaa
set_option linter.unusedVariables false
set_option linter.unusedSimpArgs false
namespace Go.Proofs.Ytfglbdkfnphjgaa
open Go.RowKit Go.Fw
theorem FW {p:Pn Int} {o:List Int}:(Vb p o).a=o:=by cases p <;> rfl
theorem OQ {s:jQ} (hs:CI s) {fu:Nat} (hf:10100≤fu) {f:Int} {args:List Int} {n1 n2:Int} (h0:0≤n1) (h1:n1≤n2) (h2:n2≤5000) :
  ∃ e1 o1 e2 o2,l7 fu s f args n1 0 30=some (e1.take 30,o1)∧l7 fu s f args n2 0 30=some (e2.take 30,o2)∧e1 <+: e2∧o1.a <+: o2.a∧(o1.d=13 ∨ o1=o2)∧o2.a.length≤5000∧∀ e ∈ e1,Lg s e:=by
 have bad:l7 fu s f args n1 0 30=some ([],⟨1,false,0,[]⟩)→l7 fu s f args n2 0 30=some ([],⟨1,false,0,[]⟩)→∃ e1 o1 e2 o2,l7 fu s f args n1 0 30=some (e1.take 30,o1)∧l7 fu s f args n2 0 30=some (e2.take 30,o2)∧e1 <+: e2∧o1.a <+: o2.a∧(o1.d=13 ∨ o1=o2)∧o2.a.length≤5000∧∀ e ∈ e1,Lg s e:=fun h k=>
  ⟨[],⟨1,false,0,[]⟩,[],⟨1,false,0,[]⟩,h,k,List.prefix_rfl,List.prefix_rfl,.inr rfl,Nat.zero_le _,fun e he=>by cases he⟩
 unfold l7 traceM at bad ⊢
 cases hF:ix? s.a.b f with
 | none=>rw [hF] at bad;exact bad rfl rfl
 | some fn=>
  rw [hF] at bad
  dsimp only at bad ⊢
  by_cases hp:args.length≠fn.a.length
  · exact bad (if_pos (.inl hp)) (if_pos (.inl hp))
  have tot:∀ N:Nat,N≤5000→kE (AY (stM (jA fu s) s N fu) s [] f args [] []) (fun r=>Cl s N [] [] r.2.1 r.2.2):=fun N hN=>
    Pe (s:=s) (N:=N) hs (Nat.zero_le _) (Nat.le_refl _) (fun e he=>by cases he) fun _ S x k h10 _ hG hX=>QK hs hN fu [] S x k (fun g hg=>by cases hg) (Nat.zero_le _) hG hX h10 (by omega)
  obtain ⟨⟨p1,e1,o1⟩,q1,c1⟩:=tot n1.toNat (by omega)
  obtain ⟨⟨p2,e2,o2⟩,q2,c2⟩:=tot n2.toNat (by omega)
  have hR:=P9 (s:=s) (N:=n2.toNat) hs (Nat.zero_le _) (Nat.le_refl _) (fun e he=>by cases he)
    (fun _ S x k h10 _ hG hX=>QK hs (by omega) fu [] S x k (fun g hg=>by cases hg) (Nat.zero_le _) hG hX h10 (by omega))
    (fun _ S x k r1 r2 h10 _ hG hX=>XT hs (by omega) (N1:=n1.toNat) (by omega) fu [] S x k r1 r2 (fun g hg=>by cases hg) (Nat.zero_le _) hG hX h10 (by omega)) q1 q2
  refine ⟨e1,Vb p1 o1,e2,Vb p2 o2,?_,?_,?_,?_,?_,?_,c1.ev⟩
  · rw [if_neg (by omega),q1]
    cases p1 <;> rfl
  · rw [if_neg (by omega),q2]
    cases p2 <;> rfl
  · rcases hR with e | ⟨e,k1,k2⟩
    · cases e;exact List.prefix_rfl
    · exact k1
  · rw [FW,FW]
    rcases hR with e | ⟨e,k1,k2⟩
    · cases e;exact List.prefix_rfl
    · exact k2
  · rcases hR with e | ⟨e,k1,k2⟩
    · cases e;exact .inr rfl
    · dsimp only at e;subst e;exact .inl rfl
  · rw [FW]
    have:=c2.ol
    have:=c2.hl
    dsimp only at *
    omega
theorem QW {α:Type} {l m:List α} (h:l <+: m) (n:Nat):(m.take n).take (l.take n).length=l.take n:=by
 obtain ⟨t,rfl⟩:=h
 rw [List.length_take,List.take_take]
 by_cases c:n≤l.length
 · rw [show min (min n l.length) n=n by omega,List.take_append_of_le_length c]
 · rw [show min (min n l.length) n=l.length by omega,List.take_left,List.take_of_length_le (by omega)]
theorem Mi (l a:List Int) (n m:Int):qQ 10100 l a n m=some true:=by
 have h:kE (qQ 10100 l a n m) (fun b=>b=true):=by
  unfold qQ
  rw [Qi]
  refine .bp (Mt (by decide)) fun s b hs=>.ite (fun _=>.mk rfl) fun c=>?_
  have hs:=hs (by simpa using c)
  refine .bd (Xc (by decide)) fun x hx=>?_
  obtain ⟨N,hN,h0,h4⟩:=Le (fu:=10100) (n:=n)
  obtain ⟨M,hM,k0,k4⟩:=Le (fu:=10100) (n:=m)
  rw [hN,ob]
  obtain ⟨e1,o1,e2,o2,t1,t2,pe,po,hE,hO,he⟩:=OQ hs (Nat.le_refl 10100) (f:=0) (args:=x) h0 (show N≤N+M by omega) (by omega)
  rw [t1,ob,pl,ob,hM,ob,lV (by omega) (by omega),t2,ob,pl]
  have q1:=QW pe 30
  have l1:(e1.take 30).length≤(e2.take 30).length:=by rw [← q1];exact List.length_take_le' _ _
  have l30:=List.length_take_le 30 e1
  have l2:=po.length_le
  rw [if_neg (by omega)]
  refine .bd (.sl (by omega)) fun r hr=>?_
  have er:r=e1.take 30:=by rw [hr,Int.toNat_zero,List.drop_zero,Int.sub_zero,Int.toNat_natCast,q1]
  rw [er,ZV (l:=e1.take 30) (by decide) (by omega) (by omega) (fun e he'=>(he e (List.mem_of_mem_take he')).sz hs.vn),ob,if_neg (by decide),if_neg (by omega)]
  refine .bd (.sl (by omega)) fun r hr=>?_
  have er:r=o1.a:=by
   rw [hr,Int.toNat_zero,List.drop_zero,Int.sub_zero,Int.toNat_natCast]
   obtain ⟨t,ht⟩:=po
   rw [← ht,List.take_left]
  rw [er,Po (by omega) (by omega),ob,if_neg (by decide)]
  refine .ite (fun _=>.mk rfl) fun c=>?_
  obtain rfl:=hE.resolve_left c
  rw [Xl (by omega) (by omega),ob,if_pos rfl,ob]
  exact .mk rfl
 obtain ⟨v,h1,rfl⟩:=h
 exact h1
end Go.Proofs.Ytfglbdkfnphjgaa
set_option linter.unusedVariables false
namespace Go.Proofs.Ytfglbdkfnphjgaa
open Go.ChangeShapes Go.WideShapes Go.ChangeAt Go.RowKit Go.Fw Go.Joins
theorem Try.own:ownKnob Try.prog.godebug=none:=by kernel_rfl
theorem Try.laidOut:laidOutB Try.prog=true:=by kernel_rfl
theorem QM {w:World} {a:Addr} {v:Value} (h:w.cell? a=some v):∃ b o,a=⟨b,o,none⟩∧b < w.heap.size:=by
 have h1:=World.cell?_spot h
 obtain ⟨b,o,s⟩:=a
 simp only at h1
 subst h1
 exact ⟨b,o,rfl,World.block_lt_of_cell? w _ h⟩
theorem open_list {H:Type} {enc:TypeId × Value→H} {w:World} {base:Nat} {spare:Nat→Bool} {held:Bool} {fuel:Nat} {cs:List Value} {x:DataW H × List MemPlace} (h:DataW.trod enc Try.prog w base spare held fuel 22 cs=some x) :
   ∃ A c zs,cs=[.slice A zs.length c]∧kN (α:=Int) (fun _=>True) w A c zs:=by
 rcases open_ints Try.underlying22 Try.underlying3 (by kernel_rfl) h with ⟨rfl,hx⟩|⟨a,len,cap,zs,rfl,hb,hl,hm,hz,hx,hcell,hwz⟩
 · exact ⟨none,0,[],rfl,kN.nil⟩
 · have hlz:len≤zs.length:=by rw [hz];split <;> omega
   have hlt:(zs.take len).length=len:=by rw [List.length_take];omega
   refine ⟨some a,cap,zs.take len,by rw [hlt],by omega,hm,fun h0=>?_⟩
   have h1:=hcell 0 (by omega)
   rw [Addr.add_zero'] at h1
   obtain ⟨b,o,rfl,hbb⟩:=QM h1
   refine ⟨rfl,trivial,hbb,fun i z hi=>⟨[.int .i64 z],?_,rfl⟩⟩
   rw [List.getElem?_take] at hi
   split at hi
   · rename_i hj
     have h2:=hcell i (by omega)
     rw [Addr.add_lit] at h2
     intro k v hk
     obtain _ | k:=k
     · obtain rfl:Value.int .i64 z=v:=Option.some.inj hk
       have hd:zs.getD i 0=z:=by rw [List.getD_eq_getElem?_getD,hi];rfl
       rw [hd] at h2
       exact (by simpa [Rp.sz,nK,oV] using h2)
     · cases hk
   · cases hi
theorem Oa {w:World} {A B:Option Addr} {c d:Nat} {l m:List Int} (h:kN (fun _=>True) w A c l) (k:kN (fun _=>True) w B d m):Pre w (fun _=>True) [] [.l A c l,.l B d m]:=⟨fun it hi=>(by cases hi),fun it hi=>(by cases hi),List.Pairwise.nil,fun q hd=>by
 simp only [List.mem_cons,List.not_mem_nil,or_false] at hd
 rcases hd with rfl | rfl
 · exact h
 · exact k⟩
end Go.Proofs.Ytfglbdkfnphjgaa
set_option linter.unusedVariables false
namespace Go.Proofs.Ytfglbdkfnphjgaa
open Go.ChangeShapes Go.WideShapes Go.ChangeAt Go.RowKit Go.Fw Go.Joins
theorem DN (w:World) {A0:Option Addr} {c0:Nat} {x0:List Int} (h0:kN (fun _=>True) w A0 c0 x0) {A1:Option Addr} {c1:Nat} {x1:List Int} (h1:kN (fun _=>True) w A1 c1 x1) {x2:Int} {x3:Int}:Calls Try.prog 4 #[.slice A0 x0.length c0,.slice A1 x1.length c1,Vi x2,Vi x3] w (qw fun v w'=>v=.bool true∧Ext w w'):=
 (Cz 10100 (Oa h0 h1) (Mi x0 x1 x2 x3)).mono fun e w' he=>by
  obtain ⟨v,rfl,hv,hb⟩:=he
  exact ⟨v,rfl,hv,hb.ex⟩
set_option maxRecDepth 100000 in
theorem Cj (os:Os) (started:os.Started) (H:Type) (enc:TypeId × Value→H) :
  ReturnsInHanded {} Try.checked os 4 .any (Rows.interpStepsSpec.pre6 enc Try.prog Try.f4 Rows.interpStepsRow.domain false) (Rows.interpStepsSpec.post enc Try.prog Try.f4 false true false false):=by
 refine returnsInHanded_of_change (C:=Try.checked) Try.own started (by kernel_rfl) Try.func4
  (ChangeSpec.witness6 (enc:=enc) (C:=Try.checked) false ⟨#[],#[.slice none 0 0,.slice none 0 0,.int .i64 0,.int .i64 0],[]⟩ 8 (by kernel_rfl) (by kernel_rfl) (by kernel_rfl) (by kernel_rfl)) ?_
 intro W base args ds gs before hval0 hW hcnd _
 have hval:∀ (j:Nat) t v,Try.f4.params[j]?=some t→args[j]?=some v→Value.okWide Try.prog W .any base t v:=hval0
 have hW':=hW
 obtain ⟨p,q,hA0,hV,rfl,hfz,hnd⟩:=hW
 have hA:DataW.TrodAll enc Try.prog W 0 (fun _=>true) true Try.f4.params.toList args.toList ds p:=hA0
 rw [Try.params4] at hA hval
 obtain ⟨v0,vs0,d0,ds0,p0,q0,hargs,rfl,rfl,h0,r0⟩:=trodAll_cons hA
 obtain ⟨v1,vs1,d1,ds1,p1,q1,rfl,rfl,rfl,h1,r1⟩:=trodAll_cons r0
 obtain ⟨v2,vs2,d2,ds2,p2,q2,rfl,rfl,rfl,h2,r2⟩:=trodAll_cons r1
 obtain ⟨v3,vs3,d3,ds3,p3,q3,rfl,rfl,rfl,h3,r3⟩:=trodAll_cons r2
 obtain ⟨rfl,rfl,rfl⟩:=trodAll_nil r3
 obtain rfl:args=#[v0,v1,v2,v3]:=by cases args;simp_all
 obtain ⟨rfl,rfl⟩:=trodVars_none hV
 have k0:=h0
 have lt0:∀ x ∈ p0,x.block < W.heap.size:=by obtain ⟨m,hm⟩:=k0;exact DataW.trod_lt m _ _ _ hm
 have k1:=h1
 have lt1:∀ x ∈ p1,x.block < W.heap.size:=by obtain ⟨m,hm⟩:=k1;exact DataW.trod_lt m _ _ _ hm
 have k2:=h2
 have lt2:∀ x ∈ p2,x.block < W.heap.size:=by obtain ⟨m,hm⟩:=k2;exact DataW.trod_lt m _ _ _ hm
 have k3:=h3
 have lt3:∀ x ∈ p3,x.block < W.heap.size:=by obtain ⟨m,hm⟩:=k3;exact DataW.trod_lt m _ _ _ hm
 obtain ⟨a0,n0,c0,rfl⟩:=okWide_slice Try.underlying22 (hval 0 22 v0 rfl rfl)
 obtain ⟨f0,hf0⟩:=h0
 obtain ⟨A0,e0,l0,hcs0,hl0⟩:=open_list hf0
 simp [Value.cells] at hcs0
 obtain ⟨rfl,rfl,rfl⟩:=hcs0
 obtain ⟨a1,n1,c1,rfl⟩:=okWide_slice Try.underlying22 (hval 1 22 v1 rfl rfl)
 obtain ⟨f1,hf1⟩:=h1
 obtain ⟨A1,e1,l1,hcs1,hl1⟩:=open_list hf1
 simp [Value.cells] at hcs1
 obtain ⟨rfl,rfl,rfl⟩:=hcs1
 obtain ⟨x2,rfl⟩:=okWide_int Try.underlying3 (hval 2 3 v2 rfl rfl)
 obtain ⟨x3,rfl⟩:=okWide_int Try.underlying3 (hval 3 3 v3 rfl rfl)
 clear hA0 hval0
 refine (DN W hl0 hl1).mono fun e W' he=>?_
 obtain ⟨v,rfl,rfl,bel⟩:=he
 exact ⟨_,rfl,_,_,_,[],_,[],hW',trodAll_mk1 (shut_bool Try.underlying4 _),(trodAll_cons_mk (Below.trod Try.laidOut (by kernel_rfl) (of_decide_eq_true (by kernel_rfl)) k0 bel lt0) (trodAll_cons_mk (Below.trod Try.laidOut (by kernel_rfl) (of_decide_eq_true (by kernel_rfl)) k1 bel lt1) (trodAll_cons_mk (Below.trod Try.laidOut (by kernel_rfl) (of_decide_eq_true (by kernel_rfl)) k2 bel lt2) (trodAll_cons_mk (Below.trod Try.laidOut (by kernel_rfl) (of_decide_eq_true (by kernel_rfl)) k3 bel lt3) trodAll_mk0)))),rfl,Below.frame bel _,fun h=>by cases h⟩
theorem interpSteps_holds:Rows.InterpStepsSaid:=
 OpenClaim.holds_of_wide 4 Try.f4 rfl rfl rfl rfl rfl rfl rfl ⟨rfl,rfl,rfl,rfl,rfl⟩ rfl rfl rfl rfl rfl (by kernel_rfl) Try.func4 (by kernel_rfl)
  (of_decide_eq_true (by kernel_rfl)) (by unfold Func.isWrapper;first | (rw [if_pos (by decide +kernel)];kernel_rfl)|(rw [if_neg (by decide +kernel)];exact ⟨rfl,rfl⟩))
  (fun os started H enc _=>Cj os started H enc)
end Go.Proofs.Ytfglbdkfnphjgaa
