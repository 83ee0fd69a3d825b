/- Contracts, printed by gen3.py. -/
import Derived.Test.YtfglbdkfnphjgaaZ5
import Derived.Test.YtfglbdkfnphjgaaLa
set_option linter.unusedVariables false
set_option maxHeartbeats 12800000
set_option linter.unusedSimpArgs false
set_option maxRecDepth 4000
namespace Go.Proofs.Ytfglbdkfnphjgaa
open Go.RowKit Go.Fw
noncomputable section
def LM (m:gP→Int→Option (gP)):Prop:=∀ {h:World} {j:Nat→Prop} {d:gP} {i:Int} {f:Nat} {a:Option Addr} {b:Nat} {c:gP},Pre h j [.box f 102 #[Z a d.l b,V d.a,V d.c,V d.e]] [.l a b d.l]→m d i=some c→
 Calls Try.prog 68 #[Pt f,V i] h (qW fun v w=>v=.tuple #[]∧Bx h w j (lT [.box f 102 #[Z a d.l b,V d.a,V d.c,V d.e]]) [.box f 102 #[Z a c.l b,V c.a,V c.c,V c.e]] [.l a b c.l])
def oV (fu:Nat)(a:gP) (b:Int):Option (gP):=
 if a.e=0 then
  (ix a.l a.a).bind fun c=>
  some (⟨a.l,a.a,c.f,b⟩:gP)
 else
  some a
theorem q8 (fu:Nat):LM (oV fu):=by
 intro A F j u t d f z x o
 unfold oV at o
 have b:=x.bx
 clear x
 generalize B:lT _=G at b ⊢
 refine cf Try.func68 r (lK [(0,Pt t),(1,V u)] ⟨r,r,y⟩ fun H=>q (g (s (mp r) (s (xn r) (s (qY r) (s (BM r (b.bk 0 r) r) (s (kD r r) (n ?_))))))))
 rcases iv o with ⟨v,o⟩|⟨v,o⟩
 ·refine jN (bt v) (Kr b [] [0] [0] [0] [16,19] (by kernel_rfl) ?_)
  replace b:=b.drew
  have a:=(b.arr [] r)
  have c:=b
  refine pL 0 r (mp r) a c (pL 1 r (mp r) a c (pL 2 r (mi r) a c (pL 3 r (mp r) a c (pL 4 r (xn r) a c (pL 5 r (yV r) a c (tS 1 6 r (fun _ hS=>OL r (hS.bk 0 r) r) (nu a c) (pL 7 r (mp r) a c (pL 8 r (xn r) a c (pL 9 r (l7 r) a c (tS 1 10 r (fun _ hS=>l3 r (hS.bk 0 r) r) (nu a c) ?_))))))))))
  obtain ⟨p,m,o⟩:=bs o
  obtain ⟨C,w,m⟩:=kJ m
  refine pL 11 r (kW Cr pQ r r w (b.dl 0 r) m) a c (pL 12 r (Jy r) a c (tU 13 r (fun _ hS=>jT EC r r ((uy (ds:=[V p.c,V p.f,T p.a,V p.d]) (hS.dl 0 r) m (fun _ h=>h)) 1 _ r)) (nu a c) (pL 14 r (xn r) a c (pL 15 r (qY r) a c (hO 16 (os r r (t_n b 0 [V u] r Mi r r) fun D b=>?_))))))
  have a:=(b.arr [] r)
  refine ⟨(sy 16 a),(tP 17 r (fun _=>xn r) (sy 16 a) (tP 18 r (fun _=>PW r) (sy 16 a) (hO 19 (os r r (t_n b 0 [V p.f] r nO r r) fun E b=>?_))))⟩
  have a:=(b.arr [] r)
  refine ⟨(sy 16 a),(hD ?_)⟩
  obtain rfl:=sm o
  exact ze (P:=Try.prog) (fn:=Try.f68) r ⟨r,b⟩
 refine jK (bf v) (wk ?_)
 obtain rfl:=sm o
 exact ze (P:=Try.prog) (fn:=Try.f68) r ⟨r,b⟩
def N7 (m:gP→Int→BA→Option (Bool)):Prop:=∀ {f:World} {k:Nat→Prop} {c:gP} {h:Int} {i:BA} {d:Nat} {a:Option Addr} {b:Nat} {j:Bool},Pre f k [.box d 102 #[Z a c.l b,V c.a,V c.c,V c.e]] [.l a b c.l]→m c h i=some j→
 Calls Try.prog 62 #[Pt d,V h,T i] f (qW fun v w=>v=.bool j∧Bx f w k (lT [.box d 102 #[Z a c.l b,V c.a,V c.c,V c.e]]) [.box d 102 #[Z a c.l b,V c.a,V c.c,V c.e]] [.l a b c.l])
def mE (fu:Nat)(a:gP) (c:Int)(d:BA):Option (Bool):=
 if (a.l.length:Int)≤(wr (a.a+c)) then
  some false
 else
  (ix a.l (wr (a.a+c))).bind fun b=>
  if b.c=3 then
   some (decide (b.a=d))
  else
   if b.c=4 then
    some (decide (b.a=d))
   else
    some false
theorem mY (fu:Nat):N7 (mE fu):=by
 intro B J p z A o j m C x c
 unfold mE at c
 have b:=x.bx
 clear x
 generalize D:lT _=G at b ⊢
 refine cf Try.func62 r (lK [(0,Pt o),(1,V z),(2,T A)] ⟨r,r,r,y⟩ fun K=>q (g (s (kC r) (n (q (q (pX b [0] [] [] (by kernel_rfl) ?_)))))))
 replace b:=b.drew
 have a:=(b.dp [])
 refine pF 0 r (mp r) a (pF 1 r (xn r) a (pF 2 r (l7 r) a (uF 3 r (fun hS=>l3 r (hS.bk 0 r) r) a (pF 4 r (mi r) a (pF 5 r (kE r r) a (pF 6 r (mp r) a (pF 7 r (xn r) a (pF 8 r (yV r) a (uF 9 r (fun hS=>OL r (hS.bk 0 r) r) a (pF 10 r (lX Cr r) a (pF 11 r (Bq r r) a (hD ?_))))))))))))
 rcases iv c with ⟨t,c⟩|⟨t,c⟩
 ·refine jN (bt t) (q (g (s (kC r) (n (kT ?_)))))
  obtain rfl:=sm c
  exact jI r (lq r) ⟨r,b⟩
 refine jK (bf t) (wk (q (pX b [0] [0] [] (by kernel_rfl) ?_)))
 replace b:=b.drew
 have a:=b
 refine pF 0 r (mp r) a (pF 1 r (xn r) a (pF 2 r (yV r) a (uF 3 r (fun hS=>OL r (hS.bk 0 r) r) a (pF 4 r (mp r) a (pF 5 r (xn r) a (pF 6 r (l7 r) a (uF 7 r (fun hS=>l3 r (hS.bk 0 r) r) a (pF 8 r (mi r) a (pF 9 r (kE r r) a ?_)))))))))
 obtain ⟨d,f,c⟩:=bs c
 obtain ⟨E,u,f⟩:=kJ f
 refine pF 10 r (kW Cr pQ r r u (b.dl 0 r) f) a (uF 11 r (fun hS=>XQ [V d.c,V d.f,T d.a,V d.d] BU pQ r (hS.dl 0 r) f) a (hO 12 (oo r r (nM b (jV pQ)) ?_)))
 rintro _ F ⟨H,rfl,b⟩
 have a:=(b.arr [1] r)
 refine ⟨(sF a),(hO 13 (os r r (nX b 0 [V d.c,V d.f,T d.a,V d.d] r pQ r r) fun I b=>?_))⟩
 have a:=(b.arr [1] r)
 refine ⟨(sF a),(hD (q (g (s (L8 r) (s (l3 r (b.bk 0 r) r) (s (kD r r) (s (kL r) ?_)))))))⟩
 rcases iv c with ⟨v,c⟩|⟨v,c⟩
 ·rw [decide_eq_true v]
  refine jC r (jC r (jC r (s (kr r r) (s (kL r) (kg r (s (JR r) (kg r (s (l9 r (b.bk 0 r) r) (kg r (s (kY r) (kg r (s (rR r r) (s (kr r r) (s (kC r) (n (kT ?_))))))))))))))))
  obtain rfl:=sm c
  exact jI r (lq r) ⟨r,(b.arr [1] r)⟩
 rw [decide_eq_false v]
 refine kg r (s (L8 r) (kg r (s (l3 r (b.bk 0 r) r) (kg r (s (kD r r) (s (jY r r) (s (kL r) ?_)))))))
 rcases iv c with ⟨w,c⟩|⟨w,c⟩
 ·rw [decide_eq_true w]
  refine kg r (s (JR r) (kg r (s (l9 r (b.bk 0 r) r) (kg r (s (kY r) (kg r (s (rR r r) (s (kr r r) (s (kC r) (n (kT ?_)))))))))))
  obtain rfl:=sm c
  exact jI r (lq r) ⟨r,(b.arr [1] r)⟩
 rw [decide_eq_false w]
 refine jC r (jC r (jC r (jC r (s (jY r r) (s (kC r) (n (kT ?_)))))))
 obtain rfl:=sm c
 exact jI r (lq r) ⟨r,(b.arr [1] r)⟩
def KH (m:gP→Int→Int→Option (Bool)):Prop:=∀ {f:World} {k:Nat→Prop} {c:gP} {h:Int} {i:Int} {d:Nat} {a:Option Addr} {b:Nat} {j:Bool},Pre f k [.box d 102 #[Z a c.l b,V c.a,V c.c,V c.e]] [.l a b c.l]→m c h i=some j→
 Calls Try.prog 67 #[Pt d,V h,V i] f (qW fun v w=>v=.bool j∧Bx f w k (lT [.box d 102 #[Z a c.l b,V c.a,V c.c,V c.e]]) [.box d 102 #[Z a c.l b,V c.a,V c.c,V c.e]] [.l a b c.l])
def oU (fu:Nat)(a:gP) (b:Int)(c:Int):Option (Bool):=
 if (wr (a.a+b)) < (a.l.length:Int) then
  (ix a.l (wr (a.a+b))).bind fun d=>
  some (decide (d.c=c))
 else
  some false
theorem rH (fu:Nat):KH (oU fu):=by
 intro z D o w x m f j A v d
 unfold oU at d
 have b:=v.bx
 clear v
 generalize B:lT _=G at b ⊢
 refine cf Try.func67 r (lK [(0,Pt m),(1,V w),(2,V x)] ⟨r,r,r,y⟩ fun E=>q (g (s (kC r) (n (q (pX b [0] [0] [] (by kernel_rfl) ?_))))))
 replace b:=b.drew
 have a:=b
 refine pF 0 r (mp r) a (pF 1 r (xn r) a (pF 2 r (l7 r) a (uF 3 r (fun hS=>l3 r (hS.bk 0 r) r) a (pF 4 r (mi r) a (pF 5 r (kE r r) a (pF 6 r (mp r) a (pF 7 r (xn r) a (pF 8 r (yV r) a (uF 9 r (fun hS=>OL r (hS.bk 0 r) r) a (pF 10 r (lX Cr r) a (pF 11 r (qo r r) a (pF 12 r (kL r) a ?_))))))))))))
 rcases iv d with ⟨t,d⟩|⟨t,d⟩
 ·rw [decide_eq_true t]
  have a:=b
  refine pF 13 r (mp r) a (pF 14 r (xn r) a (pF 15 r (yV r) a (uF 16 r (fun hS=>OL r (hS.bk 0 r) r) a (pF 17 r (mp r) a (pF 18 r (xn r) a (pF 19 r (l7 r) a (uF 20 r (fun hS=>l3 r (hS.bk 0 r) r) a (pF 21 r (mi r) a (pF 22 r (kE r r) a ?_)))))))))
  obtain ⟨p,c,d⟩:=bs d
  obtain ⟨C,u,c⟩:=kJ c
  refine pF 23 r (kW Cr pQ r r u (b.dl 0 r) c) a (pF 24 r (L8 r) a (tU 25 r (fun _ hS=>jT EC r r ((uy (ds:=[V p.c,V p.f,T p.a,V p.d]) (hS.dl 0 r) c (fun _ h=>h)) 0 _ r)) (sF a) (pF 26 r (mi r) a (pF 27 r (kD r r) a (pF 28 r (kr r r) a (pF 29 r (kC r) a (hD (kT ?_))))))))
  obtain rfl:=sm d
  exact jI r (lq r) ⟨r,b⟩
 rw [decide_eq_false t]
 have a:=b
 refine nR 13 r (by kernel_rfl) r (sF a) (nR 14 r (by kernel_rfl) r (sF a) (nR 15 r (by kernel_rfl) r (sF a) (nR 16 r (by kernel_rfl) r (sF a) (nR 17 r (by kernel_rfl) r (sF a) (nR 18 r (by kernel_rfl) r (sF a) (nR 19 r (by kernel_rfl) r (sF a) (nR 20 r (by kernel_rfl) r (sF a) (nR 21 r (by kernel_rfl) r (sF a) (nR 22 r (by kernel_rfl) r (sF a) (nR 23 r (by kernel_rfl) r (sF a) (nR 24 r (by kernel_rfl) r (sF a) (nR 25 r (by kernel_rfl) r (sF a) (nR 26 r (by kernel_rfl) r (sF a) (nR 27 r (by kernel_rfl) r (sF a) (pF 28 r (jY r r) a (pF 29 r (kC r) a (hD (kT ?_))))))))))))))))))
 obtain rfl:=sm d
 exact jI r (lq r) ⟨r,b⟩
def Kw (m:gP→BA→Option (gP)):Prop:=∀ {h:World} {j:Nat→Prop} {d:gP} {i:BA} {f:Nat} {a:Option Addr} {b:Nat} {c:gP},Pre h j [.box f 102 #[Z a d.l b,V d.a,V d.c,V d.e]] [.l a b d.l]→m d i=some c→
 Calls Try.prog 64 #[Pt f,T i] h (qW fun v w=>v=.tuple #[]∧Bx h w j (lT [.box f 102 #[Z a d.l b,V d.a,V d.c,V d.e]]) [.box f 102 #[Z a c.l b,V c.a,V c.c,V c.e]] [.l a b c.l])
def lJ (fu:Nat)(a:gP) (d:BA):Option (gP):=
 if a.e≠0 then
  some a
 else
  (mE fu a 0 d).bind fun b=>
  if (!b)=true then
   (oV fu a 7).bind fun c=>
   some c
  else
   some (⟨a.l,(wr (a.a+1)),a.c,a.e⟩:gP)
theorem lU (fu:Nat):Kw (lJ fu):=by
 intro A F f v h c d w p b
 unfold lJ at b
 have a:=p.bx
 clear p
 generalize B:lT _=G at a ⊢
 refine cf Try.func64 r (lK [(0,Pt h),(1,T v)] ⟨r,r,y⟩ fun H=>q (q (g (s (mp r) (s (xn r) (s (qY r) (s (BM r (a.bk 0 r) r) (s (rY r r) (n ?_)))))))))
 rcases iv b with ⟨m,b⟩|⟨m,b⟩
 ·refine jN (bt m) (kT ?_)
  obtain rfl:=sm b
  exact ze (P:=Try.prog) (fn:=Try.f64) r ⟨r,a⟩
 refine jK (bf m) (wk (q (q (g (s (mp r) (s (kY r) ?_))))))
 obtain ⟨t,x,b⟩:=bs b
 refine sc (ec vv r) (mY fu (a.pr [0] [] [0] r) x) ?_
 rintro _ C ⟨rfl,o⟩
 replace a:=a.cn [0] [] o
 refine s (Al r) (n ?_)
 rcases iv b with ⟨j,b⟩|⟨j,b⟩
 ·refine jN (cb j) (q (g (s (mp r) ?_)))
  obtain ⟨u,z,b⟩:=bs b
  refine sc (ec CP r) (q8 fu (a.pr [0] [] [1] r) z) ?_
  rintro _ D ⟨rfl,o⟩
  replace a:=a.cn [0] [] o
  refine n (kT ?_)
  obtain rfl:=sm b
  exact ze (P:=Try.prog) (fn:=Try.f64) r ⟨r,(a.dp [0])⟩
 replace j:=nt j
 refine jK (cb j) (wk (g (s (mp r) (s (xn r) (s (l7 r) (s (l3 r (a.bk 0 r) r) (s (kE r r) (s (xn r) (s (l7 r) (lg (t_n a 0 [V (wr (f.a+1))] r nO r r) fun E a=>n ?_))))))))))
 obtain rfl:=sm b
 exact ze (P:=Try.prog) (fn:=Try.f64) r ⟨r,(a.dp [1])⟩
def Kg (m:gP→Option (BA × gP)):Prop:=∀ {h:World} {j:Nat→Prop} {d:gP} {f:Nat} {a:Option Addr} {b:Nat} {R:BA × gP},Pre h j [.box f 102 #[Z a d.l b,V d.a,V d.c,V d.e]] [.l a b d.l]→m d=some R→
 Calls Try.prog 63 #[Pt f] h (qW fun v w=>jy R fun i c=>v=T i∧Bx h w j (lT [.box f 102 #[Z a d.l b,V d.a,V d.c,V d.e]]) [.box f 102 #[Z a c.l b,V c.a,V c.c,V c.e]] [.l a b c.l])
def ow (fu:Nat)(a:gP):Option (BA × gP):=
 if a.e≠0 then
  some ((⟨#[]⟩:BA),a)
 else
  (oU fu a 0 1).bind fun b=>
  if (!b)=true then
   (oV fu a 7).bind fun c=>
   some ((⟨#[]⟩:BA),c)
  else
   (ix a.l (wr ((wr (a.a+1)) - 1))).bind fun d=>
   some (d.a,(⟨a.l,(wr (a.a+1)),a.c,a.e⟩:gP))
theorem qB (fu:Nat):Kg (ow fu):=by
 intro D K j o d f R x b
 unfold ow at b
 have a:=x.bx
 clear x
 generalize E:lT _=G at a ⊢
 refine cf Try.func63 r (lK [(0,Pt o)] ⟨r,y⟩ fun L=>q (g (s (mF r) (n (q (q (g (s (mp r) (s (xn r) (s (qY r) (s (BM r (a.bk 0 r) r) (s (rY r r) (n ?_)))))))))))))
 rcases iv b with ⟨u,b⟩|⟨u,b⟩
 ·refine jN (bt u) (q (g (s (mF r) (n (kT ?_)))))
  obtain rfl:=sm b
  exact jI r (lq r) (mM (⟨r,a⟩))
 refine jK (bf u) (wk (q (q (g (s (mp r) ?_)))))
 obtain ⟨z,B,b⟩:=bs b
 refine sc (ec Dk r) (rH fu (a.pr [0] [] [0] r) B) ?_
 rintro _ F ⟨rfl,v⟩
 replace a:=a.cn [0] [] v
 refine s (Al r) (n ?_)
 rcases iv b with ⟨p,b⟩|⟨p,b⟩
 ·refine jN (cb p) (q (g (s (mp r) ?_)))
  obtain ⟨A,C,b⟩:=bs b
  refine sc (ec CP r) (q8 fu (a.pr [0] [] [1] r) C) ?_
  rintro _ H ⟨rfl,v⟩
  replace a:=a.cn [0] [] v
  refine n (q (g (s (mF r) (n (kT ?_)))))
  obtain rfl:=sm b
  exact jI r (lq r) (mM (⟨r,(a.dp [0])⟩))
 replace p:=nt p
 refine jK (cb p) (wk (q (g (s (mp r) (s (xn r) (s (l7 r) (s (l3 r (a.bk 0 r) r) (s (kE r r) (s (xn r) (s (l7 r) (lg (t_n a 0 [V (wr (j.a+1))] r nO r r) fun I a=>n (q (pX a [0] [1] [] (by kernel_rfl) ?_)))))))))))))
 replace a:=a.drew
 have c:=(a.dp [1])
 refine pF 0 r (mp r) c (pF 1 r (xn r) c (pF 2 r (yV r) c (uF 3 r (fun hS=>OL r (hS.bk 0 r) r) c (pF 4 r (mp r) c (pF 5 r (xn r) c (pF 6 r (l7 r) c (uF 7 r (fun hS=>l3 r (hS.bk 0 r) r) c (pF 8 r (vW r r) c ?_))))))))
 obtain ⟨t,m,b⟩:=bs b
 obtain ⟨J,w,m⟩:=kJ m
 refine pF 9 r (kW Cr pQ r r w (a.dl 1 r) m) c (pF 10 r (JR r) c (tU 11 r (fun _ hS=>jT uq r r ((uy (ds:=[V t.c,V t.f,T t.a,V t.d]) (hS.dl 0 r) m (fun _ h=>h)) 2 _ r)) (sF c) (pF 12 r (mF r) c (hD (kT ?_)))))
 obtain rfl:=sm b
 exact jI r (lq r) (mM (⟨r,(a.dp [1])⟩))
def JU (m:gP→Option ((List BA) × gP)):Prop:=∀ {k:World} {p:Nat→Prop} {i:gP} {j:Nat} {a:Option Addr} {b:Nat} {R:(List BA) × gP},Pre k p [.box j 102 #[Z a i.l b,V i.a,V i.c,V i.e]] [.l a b i.l]→m i=some R→
 Calls Try.prog 65 #[Pt j] k (qW fun v w=>jy R fun o c=>∃ (d:OA)(f:Nat)(h:LV),v=Z d o f∧Bx k w p (lT [.box j 102 #[Z a i.l b,V i.a,V i.c,V i.e]]) [O k.heap.size d f 9 BA h,.box j 102 #[Z a c.l b,V c.a,V c.c,V c.e]] [.els h o,.l a b c.l])
def qG (fu:Nat):Nat→(List BA)→(List jX)→Int→Int→Int→Option (Ld (List BA × List jX × Int × Int × Int) ((List BA) × gP))
 | 0,_,_,_,_,_=>none
 | o+1,h,b,c,d,a=>
 if a=0 then
  (mE fu (⟨b,c,d,a⟩:gP) 0 (⟨#[44]⟩:BA)).bind fun i=>
  if i=true then
   (lJ fu (⟨b,c,d,a⟩:gP) (⟨#[44]⟩:BA)).bind fun j=>
   (ow fu j).bind fun p=>
   jy p fun k f=>
   (app h ([k]:List BA)).bind fun m=>
   qG fu o m f.l f.a f.c f.e
  else
   some (.go (h,b,c,d,a))
 else
  some (.go (h,b,c,d,a))
def vR (fu:Nat)(j:gP):Option ((List BA) × gP):=
 (ow fu j).bind fun k=>
 jy k fun b a=>
 (qG fu fu ([b]:List BA) a.l a.a a.c a.e).bind fun k=>k.el (fun k=>
 jy k fun c k=>jy k fun d k=>jy k fun f k=>jy k fun h i=>
 some (c,(⟨d,f,h,i⟩:gP))
 ) (fun o=>some o)
theorem Dp (fu:Nat):JU (vR fu):=by
 intro J aj K C u v R Y x
 unfold vR at x
 have m:=Y.bx
 clear Y
 generalize hG:lT _=G at m ⊢
 refine cf Try.func65 r (lK [(0,Pt C)] ⟨r,y⟩ fun ak=>q (g (s (nk r) (n (q (g (s (mp r) ?_)))))))
 obtain ⟨z,A,h1,x⟩:=lZ x
 refine sc (ec Cc r) (qB fu (m.pr [0] [] [0] r) h1) ?_
 rintro _ w1 ⟨rfl,E⟩
 replace m:=m.cn [0] [] E
 refine nU (jP m [[T z]] ([z]:List BA) (zK r) r r (by decide) ⟨r,y⟩) ?_
 rintro _ w2 ⟨b2,rfl,m⟩
 refine s (nk r) (n (q ?_))
 obtain ⟨Y3,a,x⟩:=bs x
 refine oq (fun f w=>∃ (h:List BA) (b:OA)(c:Nat)(d:LV)(j:List jX) (o:Int)(p:Int)(t:Int),Has f [(3,Z b h c)]∧Bx J w aj G [O J.heap.size b c 9 BA d,.box C 102 #[Z u j v,V o,V p,V t]] [.l u v j,.els d h]∧Ld.go (h,j,o,p,t)=Y3) (fun J3 F=>?_) ?_
 ·refine oM (kM (fun al f w=>∃ (h:List BA) (b:OA)(c:Nat)(d:LV)(j:List jX) (o:Int)(p:Int)(t:Int),Has f [(0,Pt C),(3,Z b h c)]∧Bx J w aj G [O J.heap.size b c 9 BA d,.box C 102 #[Z u j v,V o,V p,V t]] [.l u v j,.els d h]∧qG fu al h j o p t=some Y3) fu ⟨([z]:List BA),(ad b2),1,[[T z]],A.l,A.a,A.c,A.e,⟨r,r,y⟩,(m.dp [1,0]),a⟩ ?_)
  clear m a
  rintro L f w ⟨h,b,c,d,j,o,p,t,hf,m,a⟩ K3 M
  obtain ⟨ak,rfl⟩:=iA _ _ hf
  clear hf
  cases L with
  | zero=>exact nn a
  | succ L=>
   rw [qG] at a
   refine q (q (g (s (mp r) (s (xn r) (s (qY r) (s (BM r (m.bk 1 r) r) (s (kD r r) (s (kL r) ?_))))))))
   rcases iv a with ⟨N,a⟩|⟨N,a⟩
   ·rw [decide_eq_true N]
    refine kg r (s (mp r) ?_)
    obtain ⟨a1,h5,a⟩:=bs a
    refine kg r (sc (ec vv r) (mY fu (m.pr [1] [0] [0] r) h5) ?_)
    rintro _ w5 ⟨rfl,E⟩
    replace m:=m.cn [1] [0] E
    refine s (kr r r) (n ?_)
    rcases iv a with ⟨H,a⟩|⟨H,a⟩
    ·refine jN (cb H) (wk (oM (q (g (s (mp r) ?_)))))
     obtain ⟨a2,h7,a⟩:=bs a
     refine sc (ec vV r) (lU fu (m.pr [0] [1] [1] r) h7) ?_
     rintro _ w7 ⟨rfl,E⟩
     replace m:=m.cn [0] [1] E
     refine n (g (s (nC r) (s (mp r) ?_)))
     obtain ⟨D,B,h8,a⟩:=lZ a
     refine sc (ec Cc r) (qB fu (m.pr [0] [1] [0] r) h8) ?_
     rintro _ w8 ⟨rfl,E⟩
     replace m:=m.cn [0] [1] E
     refine nU (jP m [[T D]] ([D]:List BA) (zK r) r r (by decide) ⟨r,y⟩) ?_
     rintro _ w9 ⟨b9,rfl,m⟩
     obtain ⟨Q,I,a⟩:=bs a
     refine nU (kP m 2 5 r r kQ oQ r (by decide) (by decide) (Nat.le_refl _) r r (m.zP 0 0 r r) I) ?_
     rintro _ a8 ⟨S,U,W,rfl,m⟩
     exact s (nk r) (n (M L _ _ (Nat.lt_succ_self _) ⟨Q,S,U,W,B.l,B.a,B.c,B.e,⟨r,r,y⟩,(m.ad [2,1] [1,5]),a⟩))
    replace H:=nt H
    exact jK (cb H) (tT (F _ _ ⟨h,b,c,d,j,o,p,t,⟨r,y⟩,(m.ad [1,0] [1,2]),sm a⟩))
   rw [decide_eq_false N]
   exact jC r (jC r (s (jY r r) (n (jK r (tT (F _ _ ⟨h,b,c,d,j,o,p,t,⟨r,y⟩,m,sm a⟩))))))
 clear m
 rintro f w ⟨h,b,c,d,j,o,p,t,hf,m,X⟩
 obtain ⟨ak,rfl⟩:=iA _ _ hf
 clear hf
 subst X
 replace x:=gi x
 replace x:=pi (mG x)
 refine q (g (s (nC r) (s (nk r) (n (kT ?_)))))
 obtain rfl:=sm x
 exact jI r (lq r) (mM (⟨b,c,d,r,(m.dp [1,0])⟩))
def G6 (m:gP→Option (Bool)):Prop:=∀ {f:World} {i:Nat→Prop} {c:gP} {d:Nat} {a:Option Addr} {b:Nat} {h:Bool},Pre f i [.box d 102 #[Z a c.l b,V c.a,V c.c,V c.e]] [.l a b c.l]→m c=some h→
 Calls Try.prog 136 #[Pt d] f (qW fun v w=>v=.bool h∧Bx f w i (lT [.box d 102 #[Z a c.l b,V c.a,V c.c,V c.e]]) [.box d 102 #[Z a c.l b,V c.a,V c.c,V c.e]] [.l a b c.l])
def wU (fu:Nat)(a:gP):Option (Bool):=
 (oU fu a 0 1).bind fun b=>
 if b=true then
  some true
 else
  (oU fu a 0 2).bind fun c=>
  if c=true then
   some true
  else
   (mE fu a 0 (⟨#[40]⟩:BA)).bind fun d=>
   if d=true then
    some true
   else
    (mE fu a 0 (⟨#[45]⟩:BA)).bind fun e=>
    if e=true then
     some true
    else
     (mE fu a 0 (⟨#[33]⟩:BA)).bind fun f=>
     some f
theorem GN (fu:Nat):G6 (wU fu):=by
 intro E N o h d f F p a
 unfold wU at a
 have b:=p.bx
 clear p
 generalize H:lT _=G at b ⊢
 refine cf Try.func136 r (lK [(0,Pt h)] ⟨r,y⟩ fun Q=>q (g (s (kC r) (n (q (g (s (mp r) ?_)))))))
 obtain ⟨t,z,a⟩:=bs a
 refine sc (ec Dk r) (rH fu (b.pr [0] [] [0] r) z) ?_
 rintro _ I ⟨rfl,c⟩
 replace b:=b.cn [0] [] c
 refine s (kL r) ?_
 rcases iv a with ⟨i,a⟩|⟨i,a⟩
 ·rw [i]
  refine jC r (jC r (s (kr r r) (s (kL r) (jC r (jC r (s (kr r r) (s (kL r) (jC r (jC r (s (kr r r) (s (kL r) (jC r (jC r (s (kr r r) (s (kC r) (n (kT ?_)))))))))))))))))
  obtain rfl:=sm a
  exact jI r (lq r) ⟨r,(b.dp [1])⟩
 replace i:=nt i
 rw [i]
 refine kg r (s (mp r) ?_)
 obtain ⟨u,A,a⟩:=bs a
 refine kg r (sc (ec Dk r) (rH fu (b.pr [0] [] [1] r) A) ?_)
 rintro _ J ⟨rfl,c⟩
 replace b:=b.cn [0] [] c
 refine s (jY r r) (s (kL r) ?_)
 rcases iv a with ⟨j,a⟩|⟨j,a⟩
 ·rw [j]
  refine jC r (jC r (s (kr r r) (s (kL r) (jC r (jC r (s (kr r r) (s (kL r) (jC r (jC r (s (kr r r) (s (kC r) (n (kT ?_)))))))))))))
  obtain rfl:=sm a
  exact jI r (lq r) ⟨r,(b.dp [2])⟩
 replace j:=nt j
 rw [j]
 refine kg r (s (mp r) ?_)
 obtain ⟨v,B,a⟩:=bs a
 refine kg r (sc (ec vv r) (mY fu (b.pr [0] [] [2] r) B) ?_)
 rintro _ K ⟨rfl,c⟩
 replace b:=b.cn [0] [] c
 refine s (jY r r) (s (kL r) ?_)
 rcases iv a with ⟨k,a⟩|⟨k,a⟩
 ·rw [k]
  refine jC r (jC r (s (kr r r) (s (kL r) (jC r (jC r (s (kr r r) (s (kC r) (n (kT ?_)))))))))
  obtain rfl:=sm a
  exact jI r (lq r) ⟨r,(b.dp [3])⟩
 replace k:=nt k
 rw [k]
 refine kg r (s (mp r) ?_)
 obtain ⟨w,C,a⟩:=bs a
 refine kg r (sc (ec vv r) (mY fu (b.pr [0] [] [3] r) C) ?_)
 rintro _ L ⟨rfl,c⟩
 replace b:=b.cn [0] [] c
 refine s (jY r r) (s (kL r) ?_)
 rcases iv a with ⟨m,a⟩|⟨m,a⟩
 ·rw [m]
  refine jC r (jC r (s (kr r r) (s (kC r) (n (kT ?_)))))
  obtain rfl:=sm a
  exact jI r (lq r) ⟨r,(b.dp [4])⟩
 replace m:=nt m
 rw [m]
 refine kg r (s (mp r) ?_)
 obtain ⟨x,D,a⟩:=bs a
 refine kg r (sc (ec vv r) (mY fu (b.pr [0] [] [4] r) D) ?_)
 rintro _ M ⟨rfl,c⟩
 replace b:=b.cn [0] [] c
 refine s (jY r r) (s (kC r) (n (kT ?_)))
 obtain rfl:=sm a
 exact jI r (lq r) ⟨r,(b.dp [5])⟩
def JW (m:gP→Option (Int × Int)):Prop:=∀ {f:World} {j:Nat→Prop} {c:gP} {d:Nat} {a:Option Addr} {b:Nat} {R:Int × Int},Pre f j [.box d 102 #[Z a c.l b,V c.a,V c.c,V c.e]] [.l a b c.l]→m c=some R→
 Calls Try.prog 125 #[Pt d] f (qW fun v w=>jy R fun h i=>v=.tuple #[V h,V i]∧Bx f w j (lT [.box d 102 #[Z a c.l b,V c.a,V c.c,V c.e]]) [.box d 102 #[Z a c.l b,V c.a,V c.c,V c.e]] [.l a b c.l])
def qN (fu:Nat)(c:gP):List BA→Nat→Option (Ld (Unit) (Int × Int))
 | [],_=>some (.go ())
 | d :: e,b=>
 (mE fu c 0 d).bind fun a=>
 if a=true then
  (ix ([3,3,4,4,4,2,2,2,1,1,1,1]:List Int) (b:Int)).bind fun f=>
  some (.out (f,(wr (6+(b:Int)))))
 else
  qN fu c e (b+1)
def yR (fu:Nat)(a:gP):Option (Int × Int):=
 (qN fu a ([(⟨#[43]⟩:BA),(⟨#[45]⟩:BA),(⟨#[42]⟩:BA),(⟨#[47]⟩:BA),(⟨#[37]⟩:BA),(⟨#[38]⟩:BA),(⟨#[124]⟩:BA),(⟨#[94]⟩:BA),(⟨#[60]⟩:BA),(⟨#[60,61]⟩:BA),(⟨#[61,61]⟩:BA),(⟨#[33,61]⟩:BA)]:List BA) 0).bind fun b=>b.el (fun _=>
 some (0,0)
 ) (fun o=>some o)
theorem Iy (fu:Nat):JW (yR fu):=by
 intro t a1 i j b c R E m
 unfold yR at m
 have d:=E.bx
 clear E
 generalize Q:lT _=G at d ⊢
 refine cf Try.func125 r (lK [(0,Pt j)] ⟨r,y⟩ fun a2=>q (g (s (xi r) (s (xi r) (n (q (g (nU (jP d [[T (⟨#[43]⟩:BA)],[T (⟨#[45]⟩:BA)],[T (⟨#[42]⟩:BA)],[T (⟨#[47]⟩:BA)],[T (⟨#[37]⟩:BA)],[T (⟨#[38]⟩:BA)],[T (⟨#[124]⟩:BA)],[T (⟨#[94]⟩:BA)],[T (⟨#[60]⟩:BA)],[T (⟨#[60,61]⟩:BA)],[T (⟨#[61,61]⟩:BA)],[T (⟨#[33,61]⟩:BA)]] ([(⟨#[43]⟩:BA),(⟨#[45]⟩:BA),(⟨#[42]⟩:BA),(⟨#[47]⟩:BA),(⟨#[37]⟩:BA),(⟨#[38]⟩:BA),(⟨#[124]⟩:BA),(⟨#[94]⟩:BA),(⟨#[60]⟩:BA),(⟨#[60,61]⟩:BA),(⟨#[61,61]⟩:BA),(⟨#[33,61]⟩:BA)]:List BA) (DJ r r r r r r r r r r r r) r r (by decide) ⟨r,⟨r,⟨r,⟨r,⟨r,⟨r,⟨r,⟨r,⟨r,⟨r,⟨r,⟨r,y⟩⟩⟩⟩⟩⟩⟩⟩⟩⟩⟩⟩) ?_))))))))
 rintro _ S ⟨x,rfl,d⟩
 refine s (nk r) (n (q (g (nU (jP d [[V 3],[V 3],[V 4],[V 4],[V 4],[V 2],[V 2],[V 2],[V 1],[V 1],[V 1],[V 1]] ([3,3,4,4,4,2,2,2,1,1,1,1]:List Int) (OC r r r r r r r r r r r r) r r (by decide) ⟨r,⟨r,⟨r,⟨r,⟨r,⟨r,⟨r,⟨r,⟨r,⟨r,⟨r,⟨r,y⟩⟩⟩⟩⟩⟩⟩⟩⟩⟩⟩⟩) ?_))))
 rintro _ U ⟨z,rfl,d⟩
 refine s (nk r) (n (q (q (g (s (nC r) (s (lX kQ r) (s (mi r) (n ?_))))))))
 have I:=(d.vw 1 1 r r).bd
 obtain ⟨F,a,m⟩:=bs m
 refine oq (fun f w=>Has f []∧Bx t w a1 G [O t.heap.size (ad z) 12 3 Int [[V 3],[V 3],[V 4],[V 4],[V 4],[V 2],[V 2],[V 2],[V 1],[V 1],[V 1],[V 1]],O t.heap.size (ad x) 12 9 BA [[T (⟨#[43]⟩:BA)],[T (⟨#[45]⟩:BA)],[T (⟨#[42]⟩:BA)],[T (⟨#[47]⟩:BA)],[T (⟨#[37]⟩:BA)],[T (⟨#[38]⟩:BA)],[T (⟨#[124]⟩:BA)],[T (⟨#[94]⟩:BA)],[T (⟨#[60]⟩:BA)],[T (⟨#[60,61]⟩:BA)],[T (⟨#[61,61]⟩:BA)],[T (⟨#[33,61]⟩:BA)]],.box j 102 #[Z b i.l c,V i.a,V i.c,V i.e]] [.els [[V 3],[V 3],[V 4],[V 4],[V 4],[V 2],[V 2],[V 2],[V 1],[V 1],[V 1],[V 1]] ([3,3,4,4,4,2,2,2,1,1,1,1]:List Int),.els [[T (⟨#[43]⟩:BA)],[T (⟨#[45]⟩:BA)],[T (⟨#[42]⟩:BA)],[T (⟨#[47]⟩:BA)],[T (⟨#[37]⟩:BA)],[T (⟨#[38]⟩:BA)],[T (⟨#[124]⟩:BA)],[T (⟨#[94]⟩:BA)],[T (⟨#[60]⟩:BA)],[T (⟨#[60,61]⟩:BA)],[T (⟨#[61,61]⟩:BA)],[T (⟨#[33,61]⟩:BA)]] ([(⟨#[43]⟩:BA),(⟨#[45]⟩:BA),(⟨#[42]⟩:BA),(⟨#[47]⟩:BA),(⟨#[37]⟩:BA),(⟨#[38]⟩:BA),(⟨#[124]⟩:BA),(⟨#[94]⟩:BA),(⟨#[60]⟩:BA),(⟨#[60,61]⟩:BA),(⟨#[61,61]⟩:BA),(⟨#[33,61]⟩:BA)]:List BA),.l b c i.l]∧Ld.go ()=F) (fun W A=>?_) ?_
 ·refine oM (kM (fun a3 f w=>∃ (k:Nat),a3=([(⟨#[43]⟩:BA),(⟨#[45]⟩:BA),(⟨#[42]⟩:BA),(⟨#[47]⟩:BA),(⟨#[37]⟩:BA),(⟨#[38]⟩:BA),(⟨#[124]⟩:BA),(⟨#[94]⟩:BA),(⟨#[60]⟩:BA),(⟨#[60,61]⟩:BA),(⟨#[61,61]⟩:BA),(⟨#[33,61]⟩:BA)]:List BA).length - k∧k≤([(⟨#[43]⟩:BA),(⟨#[45]⟩:BA),(⟨#[42]⟩:BA),(⟨#[47]⟩:BA),(⟨#[37]⟩:BA),(⟨#[38]⟩:BA),(⟨#[124]⟩:BA),(⟨#[94]⟩:BA),(⟨#[60]⟩:BA),(⟨#[60,61]⟩:BA),(⟨#[61,61]⟩:BA),(⟨#[33,61]⟩:BA)]:List BA).length∧Has f [(12,V (k:Int)),(0,Pt j),(5,.slice (ad z) ([3,3,4,4,4,2,2,2,1,1,1,1]:List Int).length 12),(10,.slice (ad x) ([(⟨#[43]⟩:BA),(⟨#[45]⟩:BA),(⟨#[42]⟩:BA),(⟨#[47]⟩:BA),(⟨#[37]⟩:BA),(⟨#[38]⟩:BA),(⟨#[124]⟩:BA),(⟨#[94]⟩:BA),(⟨#[60]⟩:BA),(⟨#[60,61]⟩:BA),(⟨#[61,61]⟩:BA),(⟨#[33,61]⟩:BA)]:List BA).length 12),(11,V ((([(⟨#[43]⟩:BA),(⟨#[45]⟩:BA),(⟨#[42]⟩:BA),(⟨#[47]⟩:BA),(⟨#[37]⟩:BA),(⟨#[38]⟩:BA),(⟨#[124]⟩:BA),(⟨#[94]⟩:BA),(⟨#[60]⟩:BA),(⟨#[60,61]⟩:BA),(⟨#[61,61]⟩:BA),(⟨#[33,61]⟩:BA)]:List BA).length:Nat):Int))]∧Bx t w a1 G [O t.heap.size (ad z) 12 3 Int [[V 3],[V 3],[V 4],[V 4],[V 4],[V 2],[V 2],[V 2],[V 1],[V 1],[V 1],[V 1]],O t.heap.size (ad x) 12 9 BA [[T (⟨#[43]⟩:BA)],[T (⟨#[45]⟩:BA)],[T (⟨#[42]⟩:BA)],[T (⟨#[47]⟩:BA)],[T (⟨#[37]⟩:BA)],[T (⟨#[38]⟩:BA)],[T (⟨#[124]⟩:BA)],[T (⟨#[94]⟩:BA)],[T (⟨#[60]⟩:BA)],[T (⟨#[60,61]⟩:BA)],[T (⟨#[61,61]⟩:BA)],[T (⟨#[33,61]⟩:BA)]],.box j 102 #[Z b i.l c,V i.a,V i.c,V i.e]] [.els [[V 3],[V 3],[V 4],[V 4],[V 4],[V 2],[V 2],[V 2],[V 1],[V 1],[V 1],[V 1]] ([3,3,4,4,4,2,2,2,1,1,1,1]:List Int),.els [[T (⟨#[43]⟩:BA)],[T (⟨#[45]⟩:BA)],[T (⟨#[42]⟩:BA)],[T (⟨#[47]⟩:BA)],[T (⟨#[37]⟩:BA)],[T (⟨#[38]⟩:BA)],[T (⟨#[124]⟩:BA)],[T (⟨#[94]⟩:BA)],[T (⟨#[60]⟩:BA)],[T (⟨#[60,61]⟩:BA)],[T (⟨#[61,61]⟩:BA)],[T (⟨#[33,61]⟩:BA)]] ([(⟨#[43]⟩:BA),(⟨#[45]⟩:BA),(⟨#[42]⟩:BA),(⟨#[47]⟩:BA),(⟨#[37]⟩:BA),(⟨#[38]⟩:BA),(⟨#[124]⟩:BA),(⟨#[94]⟩:BA),(⟨#[60]⟩:BA),(⟨#[60,61]⟩:BA),(⟨#[61,61]⟩:BA),(⟨#[33,61]⟩:BA)]:List BA),.l b c i.l]∧qN fu i (([(⟨#[43]⟩:BA),(⟨#[45]⟩:BA),(⟨#[42]⟩:BA),(⟨#[47]⟩:BA),(⟨#[37]⟩:BA),(⟨#[38]⟩:BA),(⟨#[124]⟩:BA),(⟨#[94]⟩:BA),(⟨#[60]⟩:BA),(⟨#[60,61]⟩:BA),(⟨#[61,61]⟩:BA),(⟨#[33,61]⟩:BA)]:List BA).drop k) k=some F) (([(⟨#[43]⟩:BA),(⟨#[45]⟩:BA),(⟨#[42]⟩:BA),(⟨#[47]⟩:BA),(⟨#[37]⟩:BA),(⟨#[38]⟩:BA),(⟨#[124]⟩:BA),(⟨#[94]⟩:BA),(⟨#[60]⟩:BA),(⟨#[60,61]⟩:BA),(⟨#[61,61]⟩:BA),(⟨#[33,61]⟩:BA)]:List BA).length) ⟨0,r,Nat.zero_le _,⟨r,r,r,r,r,y⟩,d,a⟩ ?_)
  clear d a
  rintro a3 f w ⟨k,rfl,J,hf,d,a⟩ X B
  obtain ⟨a2,rfl⟩:=iA _ _ hf
  clear hf
  rcases Nat.lt_or_ge k ([(⟨#[43]⟩:BA),(⟨#[45]⟩:BA),(⟨#[42]⟩:BA),(⟨#[47]⟩:BA),(⟨#[37]⟩:BA),(⟨#[38]⟩:BA),(⟨#[124]⟩:BA),(⟨#[94]⟩:BA),(⟨#[60]⟩:BA),(⟨#[60,61]⟩:BA),(⟨#[61,61]⟩:BA),(⟨#[33,61]⟩:BA)]:List BA).length with u | u
  ·obtain ⟨K,p⟩:=mh (l:=([(⟨#[43]⟩:BA),(⟨#[45]⟩:BA),(⟨#[42]⟩:BA),(⟨#[47]⟩:BA),(⟨#[37]⟩:BA),(⟨#[38]⟩:BA),(⟨#[124]⟩:BA),(⟨#[94]⟩:BA),(⟨#[60]⟩:BA),(⟨#[60,61]⟩:BA),(⟨#[61,61]⟩:BA),(⟨#[33,61]⟩:BA)]:List BA)) u
   rw [mP p,qN] at a
   refine q (g (s (sS r r (by omega)) (n (q (jN r (wk (q (oM (q (g (s (mi r) (s (kW kQ oQ r r r (d.vw 1 1 r r) p) (s (jT uq r r ((uy (ds:=[T K]) (d.vw 1 1 r r) p (fun _ h=>h)) 0 _ r)) (s (xi r) (s (mF r) (n (q (g (s (mp r) (s (kY r) ?_))))))))))))))))))))
   obtain ⟨H,L,a⟩:=bs a
   refine sc (ec vv r) (mY fu (d.pr [2] [0,1] [2] r) L) ?_
   rintro _ Y ⟨rfl,M⟩
   replace d:=d.cn [2] [0,1] M
   refine n ?_
   rcases iv a with ⟨v,a⟩|⟨v,a⟩
   ·refine jN (cb v) (q (g (s (nC r) (s (mi r) ?_))))
    obtain ⟨N,o,a⟩:=bs a
    obtain ⟨k6,C,o⟩:=kJ o
    refine s (kW ug nO r r C (d.vw 1 1 r r) o) (s (jT EC r r ((uy (ds:=[V N]) (d.vw 1 1 r r) o (fun _ h=>h)) 0 _ r)) (s (mi r) (s (kE r r) (s (xi r) (s (xi r) (n (kT ?_)))))))
    obtain rfl:=sm a
    replace m:=oi m
    obtain rfl:=sm m
    exact qj r (lq r) (lq r) (mM (⟨r,(d.ad [0] [3])⟩))
   replace v:=nt v
   exact jK (cb v) (wk (g (s (mR r r (by omega) (by omega)) (s (mi r) (n (B (([(⟨#[43]⟩:BA),(⟨#[45]⟩:BA),(⟨#[42]⟩:BA),(⟨#[47]⟩:BA),(⟨#[37]⟩:BA),(⟨#[38]⟩:BA),(⟨#[124]⟩:BA),(⟨#[94]⟩:BA),(⟨#[60]⟩:BA),(⟨#[60,61]⟩:BA),(⟨#[61,61]⟩:BA),(⟨#[33,61]⟩:BA)]:List BA).length - (k+1)) _ _ (by omega) ⟨k+1,r,by omega,⟨r,r,r,r,r,y⟩,(d.ad [1,2,0] [1,2,3]),a⟩))))))
  obtain rfl:k=([(⟨#[43]⟩:BA),(⟨#[45]⟩:BA),(⟨#[42]⟩:BA),(⟨#[47]⟩:BA),(⟨#[37]⟩:BA),(⟨#[38]⟩:BA),(⟨#[124]⟩:BA),(⟨#[94]⟩:BA),(⟨#[60]⟩:BA),(⟨#[60,61]⟩:BA),(⟨#[61,61]⟩:BA),(⟨#[33,61]⟩:BA)]:List BA).length:=by omega
  rw [lV,qN] at a
  exact q (g (s (sU r r (by omega)) (n (q (jK r (tT (A _ _ ⟨y,d,sm a⟩)))))))
 clear d
 rintro f w ⟨hf,d,D⟩
 obtain ⟨a2,rfl⟩:=iA _ _ hf
 clear hf
 subst D
 replace m:=gi m
 refine q (g (s (xi r) (s (xi r) (n (kT ?_)))))
 obtain rfl:=sm m
 exact qj r (lq r) (lq r) (mM (⟨r,(d.ad [2] [2])⟩))
def Lj (m:gP→Option (Bool)):Prop:=∀ {f:World} {i:Nat→Prop} {c:gP} {d:Nat} {a:Option Addr} {b:Nat} {h:Bool},Pre f i [.box d 102 #[Z a c.l b,V c.a,V c.c,V c.e]] [.l a b c.l]→m c=some h→
 Calls Try.prog 126 #[Pt d] f (qW fun v w=>v=.bool h∧Bx f w i (lT [.box d 102 #[Z a c.l b,V c.a,V c.c,V c.e]]) [.box d 102 #[Z a c.l b,V c.a,V c.c,V c.e]] [.l a b c.l])
def sH (fu:Nat)(c:gP):Option (Bool):=
 (oU fu c 0 1).bind fun a=>
 if a=true then
  (mE fu c 1 (⟨#[40]⟩:BA)).bind fun b=>
  some b
 else
  some false
theorem Ej (fu:Nat):Lj (sH fu):=by
 intro u A i f c d v k b
 unfold sH at b
 have a:=k.bx
 clear k
 generalize w:lT _=G at a ⊢
 refine cf Try.func126 r (lK [(0,Pt f)] ⟨r,y⟩ fun B=>q (g (s (kC r) (n (q (g (s (mp r) ?_)))))))
 obtain ⟨m,p,b⟩:=bs b
 refine sc (ec Dk r) (rH fu (a.pr [0] [] [0] r) p) ?_
 rintro _ x ⟨rfl,j⟩
 replace a:=a.cn [0] [] j
 refine s (kL r) ?_
 rcases iv b with ⟨h,b⟩|⟨h,b⟩
 ·rw [h]
  refine kg r (s (mp r) ?_)
  obtain ⟨o,t,b⟩:=bs b
  refine kg r (sc (ec vv r) (mY fu (a.pr [0] [] [1] r) t) ?_)
  rintro _ z ⟨rfl,j⟩
  replace a:=a.cn [0] [] j
  refine s (kr r r) (s (kC r) (n (kT ?_)))
  obtain rfl:=sm b
  exact jI r (lq r) ⟨r,(a.dp [2])⟩
 replace h:=nt h
 rw [h]
 refine jC r (jC r (s (jY r r) (s (kC r) (n (kT ?_)))))
 obtain rfl:=sm b
 exact jI r (lq r) ⟨r,(a.dp [1])⟩
def GL (m:gP→Option (Bool)):Prop:=∀ {f:World} {i:Nat→Prop} {c:gP} {d:Nat} {a:Option Addr} {b:Nat} {h:Bool},Pre f i [.box d 102 #[Z a c.l b,V c.a,V c.c,V c.e]] [.l a b c.l]→m c=some h→
 Calls Try.prog 93 #[Pt d] f (qW fun v w=>v=.bool h∧Bx f w i (lT [.box d 102 #[Z a c.l b,V c.a,V c.c,V c.e]]) [.box d 102 #[Z a c.l b,V c.a,V c.c,V c.e]] [.l a b c.l])
def qd (fu:Nat)(b:gP):List BA→Nat→Option (Ld (Unit) (Bool))
 | [],_=>some (.go ())
 | c :: d,e=>
 (mE fu b 0 c).bind fun a=>
 if a=true then
  some (.out true)
 else
  qd fu b d (e+1)
def wS (fu:Nat)(b:gP):Option (Bool):=
 (qd fu b ([(⟨#[118,97,114]⟩:BA),(⟨#[105,102]⟩:BA),(⟨#[119,104,105,108,101]⟩:BA),(⟨#[114,101,116,117,114,110]⟩:BA),(⟨#[116,104,114,111,119]⟩:BA),(⟨#[116,114,121]⟩:BA),(⟨#[112,114,105,110,116]⟩:BA)]:List BA) 0).bind fun c=>c.el (fun _=>
 (oU fu b 0 1).bind fun a=>
 some a
 ) (fun o=>some o)
theorem GI (fu:Nat):GL (wS fu):=by
 intro u X i j b c M C k
 unfold wS at k
 have d:=C.bx
 clear C
 generalize N:lT _=G at d ⊢
 refine cf Try.func93 r (lK [(0,Pt j)] ⟨r,y⟩ fun Y=>q (g (s (kC r) (n (q (q (g (nU (jP d [[T (⟨#[118,97,114]⟩:BA)],[T (⟨#[105,102]⟩:BA)],[T (⟨#[119,104,105,108,101]⟩:BA)],[T (⟨#[114,101,116,117,114,110]⟩:BA)],[T (⟨#[116,104,114,111,119]⟩:BA)],[T (⟨#[116,114,121]⟩:BA)],[T (⟨#[112,114,105,110,116]⟩:BA)]] ([(⟨#[118,97,114]⟩:BA),(⟨#[105,102]⟩:BA),(⟨#[119,104,105,108,101]⟩:BA),(⟨#[114,101,116,117,114,110]⟩:BA),(⟨#[116,104,114,111,119]⟩:BA),(⟨#[116,114,121]⟩:BA),(⟨#[112,114,105,110,116]⟩:BA)]:List BA) (Qv r r r r r r r) r r (by decide) ⟨r,⟨r,⟨r,⟨r,⟨r,⟨r,⟨r,y⟩⟩⟩⟩⟩⟩⟩) ?_))))))))
 rintro _ Q ⟨v,rfl,d⟩
 refine s (lX kQ r) (s (mi r) (n ?_))
 have H:=(d.vw 0 0 r r).bd
 obtain ⟨D,a,k⟩:=bs k
 refine oq (fun f w=>Has f [(0,Pt j)]∧Bx u w X G [O u.heap.size (ad v) 7 9 BA [[T (⟨#[118,97,114]⟩:BA)],[T (⟨#[105,102]⟩:BA)],[T (⟨#[119,104,105,108,101]⟩:BA)],[T (⟨#[114,101,116,117,114,110]⟩:BA)],[T (⟨#[116,104,114,111,119]⟩:BA)],[T (⟨#[116,114,121]⟩:BA)],[T (⟨#[112,114,105,110,116]⟩:BA)]],.box j 102 #[Z b i.l c,V i.a,V i.c,V i.e]] [.els [[T (⟨#[118,97,114]⟩:BA)],[T (⟨#[105,102]⟩:BA)],[T (⟨#[119,104,105,108,101]⟩:BA)],[T (⟨#[114,101,116,117,114,110]⟩:BA)],[T (⟨#[116,104,114,111,119]⟩:BA)],[T (⟨#[116,114,121]⟩:BA)],[T (⟨#[112,114,105,110,116]⟩:BA)]] ([(⟨#[118,97,114]⟩:BA),(⟨#[105,102]⟩:BA),(⟨#[119,104,105,108,101]⟩:BA),(⟨#[114,101,116,117,114,110]⟩:BA),(⟨#[116,104,114,111,119]⟩:BA),(⟨#[116,114,121]⟩:BA),(⟨#[112,114,105,110,116]⟩:BA)]:List BA),.l b c i.l]∧Ld.go ()=D) (fun R x=>?_) ?_
 ·refine oM (kM (fun a0 f w=>∃ (m:Nat),a0=([(⟨#[118,97,114]⟩:BA),(⟨#[105,102]⟩:BA),(⟨#[119,104,105,108,101]⟩:BA),(⟨#[114,101,116,117,114,110]⟩:BA),(⟨#[116,104,114,111,119]⟩:BA),(⟨#[116,114,121]⟩:BA),(⟨#[112,114,105,110,116]⟩:BA)]:List BA).length - m∧m≤([(⟨#[118,97,114]⟩:BA),(⟨#[105,102]⟩:BA),(⟨#[119,104,105,108,101]⟩:BA),(⟨#[114,101,116,117,114,110]⟩:BA),(⟨#[116,104,114,111,119]⟩:BA),(⟨#[116,114,121]⟩:BA),(⟨#[112,114,105,110,116]⟩:BA)]:List BA).length∧Has f [(7,V (m:Int)),(0,Pt j),(5,.slice (ad v) ([(⟨#[118,97,114]⟩:BA),(⟨#[105,102]⟩:BA),(⟨#[119,104,105,108,101]⟩:BA),(⟨#[114,101,116,117,114,110]⟩:BA),(⟨#[116,104,114,111,119]⟩:BA),(⟨#[116,114,121]⟩:BA),(⟨#[112,114,105,110,116]⟩:BA)]:List BA).length 7),(6,V ((([(⟨#[118,97,114]⟩:BA),(⟨#[105,102]⟩:BA),(⟨#[119,104,105,108,101]⟩:BA),(⟨#[114,101,116,117,114,110]⟩:BA),(⟨#[116,104,114,111,119]⟩:BA),(⟨#[116,114,121]⟩:BA),(⟨#[112,114,105,110,116]⟩:BA)]:List BA).length:Nat):Int))]∧Bx u w X G [O u.heap.size (ad v) 7 9 BA [[T (⟨#[118,97,114]⟩:BA)],[T (⟨#[105,102]⟩:BA)],[T (⟨#[119,104,105,108,101]⟩:BA)],[T (⟨#[114,101,116,117,114,110]⟩:BA)],[T (⟨#[116,104,114,111,119]⟩:BA)],[T (⟨#[116,114,121]⟩:BA)],[T (⟨#[112,114,105,110,116]⟩:BA)]],.box j 102 #[Z b i.l c,V i.a,V i.c,V i.e]] [.els [[T (⟨#[118,97,114]⟩:BA)],[T (⟨#[105,102]⟩:BA)],[T (⟨#[119,104,105,108,101]⟩:BA)],[T (⟨#[114,101,116,117,114,110]⟩:BA)],[T (⟨#[116,104,114,111,119]⟩:BA)],[T (⟨#[116,114,121]⟩:BA)],[T (⟨#[112,114,105,110,116]⟩:BA)]] ([(⟨#[118,97,114]⟩:BA),(⟨#[105,102]⟩:BA),(⟨#[119,104,105,108,101]⟩:BA),(⟨#[114,101,116,117,114,110]⟩:BA),(⟨#[116,104,114,111,119]⟩:BA),(⟨#[116,114,121]⟩:BA),(⟨#[112,114,105,110,116]⟩:BA)]:List BA),.l b c i.l]∧qd fu i (([(⟨#[118,97,114]⟩:BA),(⟨#[105,102]⟩:BA),(⟨#[119,104,105,108,101]⟩:BA),(⟨#[114,101,116,117,114,110]⟩:BA),(⟨#[116,104,114,111,119]⟩:BA),(⟨#[116,114,121]⟩:BA),(⟨#[112,114,105,110,116]⟩:BA)]:List BA).drop m) m=some D) (([(⟨#[118,97,114]⟩:BA),(⟨#[105,102]⟩:BA),(⟨#[119,104,105,108,101]⟩:BA),(⟨#[114,101,116,117,114,110]⟩:BA),(⟨#[116,104,114,111,119]⟩:BA),(⟨#[116,114,121]⟩:BA),(⟨#[112,114,105,110,116]⟩:BA)]:List BA).length) ⟨0,r,Nat.zero_le _,⟨r,r,r,r,y⟩,d,a⟩ ?_)
  clear d a
  rintro a0 f w ⟨m,rfl,I,hf,d,a⟩ S z
  obtain ⟨Y,rfl⟩:=iA _ _ hf
  clear hf
  rcases Nat.lt_or_ge m ([(⟨#[118,97,114]⟩:BA),(⟨#[105,102]⟩:BA),(⟨#[119,104,105,108,101]⟩:BA),(⟨#[114,101,116,117,114,110]⟩:BA),(⟨#[116,104,114,111,119]⟩:BA),(⟨#[116,114,121]⟩:BA),(⟨#[112,114,105,110,116]⟩:BA)]:List BA).length with p | p
  ·obtain ⟨J,o⟩:=mh (l:=([(⟨#[118,97,114]⟩:BA),(⟨#[105,102]⟩:BA),(⟨#[119,104,105,108,101]⟩:BA),(⟨#[114,101,116,117,114,110]⟩:BA),(⟨#[116,104,114,111,119]⟩:BA),(⟨#[116,114,121]⟩:BA),(⟨#[112,114,105,110,116]⟩:BA)]:List BA)) p
   rw [mP o,qd] at a
   refine q (g (s (sS r r (by omega)) (n (q (jN r (wk (q (oM (q (g (s (kW kQ oQ r r r (d.vw 0 0 r r) o) (s (jT uq r r ((uy (ds:=[T J]) (d.vw 0 0 r r) o (fun _ h=>h)) 0 _ r)) (s (mF r) (n (q (g (s (mp r) (s (kY r) ?_))))))))))))))))))
   obtain ⟨E,K,a⟩:=bs a
   refine sc (ec vv r) (mY fu (d.pr [1] [0] [1] r) K) ?_
   rintro _ U ⟨rfl,A⟩
   replace d:=d.cn [1] [0] A
   refine n ?_
   rcases iv a with ⟨t,a⟩|⟨t,a⟩
   ·refine jN (cb t) (q (g (s (kC r) (n (kT ?_)))))
    obtain rfl:=sm a
    replace k:=oi k
    obtain rfl:=sm k
    exact jI r (lq r) ⟨r,(d.ad [0] [2])⟩
   replace t:=nt t
   exact jK (cb t) (wk (g (s (mR r r (by omega) (by omega)) (s (mi r) (n (z (([(⟨#[118,97,114]⟩:BA),(⟨#[105,102]⟩:BA),(⟨#[119,104,105,108,101]⟩:BA),(⟨#[114,101,116,117,114,110]⟩:BA),(⟨#[116,104,114,111,119]⟩:BA),(⟨#[116,114,121]⟩:BA),(⟨#[112,114,105,110,116]⟩:BA)]:List BA).length - (m+1)) _ _ (by omega) ⟨m+1,r,by omega,⟨r,r,r,r,y⟩,(d.ad [1,0] [1,2]),a⟩))))))
  obtain rfl:m=([(⟨#[118,97,114]⟩:BA),(⟨#[105,102]⟩:BA),(⟨#[119,104,105,108,101]⟩:BA),(⟨#[114,101,116,117,114,110]⟩:BA),(⟨#[116,104,114,111,119]⟩:BA),(⟨#[116,114,121]⟩:BA),(⟨#[112,114,105,110,116]⟩:BA)]:List BA).length:=by omega
  rw [lV,qd] at a
  exact q (g (s (sU r r (by omega)) (n (q (jK r (tT (x _ _ ⟨⟨r,y⟩,d,sm a⟩)))))))
 clear d
 rintro f w ⟨hf,d,B⟩
 obtain ⟨Y,rfl⟩:=iA _ _ hf
 clear hf
 subst B
 replace k:=gi k
 refine q (g (s (mp r) ?_))
 obtain ⟨F,L,k⟩:=bs k
 refine sc (ec Dk r) (rH fu (d.pr [1] [0] [1] r) L) ?_
 rintro _ W ⟨rfl,A⟩
 replace d:=d.cn [1] [0] A
 refine s (kC r) (n (kT ?_))
 obtain rfl:=sm k
 exact jI r (lq r) ⟨r,(d.ad [0] [2])⟩
abbrev mX:=gP→Int→Int→Option (jB × gP)
abbrev qy:=gP→Int→Option (jB × gP)
abbrev pq:=gP→Int→Option (jB × gP)
def pY (m:gP→Int→Int→Option (Ge × gP)):Prop:=∀ {k:World} {t:Nat→Prop} {h:gP} {o:Int} {p:Int} {i:Nat} {a:Option Addr} {b:Nat} {R:Ge × gP},Pre k t [.box i 102 #[Z a h.l b,V h.a,V h.c,V h.e]] [.l a b h.l]→m h o p=some R→
 Calls Try.prog 112 #[Pt i,V o,V p] k (qW fun v w=>jy R fun j c=>∃ (d:OA)(f:Nat),v=.agg #[V j.e,V j.d,V j.g,T j.b,T j.c,Z d j.a f]∧Bx k w t (lT [.box i 102 #[Z a h.l b,V h.a,V h.c,V h.e]]) [.box i 102 #[Z a c.l b,V c.a,V c.c,V c.e]] [.l d f j.a,.l a b c.l])
def wW (m:gP→Int→Option (Ge × gP)):Prop:=∀ {k:World} {p:Nat→Prop} {h:gP} {o:Int} {i:Nat} {a:Option Addr} {b:Nat} {R:Ge × gP},Pre k p [.box i 102 #[Z a h.l b,V h.a,V h.c,V h.e]] [.l a b h.l]→m h o=some R→
 Calls Try.prog 124 #[Pt i,V o] k (qW fun v w=>jy R fun j c=>∃ (d:OA)(f:Nat),v=.agg #[V j.e,V j.d,V j.g,T j.b,T j.c,Z d j.a f]∧Bx k w p (lT [.box i 102 #[Z a h.l b,V h.a,V h.c,V h.e]]) [.box i 102 #[Z a c.l b,V c.a,V c.c,V c.e]] [.l d f j.a,.l a b c.l])
def tQ (m:gP→Int→Option (Ge × gP)):Prop:=∀ {k:World} {p:Nat→Prop} {h:gP} {o:Int} {i:Nat} {a:Option Addr} {b:Nat} {R:Ge × gP},Pre k p [.box i 102 #[Z a h.l b,V h.a,V h.c,V h.e]] [.l a b h.l]→m h o=some R→
 Calls Try.prog 128 #[Pt i,V o] k (qW fun v w=>jy R fun j c=>∃ (d:OA)(f:Nat),v=.agg #[V j.e,V j.d,V j.g,T j.b,T j.c,Z d j.a f]∧Bx k w p (lT [.box i 102 #[Z a h.l b,V h.a,V h.c,V h.e]]) [.box i 102 #[Z a c.l b,V c.a,V c.c,V c.e]] [.l d f j.a,.l a b c.l])
def rZ (fu:Nat)(r_r03_expression:mX) (r_r03_unary:qy) (r_r03_target:pq) (f:gP) (h:Int)(i:Int):Option (Ld (Int × Int × Int × BA × BA × List Ge × List jX × Int × Int × Int) (Ge × gP)):=
 if h=5 then
  (r_r03_unary f i).bind fun j=>
  jy j fun a c=>
  some (.go (a.e,a.d,a.g,a.b,a.c,a.a,c.l,c.a,c.c,c.e))
 else
  (r_r03_expression f (wr (h+1)) i).bind fun j=>
  jy j fun b d=>
  some (.go (b.e,b.d,b.g,b.b,b.c,b.a,d.l,d.a,d.c,d.e))
def oK (fu:Nat)(r_r03_expression:mX) (r_r03_unary:qy) (r_r03_target:pq) (v:Int)(w:Int):Nat→Int→Int→Int→BA→BA→(List Ge)→(List jX)→Int→Int→Int→Option (Ld (Int × Int × Int × BA × BA × List Ge × List jX × Int × Int × Int) (Ge × gP))
 | 0,_,_,_,_,_,_,_,_,_,_=>none
 | x+1,c,d,f,h,i,j,k,m,o,a=>
 if a=0 then
  if v < 5 then
   (yR fu (⟨k,m,o,a⟩:gP)).bind fun z=>
   jy z fun u p=>
   if u≠v then
    some (.out ((⟨c,d,f,h,i,j⟩:Ge),(⟨k,m,o,a⟩:gP)))
   else
    (r_r03_expression (⟨k,(wr (m+1)),o,a⟩:gP) (wr (v+1)) w).bind fun z=>
    jy z fun t b=>
    if v=1 then
     some (.out ((⟨p,0,0,be,be,([(⟨c,d,f,h,i,j⟩:Ge),t]:List Ge)⟩:Ge),b))
    else
     oK fu r_r03_expression r_r03_unary r_r03_target v w x p 0 0 be be ([(⟨c,d,f,h,i,j⟩:Ge),t]:List Ge) b.l b.a b.c b.e
  else
   some (.go (c,d,f,h,i,j,k,m,o,a))
 else
  some (.go (c,d,f,h,i,j,k,m,o,a))
def su (fu:Nat)(r_r03_expression:mX) (r_r03_unary:qy) (r_r03_target:pq) (D:gP) (B:Int)(C:Int):Option (Ge × gP):=
 (rZ fu r_r03_expression r_r03_unary r_r03_target D B C).bind fun E=>E.el (fun E=>
 jy E fun c E=>jy E fun d E=>jy E fun e E=>jy E fun f E=>jy E fun h E=>jy E fun i E=>jy E fun j E=>jy E fun k E=>jy E fun l a=>
 (oK fu r_r03_expression r_r03_unary r_r03_target B C fu c d e f h i j k l a).bind fun E=>E.el (fun E=>
 jy E fun m E=>jy E fun p E=>jy E fun t E=>jy E fun u E=>jy E fun v E=>jy E fun w E=>jy E fun x E=>jy E fun z E=>jy E fun A b=>
 some ((⟨m,p,t,u,v,w⟩:Ge),(⟨x,z,A,b⟩:gP))
 ) (fun o=>some o)
 ) (fun o=>some o)
def qR (fu:Nat)(r_r03_expression:mX) (r_r03_unary:qy) (r_r03_target:pq) (d:gP) (j:Int):List BA→Nat→Option (Ld (Unit) (Ge × gP))
 | [],_=>some (.go ())
 | h :: i,f=>
 (mE fu d 0 h).bind fun a=>
 if a=true then
  (r_r03_unary (⟨d.l,(wr (d.a+1)),d.c,d.e⟩:gP) (wr (j+1))).bind fun k=>
  jy k fun b c=>
  some (.out ((⟨(wr (4+(f:Int))),0,0,be,be,([b]:List Ge)⟩:Ge),c))
 else
  qR fu r_r03_expression r_r03_unary r_r03_target d j i (f+1)
def yU (fu:Nat)(r_r03_expression:mX) (r_r03_unary:qy) (r_r03_target:pq) (a:gP) (t:Int):Option (Ge × gP):=
 if a.e≠0 then
  some ((⟨0,0,0,be,be,([]:List Ge)⟩:Ge),a)
 else
  (wU fu a).bind fun m=>
  if (!m)=true then
   (oV fu a 7).bind fun p=>
   some ((⟨0,0,0,be,be,([]:List Ge)⟩:Ge),p)
  else
   if 8 < t then
    (oV fu a 5).bind fun b=>
    some ((⟨0,0,0,be,be,([]:List Ge)⟩:Ge),b)
   else
    (qR fu r_r03_expression r_r03_unary r_r03_target a t ([(⟨#[45]⟩:BA),(⟨#[33]⟩:BA)]:List BA) 0).bind fun v=>v.el (fun _=>
    (oU fu a 0 2).bind fun c=>
    if c=true then
     (ix a.l (wr ((wr (a.a+1)) - 1))).bind fun u=>
     some ((⟨0,u.d,0,be,be,([]:List Ge)⟩:Ge),(⟨a.l,(wr (a.a+1)),a.c,a.e⟩:gP))
    else
     (mE fu a 0 (⟨#[40]⟩:BA)).bind fun d=>
     if d=true then
      (r_r03_expression (⟨a.l,(wr (a.a+1)),a.c,a.e⟩:gP) 1 (wr (t+1))).bind fun v=>
      jy v fun f h=>
      (lJ fu h (⟨#[41]⟩:BA)).bind fun i=>
      some (f,i)
     else
      (r_r03_target a t).bind fun v=>
      jy v fun j k=>
      some (j,k)
    ) (fun o=>some o)
def vN (fu:Nat)(r_r03_expression:mX) (r_r03_unary:qy) (r_r03_target:pq) (b:BA) (a:gP):Option (Ld (Unit) (Ge × gP)):=
 if a.e=0 then
  (mE fu a 0 (⟨#[46]⟩:BA)).bind fun c=>
  if c=true then
   (ow fu (⟨a.l,(wr (a.a+1)),a.c,a.e⟩:gP)).bind fun h=>
   jy h fun d f=>
   some (.out ((⟨2,0,0,b,d,([]:List Ge)⟩:Ge),f))
  else
   some (.go ())
 else
  some (.go ())
def wX (fu:Nat)(r_r03_expression:mX) (r_r03_unary:qy) (r_r03_target:pq) (i:gP) (j:Int):Option (Ge × gP):=
 (ow fu i).bind fun k=>
 jy k fun b a=>
 (vN fu r_r03_expression r_r03_unary r_r03_target b a).bind fun k=>k.el (fun _=>
 if a.e=0 then
  (mE fu a 0 (⟨#[91]⟩:BA)).bind fun c=>
  if c=true then
   (r_r03_expression (⟨a.l,(wr (a.a+1)),a.c,a.e⟩:gP) 1 (wr (j+1))).bind fun k=>
   jy k fun d f=>
   (lJ fu f (⟨#[93]⟩:BA)).bind fun h=>
   some ((⟨3,0,0,b,be,([d]:List Ge)⟩:Ge),h)
  else
   some ((⟨1,0,0,b,be,([]:List Ge)⟩:Ge),a)
 else
  some ((⟨1,0,0,b,be,([]:List Ge)⟩:Ge),a)
 ) (fun o=>some o)
def lG:Nat→(gP→Int→Int→Option (Ge × gP)) × (gP→Int→Option (Ge × gP)) × (gP→Int→Option (Ge × gP))
 | 0=>((fun _ _ _=>none),(fun _ _=>none),(fun _ _=>none))
 | fu+1=>(su fu ((lG fu).1) ((lG fu).2.1) ((lG fu).2.2),yU fu ((lG fu).1) ((lG fu).2.1) ((lG fu).2.2),wX fu ((lG fu).1) ((lG fu).2.1) ((lG fu).2.2))
def l5 (fu:Nat):=(lG fu).1
def yG (fu:Nat):=(lG fu).2.1
def sI (fu:Nat):=(lG fu).2.2
theorem Di (fu:Nat)(r_r03_expression:mX) (r_r03_unary:qy) (r_r03_target:pq) (H_r03_expression:pY r_r03_expression) (H_r03_unary:wW r_r03_unary) (H_r03_target:tQ r_r03_target):pY (su fu r_r03_expression r_r03_unary r_r03_target):=by
 intro w0 b0 x0 x1 x2 a1 E F R hP z
 unfold su at z
 have d:=hP.bx
 clear hP
 generalize hG:lT _=G at d ⊢
 refine cf Try.func112 r ?_
 refine lK [(0,Pt a1),(1,V x1),(2,V x2)] ⟨r,r,r,y⟩ fun b3=>?_
 refine q (g (tu d (jV jU) fun w1 b1 d=>?_))
 refine n (q (g (tu d (jV jU) fun w2 b2 d=>?_)))
 refine n (q ?_)
 obtain ⟨Y3,J,z⟩:=bs z
 refine oq (fun f w=>∃ (a3:Int)(a4:Int)(a5:Int)(a6:BA) (a7:BA) (Y:List Ge) (S:OA)(U:Nat)(a0:List jX) (a8:Int)(a9:Int)(W:Int),Has f [(0,Pt a1),(1,V x1),(2,V x2),(6,Pt b1),(7,Pt b2)]∧Bx w0 w b0 G [.box b2 138 #[V a3,V a4,V a5,T a6,T a7,Z S Y U],.box b1 138 #[V 0,V 0,V 0,T be,T be,sn],.box a1 102 #[Z E a0 F,V a8,V a9,V W]] [.l S U Y,.l E F a0]∧Ld.go (a3,a4,a5,a6,a7,Y,a0,a8,a9,W)=Y3) (fun J3 ak=>?_) ?_
 ·unfold rZ at J
  refine q (g (s (mi r) (s (kD r r) (n ?_))))
  rcases iv J with ⟨h4,J⟩|⟨h4,J⟩
  ·refine jN (bt h4) (g (s (mp r) (s (mi r) ?_)))
   obtain ⟨v,aa,h5,J⟩:=lZ J
   refine sc (ec Px r) (H_r03_unary (d.pr [2] [0,1] [0] r) h5) ?_
   rintro _ w5 ⟨L,M,rfl,hK⟩
   replace d:=d.cn [2] [0,1] hK
   refine lg (nX d 1 [V v.e,V v.d,V v.g,T v.b,T v.c,Z L v.a M] r jU r r) fun w6 d=>?_
   refine n ?_
   exact ak _ _ ⟨v.e,v.d,v.g,v.b,v.c,v.a,L,M,aa.l,aa.a,aa.c,aa.e,⟨r,r,r,r,r,y⟩,(d.ad [1,2,0] [0,1]),sm J⟩
  refine jK (bf h4) (g (s (mp r) (s (mi r) (s (kE r r) (s (mi r) ?_)))))
  obtain ⟨x,ab,h7,J⟩:=lZ J
  refine sc (ec Aq r) (H_r03_expression (d.pr [2] [0,1] [0] r) h7) ?_
  rintro _ w7 ⟨N,Q,rfl,hK⟩
  replace d:=d.cn [2] [0,1] hK
  refine lg (nX d 1 [V x.e,V x.d,V x.g,T x.b,T x.c,Z N x.a Q] r jU r r) fun w8 d=>?_
  refine n ?_
  exact ak _ _ ⟨x.e,x.d,x.g,x.b,x.c,x.a,N,Q,ab.l,ab.a,ab.c,ab.e,⟨r,r,r,r,r,y⟩,(d.ad [1,2,0] [0,1]),sm J⟩
 clear d
 rintro f w ⟨a3,a4,a5,a6,a7,Y,S,U,a0,a8,a9,W,hf,d,au⟩
 obtain ⟨b3,rfl⟩:=iA _ _ hf
 clear hf
 subst au
 replace z:=gi z
 replace z:=mG (mG (mG z))
 refine q ?_
 obtain ⟨Y9,u,z⟩:=bs z
 refine oq (fun f w=>∃ (j:Int)(m:Int)(o:Int)(p:BA) (t:BA) (h:List Ge) (b:OA)(c:Nat)(D:List jX) (H:Int)(I:Int)(A:Int),Has f [(6,Pt b1),(7,Pt b2)]∧Bx w0 w b0 G [.box b2 138 #[V j,V m,V o,T p,T t,Z b h c],.box b1 138 #[V 0,V 0,V 0,T be,T be,sn],.box a1 102 #[Z E D F,V H,V I,V A]] [.l b c h,.l E F D]∧Ld.go (j,m,o,p,t,h,D,H,I,A)=Y9) (fun J9 al=>?_) ?_
 ·refine oM (kM (fun b4 f w=>∃ (j:Int)(m:Int)(o:Int)(p:BA) (t:BA) (h:List Ge) (b:OA)(c:Nat)(D:List jX) (H:Int)(I:Int)(A:Int),Has f [(0,Pt a1),(1,V x1),(2,V x2),(6,Pt b1),(7,Pt b2)]∧Bx w0 w b0 G [.box b2 138 #[V j,V m,V o,T p,T t,Z b h c],.box b1 138 #[V 0,V 0,V 0,T be,T be,sn],.box a1 102 #[Z E D F,V H,V I,V A]] [.l b c h,.l E F D]∧oK fu r_r03_expression r_r03_unary r_r03_target x1 x2 b4 j m o p t h D H I A=some Y9) fu ⟨a3,a4,a5,a6,a7,Y,S,U,a0,a8,a9,W,⟨r,r,r,r,r,y⟩,d,u⟩ ?_)
  clear d u
  rintro n9 f w ⟨j,m,o,p,t,h,b,c,D,H,I,A,hf,d,u⟩ K9 aw
  obtain ⟨b3,rfl⟩:=iA _ _ hf
  clear hf
  cases n9 with
  | zero=>exact nn u
  | succ n9=>
   rw [oK] at u
   refine q (q (g (s (mp r) (s (xn r) (s (qY r) (s (BM r (d.bk 2 r) r) (s (kD r r) (s (kL r) ?_))))))))
   rcases iv u with ⟨ae,u⟩|⟨ae,u⟩
   ·rw [decide_eq_true ae]
    refine kg r (s (mi r) (kg r (s (qo r r) (s (kr r r) (n ?_)))))
    rcases iv u with ⟨af,u⟩|⟨af,u⟩
    ·refine jN (bt af) (wk (oM (q (g (s (mp r) ?_)))))
     obtain ⟨ax,K,ay,u⟩:=lZ u
     refine sc (ec UH r) (Iy fu (d.pr [2] [0,1] [1] r) ay) ?_
     rintro _ aG ⟨rfl,hK⟩
     replace d:=d.cn [2] [0,1] hK
     refine s sZ (s (jZ r r) (s (jZ r r) (s (xi r) (s (xi r) (n (q (q (g (s (mi r) (s (mi r) (s (rY r r) (n ?_))))))))))))
     rcases iv u with ⟨ag,u⟩|⟨ag,u⟩
     ·refine jN (bt ag) (q (g (s (ng [V j,V m,V o,T p,T t,Z b h c] mV jU r (d.bk 1 r)) (lg (nX d 2 [V j,V m,V o,T p,T t,Z b h c] r jU r r) fun aH d=>?_))))
      refine n (kT ?_)
      obtain rfl:=sm u
      replace z:=oi z
      obtain rfl:=sm z
      refine jI r (tV r mV r jU r (d.bk 2 r)) ?_
      exact mM (⟨b,c,r,(d.ad [0] [1,2])⟩)
     refine jK (bf ag) (wk (q (g (s (mp r) (s (xn r) (s (l7 r) (s (l3 r (d.bk 0 r) r) (s (kE r r) (s (xn r) (s (l7 r) (lg (t_n d 0 [V (wr (H+1))] r nO r r) fun aI d=>?_)))))))))))
     refine n (q (g (s (mp r) (s (mi r) (s (kE r r) (s (mi r) ?_))))))
     obtain ⟨a,X,az,u⟩:=lZ u
     refine sc (ec Aq r) (H_r03_expression (d.pr [0] [1,2] [2] r) az) ?_
     rintro _ aJ ⟨B,C,rfl,hK⟩
     replace d:=d.cn [0] [1,2] hK
     refine tu d (jV jU) fun aK aL d=>?_
     refine lg (nX d 0 [V a.e,V a.d,V a.g,T a.b,T a.c,Z B a.a C] r jU r r) fun aM d=>?_
     refine n (q (g (s (mi r) (s (ng [V j,V m,V o,T p,T t,Z b h c] mV jU r (d.bk 2 r)) (s (ng [V a.e,V a.d,V a.g,T a.b,T a.c,Z B a.a C] mV jU r (d.bk 0 r)) (nU (jP d [[V j,V m,V o,T p,T t,Z b h c],[V a.e,V a.d,V a.g,T a.b,T a.c,Z B a.a C]] ([(⟨j,m,o,p,t,h⟩:Ge),a]:List Ge) (vS r r) r r (by decide) ⟨(jB.inn ⟨b,c,r,(d.dl 3 r)⟩),⟨(jB.inn ⟨B,C,r,(d.dl 0 r)⟩),y⟩⟩) ?_))))))
     rintro _ aN ⟨a2,rfl,d⟩
     refine s (tC r r) (lg (nX d 3 [V K,V 0,V 0,T be,T be,.slice (ad a2) ([(⟨j,m,o,p,t,h⟩:Ge),a]:List Ge).length 2] r jU r r) fun aO d=>?_)
     refine n (q (g (s (mi r) (s (kD r r) (n ?_)))))
     rcases iv u with ⟨ah,u⟩|⟨ah,u⟩
     ·refine jN (bt ah) (q (g (s (ng [V K,V 0,V 0,T be,T be,.slice (ad a2) ([(⟨j,m,o,p,t,h⟩:Ge),a]:List Ge).length 2] mV jU r (d.bk 3 r)) (lg (nX d 4 [V K,V 0,V 0,T be,T be,.slice (ad a2) ([(⟨j,m,o,p,t,h⟩:Ge),a]:List Ge).length 2] r jU r r) fun aP d=>?_))))
      refine n (kT ?_)
      replace d:=d.fz 0 0 r r
      obtain rfl:=sm u
      replace z:=oi z
      obtain rfl:=sm z
      refine jI r (tV r mV r jU r (d.bk 3 r)) ?_
      exact mM (⟨(ad a2),2,r,(d.ad [1] [0,2])⟩)
     refine jK (bf ah) (wk ?_)
     replace d:=d.fz 0 0 r r
     exact aw n9 _ _ (Nat.lt_succ_self _) ⟨K,0,0,be,be,([(⟨j,m,o,p,t,h⟩:Ge),a]:List Ge),(ad a2),2,X.l,X.a,X.c,X.e,⟨r,r,r,r,r,y⟩,(d.ad [2,3,1] [0,2]),u⟩
    refine jK (bf af) (tT ?_)
    exact al _ _ ⟨j,m,o,p,t,h,b,c,D,H,I,A,⟨r,r,y⟩,d,sm u⟩
   rw [decide_eq_false ae]
   refine jC r (jC r (s (jY r r) (n (jK r (tT ?_)))))
   exact al _ _ ⟨j,m,o,p,t,h,b,c,D,H,I,A,⟨r,r,y⟩,d,sm u⟩
 clear d
 rintro f w ⟨j,m,o,p,t,h,b,c,D,H,I,A,hf,d,aA⟩
 obtain ⟨b3,rfl⟩:=iA _ _ hf
 clear hf
 subst aA
 replace z:=gi z
 replace z:=mG (mG (mG z))
 refine q (g (s (ng [V j,V m,V o,T p,T t,Z b h c] mV jU r (d.bk 0 r)) (lg (nX d 1 [V j,V m,V o,T p,T t,Z b h c] r jU r r) fun aQ d=>?_)))
 refine n (kT ?_)
 obtain rfl:=sm z
 refine jI r (tV r mV r jU r (d.bk 1 r)) ?_
 exact mM (⟨b,c,r,(d.arr [2] r)⟩)
theorem Jz (fu:Nat)(r_r03_expression:mX) (r_r03_unary:qy) (r_r03_target:pq) (H_r03_expression:pY r_r03_expression) (H_r03_unary:wW r_r03_unary) (H_r03_target:tQ r_r03_target):wW (yU fu r_r03_expression r_r03_unary r_r03_target):=by
 intro w0 b4 x x1 I u v R hP j
 unfold yU at j
 have a:=hP.bx
 clear hP
 generalize hG:lT _=G at a ⊢
 refine cf Try.func124 r (lK [(0,Pt I),(1,V x1)] ⟨r,r,y⟩ fun b5=>q (g (tu a (jV jU) fun w1 b1 a=>n (q (q (g (s (mp r) (s (xn r) (s (qY r) (s (BM r (a.bk 1 r) r) (s (rY r r) (n ?_))))))))))))
 rcases iv j with ⟨h2,j⟩|⟨h2,j⟩
 ·refine jN (bt h2) (q (g (s MI (lg (nX a 0 [V 0,V 0,V 0,T be,T be,sn] r jU r r) fun w3 a=>n (kT ?_)))))
  replace a:=a.ku (d:=.l none 0 ([]:List Ge)) om
  obtain rfl:=sm j
  exact jI r (tV r mV r jU r (a.bk 0 r)) (mM (⟨none,0,r,(a.arr [1] r)⟩))
 refine jK (bf h2) (wk (q (q (g (s (mp r) ?_)))))
 obtain ⟨ar,h5,j⟩:=bs j
 refine sc (ec VL r) (GN fu (a.pr [1] [0] [0] r) h5) ?_
 rintro _ w5 ⟨rfl,E⟩
 replace a:=a.cn [1] [0] E
 refine s (Al r) (n ?_)
 rcases iv j with ⟨X,j⟩|⟨X,j⟩
 ·refine jN (cb X) (q (g (s (mp r) ?_)))
  obtain ⟨au,h7,j⟩:=bs j
  refine sc (ec CP r) (q8 fu (a.pr [0] [1] [1] r) h7) ?_
  rintro _ w7 ⟨rfl,E⟩
  replace a:=a.cn [0] [1] E
  refine n (q (g (s MI (lg (nX a 1 [V 0,V 0,V 0,T be,T be,sn] r jU r r) fun w8 a=>n (kT ?_)))))
  replace a:=a.ku (d:=.l none 0 ([]:List Ge)) om
  obtain rfl:=sm j
  exact jI r (tV r mV r jU r (a.bk 1 r)) (mM (⟨none,0,r,(a.ad [0] [0,1])⟩))
 replace X:=nt X
 refine jK (cb X) (wk (q (q (g (s (mi r) (s (uX r r) (n ?_)))))))
 rcases iv j with ⟨S,j⟩|⟨S,j⟩
 ·refine jN (bt S) (q (g (s (mp r) ?_)))
  obtain ⟨a8,a9,j⟩:=bs j
  refine sc (ec CP r) (q8 fu (a.pr [0] [1] [1] r) a9) ?_
  rintro _ az ⟨rfl,E⟩
  replace a:=a.cn [0] [1] E
  refine n (q (g (s MI (lg (nX a 1 [V 0,V 0,V 0,T be,T be,sn] r jU r r) fun aA a=>n (kT ?_)))))
  replace a:=a.ku (d:=.l none 0 ([]:List Ge)) om
  obtain rfl:=sm j
  exact jI r (tV r mV r jU r (a.bk 1 r)) (mM (⟨none,0,r,(a.ad [0] [0,1])⟩))
 refine jK (bf S) (wk (q (q (g (nU (jP a [[T (⟨#[45]⟩:BA)],[T (⟨#[33]⟩:BA)]] ([(⟨#[45]⟩:BA),(⟨#[33]⟩:BA)]:List BA) (vC r r) r r (by decide) ⟨r,⟨r,y⟩⟩) ?_)))))
 rintro _ aB ⟨U,rfl,a⟩
 refine s (lX kQ r) (s (mi r) (n ?_))
 have av:=(a.vw 0 0 r r).bd
 obtain ⟨Y,c,j⟩:=bs j
 refine oq (fun f w=>Has f [(0,Pt I),(1,V x1),(4,Pt b1)]∧Bx w0 w b4 G [O w0.heap.size (ad U) 2 9 BA [[T (⟨#[45]⟩:BA)],[T (⟨#[33]⟩:BA)]],.box I 102 #[Z u x.l v,V x.a,V x.c,V x.e],.box b1 138 #[V 0,V 0,V 0,T be,T be,sn]] [.els [[T (⟨#[45]⟩:BA)],[T (⟨#[33]⟩:BA)]] ([(⟨#[45]⟩:BA),(⟨#[33]⟩:BA)]:List BA),.l u v x.l]∧Ld.go ()=Y) (fun aC a0=>?_) ?_
 ·refine oM (kM (fun b6 f w=>∃ (B:Nat),b6=([(⟨#[45]⟩:BA),(⟨#[33]⟩:BA)]:List BA).length - B∧B≤([(⟨#[45]⟩:BA),(⟨#[33]⟩:BA)]:List BA).length∧Has f [(27,V (B:Int)),(0,Pt I),(1,V x1),(4,Pt b1),(25,.slice (ad U) ([(⟨#[45]⟩:BA),(⟨#[33]⟩:BA)]:List BA).length 2),(26,V ((([(⟨#[45]⟩:BA),(⟨#[33]⟩:BA)]:List BA).length:Nat):Int))]∧Bx w0 w b4 G [O w0.heap.size (ad U) 2 9 BA [[T (⟨#[45]⟩:BA)],[T (⟨#[33]⟩:BA)]],.box I 102 #[Z u x.l v,V x.a,V x.c,V x.e],.box b1 138 #[V 0,V 0,V 0,T be,T be,sn]] [.els [[T (⟨#[45]⟩:BA)],[T (⟨#[33]⟩:BA)]] ([(⟨#[45]⟩:BA),(⟨#[33]⟩:BA)]:List BA),.l u v x.l]∧qR fu r_r03_expression r_r03_unary r_r03_target x x1 (([(⟨#[45]⟩:BA),(⟨#[33]⟩:BA)]:List BA).drop B) B=some Y) (([(⟨#[45]⟩:BA),(⟨#[33]⟩:BA)]:List BA).length) ⟨0,r,Nat.zero_le _,⟨r,r,r,r,r,r,y⟩,(a.dp [0,2]),c⟩ ?_)
  clear a c
  rintro b6 f w ⟨B,rfl,aw,hf,a,c⟩ aD a1
  obtain ⟨b5,rfl⟩:=iA _ _ hf
  clear hf
  rcases Nat.lt_or_ge B ([(⟨#[45]⟩:BA),(⟨#[33]⟩:BA)]:List BA).length with Q | Q
  ·obtain ⟨aa,K⟩:=mh (l:=([(⟨#[45]⟩:BA),(⟨#[33]⟩:BA)]:List BA)) Q
   rw [mP K,qR] at c
   refine q (g (s (sS r r (by omega)) (n (q (jN r (wk (q (oM (q (g (s (mi r) (s (kW kQ oQ r r r (a.vw 0 0 r r) K) (s (jT uq r r ((uy (ds:=[T aa]) (a.vw 0 0 r r) K (fun _ h=>h)) 0 _ r)) (s (xi r) (s (mF r) (n (q (g (s (mp r) (s (kY r) ?_))))))))))))))))))))
   obtain ⟨ab,ac,c⟩:=bs c
   refine sc (ec vv r) (mY fu (a.pr [1] [0,2] [1] r) ac) ?_
   rintro _ aE ⟨rfl,E⟩
   replace a:=a.cn [1] [0,2] E
   refine n ?_
   rcases iv c with ⟨L,c⟩|⟨L,c⟩
   ·refine jN (cb L) (q (g (s (mp r) (s (xn r) (s (l7 r) (s (l3 r (a.bk 0 r) r) (s (kE r r) (s (xn r) (s (l7 r) (lg (t_n a 0 [V (wr (x.a+1))] r nO r r) fun aF a=>n (q (g (s (mi r) (s (kE r r) (s (mp r) (s (mi r) (s (kE r r) ?_)))))))))))))))))
    obtain ⟨t,ae,af,c⟩:=lZ c
    refine sc (ec Px r) (H_r03_unary (a.pr [0] [1,2] [2] r) af) ?_
    rintro _ aG ⟨C,D,rfl,E⟩
    replace a:=a.cn [0] [1,2] E
    refine nU (jP a [[V t.e,V t.d,V t.g,T t.b,T t.c,Z C t.a D]] ([t]:List Ge) (kS r) r r (by decide) ⟨(jB.inn ⟨C,D,r,(a.dl 0 r)⟩),y⟩) ?_
    rintro _ aH ⟨W,rfl,a⟩
    refine s (tC r r) (lg (nX a 3 [V (wr (4+(B:Int))),V 0,V 0,T be,T be,.slice (ad W) ([t]:List Ge).length 1] r jU r r) fun aI a=>n (kT ?_))
    replace a:=a.fz 0 0 r r
    obtain rfl:=sm c
    replace j:=oi j
    obtain rfl:=sm j
    exact jI r (tV r mV r jU r (a.bk 2 r)) (mM (⟨(ad W),1,r,(a.ad [0] [0,2])⟩))
   replace L:=nt L
   exact jK (cb L) (wk (g (s (mR r r (by omega) (by omega)) (s (mi r) (n (a1 (([(⟨#[45]⟩:BA),(⟨#[33]⟩:BA)]:List BA).length - (B+1)) _ _ (by omega) ⟨B+1,r,by omega,⟨r,r,r,r,r,r,y⟩,(a.ad [1,0,2] [1,2]),c⟩))))))
  obtain rfl:B=([(⟨#[45]⟩:BA),(⟨#[33]⟩:BA)]:List BA).length:=by omega
  rw [lV,qR] at c
  exact q (g (s (sU r r (by omega)) (n (q (jK r (tT (a0 _ _ ⟨⟨r,r,r,y⟩,a,sm c⟩)))))))
 clear a
 rintro f w ⟨hf,a,a2⟩
 obtain ⟨b5,rfl⟩:=iA _ _ hf
 clear hf
 subst a2
 replace j:=gi j
 refine q (q (g (s (mp r) ?_)))
 obtain ⟨ag,ah,j⟩:=bs j
 refine sc (ec Dk r) (rH fu (a.pr [1] [0,2] [1] r) ah) ?_
 rintro _ aJ ⟨rfl,E⟩
 replace a:=a.cn [1] [0,2] E
 refine n ?_
 rcases iv j with ⟨M,j⟩|⟨M,j⟩
 ·refine jN (cb M) (q (g (s (mp r) (s (xn r) (s (l7 r) (s (l3 r (a.bk 0 r) r) (s (kE r r) (s (xn r) (s (l7 r) (lg (t_n a 0 [V (wr (x.a+1))] r nO r r) fun aK a=>n (q (pX a [0] [2] [] (by kernel_rfl) ?_))))))))))))
  replace a:=a.drew
  have F:=(a.ad [0] [2])
  refine pF 0 r (mp r) F (pF 1 r (xn r) F (pF 2 r (yV r) F (uF 3 r (fun hS=>OL r (hS.bk 0 r) r) F (pF 4 r (mp r) F (pF 5 r (xn r) F (pF 6 r (l7 r) F (uF 7 r (fun hS=>l3 r (hS.bk 0 r) r) F (pF 8 r (vW r r) F ?_))))))))
  obtain ⟨J,H,j⟩:=bs j
  obtain ⟨aL,a3,H⟩:=kJ H
  refine pF 9 r (kW Cr pQ r r a3 (a.dl 2 r) H) F (pF 10 r (PO r) F (tU 11 r (fun _ hS=>jT EC r r ((uy (ds:=[V J.c,V J.f,T J.a,V J.d]) (hS.dl 0 r) H (fun _ h=>h)) 3 _ r)) (sF F) (pF 12 r (HZ r r) F (hO 13 (os r r (nX a 2 [V 0,V J.d,V 0,T be,T be,sn] r jU r r) fun aM a=>?_)))))
  have F:=(a.ad [0] [2])
  refine ⟨(sF F),(hD (kT ?_))⟩
  replace a:=a.ku (d:=.l none 0 ([]:List Ge)) om
  obtain rfl:=sm j
  exact jI r (tV r mV r jU r (a.bk 2 r)) (mM (⟨none,0,r,(a.ad [0] [0,3])⟩))
 replace M:=nt M
 refine jK (cb M) (wk (q (q (g (s (mp r) ?_)))))
 obtain ⟨ai,aj,j⟩:=bs j
 refine sc (ec vv r) (mY fu (a.pr [0] [1,2] [2] r) aj) ?_
 rintro _ aN ⟨rfl,E⟩
 replace a:=a.cn [0] [1,2] E
 refine n ?_
 rcases iv j with ⟨N,j⟩|⟨N,j⟩
 ·refine jN (cb N) (q (g (s (mp r) (s (xn r) (s (l7 r) (s (l3 r (a.bk 0 r) r) (s (kE r r) (s (xn r) (s (l7 r) (lg (t_n a 0 [V (wr (x.a+1))] r nO r r) fun aO a=>n (q (g (s (mp r) (s (mi r) (s (kE r r) ?_)))))))))))))))
  obtain ⟨b,ak,al,j⟩:=lZ j
  refine sc (ec Aq r) (H_r03_expression (a.pr [0] [1,2] [3] r) al) ?_
  rintro _ aP ⟨o,p,rfl,E⟩
  replace a:=a.cn [0] [1,2] E
  refine tu a (jV jU) fun aQ aR a=>lg (nX a 0 [V b.e,V b.d,V b.g,T b.b,T b.c,Z o b.a p] r jU r r) fun aS a=>n (q (g (s (mp r) ?_)))
  obtain ⟨am,an,j⟩:=bs j
  refine sc (ec vV r) (lU fu (a.pr [1] [0,2,3] [1] r) an) ?_
  rintro _ aT ⟨rfl,E⟩
  replace a:=a.cn [1] [0,2,3] E
  refine n (q (g (s (ng [V b.e,V b.d,V b.g,T b.b,T b.c,Z o b.a p] mV jU r (a.bk 1 r)) (lg (nX a 3 [V b.e,V b.d,V b.g,T b.b,T b.c,Z o b.a p] r jU r r) fun aU a=>n (kT ?_)))))
  obtain rfl:=sm j
  exact jI r (tV r mV r jU r (a.bk 3 r)) (mM (⟨o,p,r,(a.ad [0] [1,0])⟩))
 replace N:=nt N
 refine jK (cb N) (wk (q (g (s (mp r) (s (mi r) ?_)))))
 obtain ⟨m,ao,ap,j⟩:=lZ j
 refine sc (ec QU r) (H_r03_target (a.pr [0] [1,2] [3] r) ap) ?_
 rintro _ aV ⟨z,A,rfl,E⟩
 replace a:=a.cn [0] [1,2] E
 refine lg (nX a 2 [V m.e,V m.d,V m.g,T m.b,T m.c,Z z m.a A] r jU r r) fun aW a=>n (kT ?_)
 obtain rfl:=sm j
 exact jI r (tV r mV r jU r (a.bk 2 r)) (mM (⟨z,A,r,(a.ad [0] [0,1])⟩))
theorem GU (fu:Nat)(r_r03_expression:mX) (r_r03_unary:qy) (r_r03_target:pq) (H_r03_expression:pY r_r03_expression) (H_r03_unary:wW r_r03_unary) (H_r03_target:tQ r_r03_target):tQ (wX fu r_r03_expression r_r03_unary r_r03_target):=by
 intro w0 ap F S z t u R U o
 unfold wX at o
 have b:=U.bx
 clear U
 generalize hG:lT _=G at b ⊢
 refine cf Try.func128 r (lK [(0,Pt z),(1,V S)] ⟨r,r,y⟩ fun aq=>q (g (tu b (jV jU) fun w1 W b=>n (q (g (s (mp r) ?_))))))
 obtain ⟨p,c,h2,o⟩:=lZ o
 refine sc (ec Cc r) (qB fu (b.pr [1] [0] [0] r) h2) ?_
 rintro _ w2 ⟨rfl,v⟩
 replace b:=b.cn [1] [0] v
 refine s (mF r) (n (q ?_))
 obtain ⟨Y3,m,o⟩:=bs o
 refine oq (fun f w=>Has f [(0,Pt z),(1,V S),(4,Pt W),(5,T p)]∧Bx w0 w ap G [.box z 102 #[Z t c.l u,V c.a,V c.c,V c.e],.box W 138 #[V 0,V 0,V 0,T be,T be,sn]] [.l t u c.l]∧Ld.go ()=Y3) (fun J3 D=>?_) ?_
 ·unfold vN at m
  refine q (g (s (mp r) (s (xn r) (s (qY r) (s (BM r (b.bk 0 r) r) (s (kD r r) (s (kL r) ?_)))))))
  rcases iv m with ⟨H,m⟩|⟨H,m⟩
  ·rw [decide_eq_true H]
   refine kg r (s (mp r) ?_)
   obtain ⟨X,h5,m⟩:=bs m
   refine kg r (sc (ec vv r) (mY fu (b.pr [0] [1] [0] r) h5) ?_)
   rintro _ w5 ⟨rfl,v⟩
   replace b:=b.cn [0] [1] v
   refine s (kr r r) (n ?_)
   rcases iv m with ⟨E,m⟩|⟨E,m⟩
   ·refine jN (cb E) (q (g (s (mp r) (s (xn r) (s (l7 r) (s (l3 r (b.bk 0 r) r) (s (kE r r) (s (xn r) (s (l7 r) (lg (t_n b 0 [V (wr (c.a+1))] r nO r r) fun w7 b=>n (q (g (s (kY r) (s (mp r) ?_))))))))))))))
    obtain ⟨A,Y,h8,m⟩:=lZ m
    refine sc (ec Cc r) (qB fu (b.pr [0] [1] [1] r) h8) ?_
    rintro _ w8 ⟨rfl,v⟩
    replace b:=b.cn [0] [1] v
    refine s (uG r r r) (lg (nX b 1 [V 2,V 0,V 0,T p,T A,sn] r jU r r) fun w9 b=>n (kT ?_))
    replace b:=b.ku (d:=.l none 0 ([]:List Ge)) om
    obtain rfl:=sm m
    replace o:=oi o
    obtain rfl:=sm o
    exact jI r (tV r mV r jU r (b.bk 1 r)) (mM (⟨none,0,r,(b.ad [0] [0,1])⟩))
   replace E:=nt E
   exact jK (cb E) (wk (D _ _ ⟨⟨r,r,r,r,y⟩,(b.dp [1]),sm m⟩))
  rw [decide_eq_false H]
  exact jC r (jC r (s (jY r r) (n (jK r (wk (D _ _ ⟨⟨r,r,r,r,y⟩,(b.dp [0]),sm m⟩))))))
 clear b
 rintro f w ⟨hf,b,I⟩
 obtain ⟨aq,rfl⟩:=iA _ _ hf
 clear hf
 subst I
 replace o:=gi o
 refine q (q (g (s (mp r) (s (xn r) (s (qY r) (s (BM r (b.bk 0 r) r) (s (kD r r) (s (kL r) ?_))))))))
 rcases iv o with ⟨B,o⟩|⟨B,o⟩
 ·rw [decide_eq_true B]
  refine kg r (s (mp r) ?_)
  obtain ⟨J,K,o⟩:=bs o
  refine kg r (sc (ec vv r) (mY fu (b.pr [0] [1] [0] r) K) ?_)
  rintro _ a5 ⟨rfl,v⟩
  replace b:=b.cn [0] [1] v
  refine s (kr r r) (n ?_)
  rcases iv o with ⟨x,o⟩|⟨x,o⟩
  ·refine jN (cb x) (q (g (s (mp r) (s (xn r) (s (l7 r) (s (l3 r (b.bk 0 r) r) (s (kE r r) (s (xn r) (s (l7 r) (lg (t_n b 0 [V (wr (c.a+1))] r nO r r) fun a6 b=>n (q (g (s (mp r) (s (mi r) (s (kE r r) ?_)))))))))))))))
   obtain ⟨a,L,M,o⟩:=lZ o
   refine sc (ec Aq r) (H_r03_expression (b.pr [0] [1] [1] r) M) ?_
   rintro _ a7 ⟨h,j,rfl,v⟩
   replace b:=b.cn [0] [1] v
   refine tu b (jV jU) fun a8 a9 b=>lg (nX b 0 [V a.e,V a.d,V a.g,T a.b,T a.c,Z h a.a j] r jU r r) fun aa b=>n (q (g (s (mp r) ?_)))
   obtain ⟨N,Q,o⟩:=bs o
   refine sc (ec vV r) (lU fu (b.pr [1] [0,2] [1] r) Q) ?_
   rintro _ ab ⟨rfl,v⟩
   replace b:=b.cn [1] [0,2] v
   refine n (q (g (s (kY r) (s (ng [V a.e,V a.d,V a.g,T a.b,T a.c,Z h a.a j] mV jU r (b.bk 1 r)) (nU (jP b [[V a.e,V a.d,V a.g,T a.b,T a.c,Z h a.a j]] ([a]:List Ge) (kS r) r r (by decide) ⟨(jB.inn ⟨h,j,r,(b.dl 1 r)⟩),y⟩) ?_)))))
   rintro _ ac ⟨C,rfl,b⟩
   refine s (Bu r r r) (lg (nX b 3 [V 3,V 0,V 0,T p,T be,.slice (ad C) ([a]:List Ge).length 1] r jU r r) fun ae b=>n (kT ?_))
   replace b:=b.fz 0 0 r r
   obtain rfl:=sm o
   exact jI r (tV r mV r jU r (b.bk 2 r)) (mM (⟨(ad C),1,r,(b.ad [0] [0,1])⟩))
  replace x:=nt x
  refine jK (cb x) (wk (q (g (s (kY r) (s (DU r r) (lg (nX b 1 [V 1,V 0,V 0,T p,T be,sn] r jU r r) fun af b=>n (kT ?_)))))))
  replace b:=b.ku (d:=.l none 0 ([]:List Ge)) om
  obtain rfl:=sm o
  exact jI r (tV r mV r jU r (b.bk 1 r)) (mM (⟨none,0,r,(b.ad [0] [0,2])⟩))
 rw [decide_eq_false B]
 refine jC r (jC r (s (jY r r) (n (jK r (wk (q (g (s (kY r) (s (DU r r) (lg (nX b 1 [V 1,V 0,V 0,T p,T be,sn] r jU r r) fun ag b=>n (kT ?_)))))))))))
 replace b:=b.ku (d:=.l none 0 ([]:List Ge)) om
 obtain rfl:=sm o
 exact jI r (tV r mV r jU r (b.bk 1 r)) (mM (⟨none,0,r,(b.arr [0] r)⟩))
theorem zA (fu:Nat):pY (l5 fu)∧wW (yG fu)∧tQ (sI fu):=by
 induction fu with
 | zero=>exact ⟨by intro a b;intros;exact nn (by assumption),by intro a b;intros;exact nn (by assumption),by intro a b;intros;exact nn (by assumption)⟩
 | succ fu ih=>exact ⟨Di fu (l5 fu) (yG fu) (sI fu) ih.1 ih.2.1 ih.2.2,Jz fu (l5 fu) (yG fu) (sI fu) ih.1 ih.2.1 ih.2.2,GU fu (l5 fu) (yG fu) (sI fu) ih.1 ih.2.1 ih.2.2⟩
theorem rC (fu:Nat):pY (l5 fu):=(zA fu).1
theorem Hg (fu:Nat):tQ (sI fu):=(zA fu).2.2
def DL (m:gP→Option ((List Ge) × gP)):Prop:=∀ {k:World} {p:Nat→Prop} {i:gP} {j:Nat} {a:Option Addr} {b:Nat} {R:(List Ge) × gP},Pre k p [.box j 102 #[Z a i.l b,V i.a,V i.c,V i.e]] [.l a b i.l]→m i=some R→
 Calls Try.prog 127 #[Pt j] k (qW fun v w=>jy R fun o c=>∃ (d:OA)(f:Nat)(h:LV),v=Z d o f∧Bx k w p (lT [.box j 102 #[Z a i.l b,V i.a,V i.c,V i.e]]) [O k.heap.size d f 138 Ge h,.box j 102 #[Z a c.l b,V c.a,V c.c,V c.e]] [.els h o,.l a b c.l])
def oZ (fu:Nat):Nat→(List jX)→Int→Int→Int→(List Ge)→Option (Ld (List jX × Int × Int × Int × List Ge) ((List Ge) × gP))
 | 0,_,_,_,_,_=>none
 | k+1,b,c,d,a,h=>
 if a=0 then
  (mE fu (⟨b,c,d,a⟩:gP) 0 (⟨#[44]⟩:BA)).bind fun i=>
  if i=true then
   (l5 fu (⟨b,(wr (c+1)),d,a⟩:gP) 1 0).bind fun o=>
   jy o fun j f=>
   (app h ([j]:List Ge)).bind fun m=>
   oZ fu k f.l f.a f.c f.e m
  else
   some (.go (b,c,d,a,h))
 else
  some (.go (b,c,d,a,h))
def sN (fu:Nat)(a:gP):Option (Ld (List Ge × List jX × Int × Int × Int) ((List Ge) × gP)):=
 if a.e=0 then
  (mE fu a 0 (⟨#[41]⟩:BA)).bind fun j=>
  if (!j)=true then
   (l5 fu a 1 0).bind fun p=>
   jy p fun k b=>
   (app ([]:List Ge) ([k]:List Ge)).bind fun m=>
   (oZ fu fu b.l b.a b.c b.e m).bind fun p=>p.el (fun p=>
   jy p fun c p=>jy p fun d p=>jy p fun f p=>jy p fun h i=>
   some (.go (i,c,d,f,h))
   ) (fun o=>some (.out o))
  else
   some (.go (([]:List Ge),a.l,a.a,a.c,a.e))
 else
  some (.go (([]:List Ge),a.l,a.a,a.c,a.e))
def sP (fu:Nat)(i:gP):Option ((List Ge) × gP):=
 (lJ fu i (⟨#[40]⟩:BA)).bind fun b=>
 (sN fu b).bind fun j=>j.el (fun j=>
 jy j fun c j=>jy j fun d j=>jy j fun e j=>jy j fun f h=>
 (lJ fu (⟨d,e,f,h⟩:gP) (⟨#[41]⟩:BA)).bind fun a=>
 some (c,a)
 ) (fun o=>some o)
theorem DT (fu:Nat):DL (sP fu):=by
 intro w0 aR x0 K v x R hP J
 unfold sP at J
 have c:=hP.bx
 clear hP
 generalize hG:lT _=G at c ⊢
 refine cf Try.func127 r (lK [(0,Pt K)] ⟨r,y⟩ fun aS=>q (g (s (nk r) (n (q (g (s (nk r) (n (q (g (s (mp r) ?_)))))))))))
 obtain ⟨A,h1,J⟩:=bs J
 refine sc (ec vV r) (lU fu (c.pr [0] [] [0] r) h1) ?_
 rintro _ w1 ⟨rfl,U⟩
 replace c:=c.cn [0] [] U
 refine n (q ?_)
 replace c:=c.Ca Ge 138
 obtain ⟨Y3,b,J⟩:=bs J
 refine oq (fun f w=>∃ (N:List Ge) (E:OA)(F:Nat)(H:LV)(Q:List jX) (W:Int)(X:Int)(Y:Int),Has f [(0,Pt K),(3,Z E N F)]∧Bx w0 w aR G [O w0.heap.size E F 138 Ge H,.box K 102 #[Z v Q x,V W,V X,V Y]] [.l v x Q,.els H N]∧Ld.go (N,Q,W,X,Y)=Y3) (fun J3 a2=>?_) ?_
 ·unfold sN at b
  refine q (g (s (mp r) (s (xn r) (s (qY r) (s (BM r (c.bk 1 r) r) (s (kD r r) (s (kL r) ?_)))))))
  rcases iv b with ⟨h4,b⟩|⟨h4,b⟩
  ·rw [decide_eq_true h4]
   refine kg r (s (mp r) ?_)
   obtain ⟨aq,h5,b⟩:=bs b
   refine kg r (sc (ec vv r) (mY fu (c.pr [1] [0] [1] r) h5) ?_)
   rintro _ w5 ⟨rfl,U⟩
   replace c:=c.cn [1] [0] U
   refine kg r (s (Al r) (s (kr r r) (n ?_)))
   rcases iv b with ⟨h6,b⟩|⟨h6,b⟩
   ·refine jN (cb h6) (q (g (s (nC r) (s (mp r) ?_))))
    obtain ⟨B,S,h7,b⟩:=lZ b
    refine sc (ec Aq r) (rC fu (c.pr [0] [1] [2] r) h7) ?_
    rintro _ w7 ⟨L,M,rfl,U⟩
    replace c:=c.cn [0] [1] U
    refine nU (jP c [[V B.e,V B.d,V B.g,T B.b,T B.c,Z L B.a M]] ([B]:List Ge) (kS r) r r (by decide) ⟨(jB.inn ⟨L,M,r,(c.dl 0 r)⟩),y⟩) ?_
    rintro _ w8 ⟨b8,rfl,c⟩
    obtain ⟨r9,ae,b⟩:=bs b
    refine nU (kP c 2 4 r r tY jU r (by decide) (by decide) (Nat.le_refl _) r r (c.zP 0 0 r r) ae) ?_
    rintro _ w9 ⟨A9,C9,Q9,rfl,c⟩
    refine s (nk r) (n ?_)
    obtain ⟨a7,a,b⟩:=bs b
    refine oq (fun f w=>∃ (d:List jX) (o:Int)(t:Int)(u:Int)(p:List Ge) (h:OA)(j:Nat)(m:LV),Has f [(0,Pt K),(3,Z h p j)]∧Bx w0 w aR G [.box K 102 #[Z v d x,V o,V t,V u],O w0.heap.size h j 138 Ge m] [.l v x d,.els m p]∧Ld.go (d,o,t,u,p)=a7) (fun aB a1=>?_) ?_
    ·refine oM (kM (fun aT f w=>∃ (d:List jX) (o:Int)(t:Int)(u:Int)(p:List Ge) (h:OA)(j:Nat)(m:LV),Has f [(0,Pt K),(3,Z h p j)]∧Bx w0 w aR G [.box K 102 #[Z v d x,V o,V t,V u],O w0.heap.size h j 138 Ge m] [.l v x d,.els m p]∧oZ fu aT d o t u p=some a7) fu ⟨S.l,S.a,S.c,S.e,r9,A9,C9,Q9,⟨r,r,y⟩,(c.ad [1,2] [2,4]),a⟩ ?_)
     clear c a
     rintro a3 f w ⟨d,o,t,u,p,h,j,m,hf,c,a⟩ aC a8
     obtain ⟨aS,rfl⟩:=iA _ _ hf
     clear hf
     cases a3 with
     | zero=>exact nn a
     | succ a3=>
      rw [oZ] at a
      refine q (q (g (s (mp r) (s (xn r) (s (qY r) (s (BM r (c.bk 0 r) r) (s (kD r r) (s (kL r) ?_))))))))
      rcases iv a with ⟨a4,a⟩|⟨a4,a⟩
      ·rw [decide_eq_true a4]
       refine kg r (s (mp r) ?_)
       obtain ⟨af,ag,a⟩:=bs a
       refine kg r (sc (ec vv r) (mY fu (c.pr [0] [1] [0] r) ag) ?_)
       rintro _ aD ⟨rfl,U⟩
       replace c:=c.cn [0] [1] U
       refine s (kr r r) (n ?_)
       rcases iv a with ⟨a0,a⟩|⟨a0,a⟩
       ·refine jN (cb a0) (wk (oM (q (g (s (mp r) (s (xn r) (s (l7 r) (s (l3 r (c.bk 0 r) r) (s (kE r r) (s (xn r) (s (l7 r) (lg (t_n c 0 [V (wr (o+1))] r nO r r) fun aE c=>n (g (s (nC r) (s (mp r) ?_)))))))))))))))
        obtain ⟨z,I,ah,a⟩:=lZ a
        refine sc (ec Aq r) (rC fu (c.pr [0] [1] [1] r) ah) ?_
        rintro _ aF ⟨C,D,rfl,U⟩
        replace c:=c.cn [0] [1] U
        refine nU (jP c [[V z.e,V z.d,V z.g,T z.b,T z.c,Z C z.a D]] ([z]:List Ge) (kS r) r r (by decide) ⟨(jB.inn ⟨C,D,r,(c.dl 0 r)⟩),y⟩) ?_
        rintro _ aG ⟨aH,rfl,c⟩
        obtain ⟨ai,a9,a⟩:=bs a
        refine nU (kP c 2 5 r r tY jU r (by decide) (by decide) (Nat.le_refl _) r r (c.zP 0 0 r r) a9) ?_
        rintro _ aI ⟨aj,ak,al,rfl,c⟩
        exact s (nk r) (n (a8 a3 _ _ (Nat.lt_succ_self _) ⟨I.l,I.a,I.c,I.e,ai,aj,ak,al,⟨r,r,y⟩,(c.ad [1,2] [2,5]),a⟩))
       replace a0:=nt a0
       exact jK (cb a0) (tT (a1 _ _ ⟨d,o,t,u,p,h,j,m,⟨r,r,y⟩,(c.dp [1,2]),sm a⟩))
      rw [decide_eq_false a4]
      exact jC r (jC r (s (jY r r) (n (jK r (tT (a1 _ _ ⟨d,o,t,u,p,h,j,m,⟨r,r,y⟩,c,sm a⟩))))))
    clear c
    rintro f w ⟨d,o,t,u,p,h,j,m,hf,c,aa⟩
    obtain ⟨aS,rfl⟩:=iA _ _ hf
    clear hf
    subst aa
    replace b:=gi b
    replace b:=pi (mG b)
    exact a2 _ _ ⟨p,h,j,m,d,o,t,u,⟨r,r,y⟩,(c.arr [1,0] r),sm b⟩
   replace h6:=nt h6
   exact jK (cb h6) (wk (a2 _ _ ⟨([]:List Ge),none,0,[],A.l,A.a,A.c,A.e,⟨r,r,y⟩,(c.ad [1,0] [2,1]),sm b⟩))
  rw [decide_eq_false h4]
  exact jC r (jC r (jC r (s (jY r r) (n (jK r (wk (a2 _ _ ⟨([]:List Ge),none,0,[],A.l,A.a,A.c,A.e,⟨r,r,y⟩,(c.dp [1,0]),sm b⟩)))))))
 clear c
 rintro f w ⟨N,E,F,H,Q,W,X,Y,hf,c,am⟩
 obtain ⟨aS,rfl⟩:=iA _ _ hf
 clear hf
 subst am
 replace J:=gi J
 replace J:=pi (mG J)
 refine q (g (s (mp r) ?_))
 obtain ⟨an,ao,J⟩:=bs J
 refine sc (ec vV r) (lU fu (c.pr [1] [0] [0] r) ao) ?_
 rintro _ aJ ⟨rfl,U⟩
 replace c:=c.cn [1] [0] U
 refine n (q (g (s (nC r) (s (nk r) (n (kT ?_))))))
 obtain rfl:=sm J
 exact jI r (lq r) (mM (⟨E,F,H,r,(c.ad [1,0] [2,0])⟩))
def II (m:gP→Gs→Option (gP × Gs)):Prop:=∀ {B:World} {C:Nat→Prop} {x:gP} {b:Gs} {z:Nat} {c:Option Addr} {d:Nat} {A:Nat} {f:Option Addr} {h:Nat} {i:Option Addr} {j:Nat} {k:Option Addr} {o:Nat} {p:Option Addr} {t:Nat} {R:gP × Gs},Pre B C [.box z 102 #[Z c x.l d,V x.a,V x.c,V x.e],.box A 111 #[V b.c,V b.f,V b.n,T b.b,T b.k,V b.m,V b.g,Z f b.d h,T b.j,V b.i,Z i b.a j,Z k b.e o,Z p b.h t]] [.l c d x.l,.l f h b.d,.l i j b.a,.l k o b.e,.l p t b.h]→m x b=some R→
 Calls Try.prog 111 #[Pt z,Pt A] B (qW fun v w=>jy R fun u a=>v=.tuple #[]∧Bx B w C (lT [.box z 102 #[Z c x.l d,V x.a,V x.c,V x.e],.box A 111 #[V b.c,V b.f,V b.n,T b.b,T b.k,V b.m,V b.g,Z f b.d h,T b.j,V b.i,Z i b.a j,Z k b.e o,Z p b.h t]]) [.box z 102 #[Z c u.l d,V u.a,V u.c,V u.e],.box A 111 #[V a.c,V a.f,V a.n,T a.b,T a.k,V a.m,V a.g,Z f a.d h,T a.j,V a.i,Z i a.a j,Z k a.e o,Z p a.h t]] [.l c d u.l,.l f h a.d,.l i j a.a,.l k o a.e,.l p t a.h])
def wB (fu:Nat)(a:jX):Option (Ld (Bool) (gP × Gs)):=
 if a.d < 1 then
  some (.go true)
 else
  some (.go (decide (8 < a.d)))
def yK (fu:Nat)(b:gP) (a:Gs):Option (gP × Gs):=
 if b.e≠0 then
  some (b,a)
 else
  (mE fu b 0 (⟨#[105,110,116]⟩:BA)).bind fun k=>
  if (!k)=true then
   (ow fu b).bind fun u=>
   jy u fun m p=>
   some (p,(⟨a.c,a.f,a.n,a.b,m,a.m,a.g,a.d,a.j,a.i,a.a,a.e,a.h⟩:Gs))
  else
   (mE fu (⟨b.l,(wr (b.a+1)),b.c,b.e⟩:gP) 0 (⟨#[91]⟩:BA)).bind fun t=>
   if (!t)=true then
    some ((⟨b.l,(wr (b.a+1)),b.c,b.e⟩:gP),a)
   else
    (oU fu (⟨b.l,(wr ((wr (b.a+1))+1)),b.c,b.e⟩:gP) 0 2).bind fun c=>
    if (!c)=true then
     (oV fu (⟨b.l,(wr ((wr (b.a+1))+1)),b.c,b.e⟩:gP) 7).bind fun d=>
     some (d,a)
    else
     (ix b.l (wr ((wr (b.a+1))+1))).bind fun f=>
     (wB fu f).bind fun u=>u.el (fun h=>
     if h=true then
      (oV fu (⟨b.l,(wr ((wr (b.a+1))+1)),b.c,b.e⟩:gP) 5).bind fun i=>
      some (i,(⟨a.c,a.f,a.n,a.b,a.k,f.d,a.g,a.d,a.j,a.i,a.a,a.e,a.h⟩:Gs))
     else
      (lJ fu (⟨b.l,(wr ((wr ((wr (b.a+1))+1))+1)),b.c,b.e⟩:gP) (⟨#[93]⟩:BA)).bind fun j=>
      some (j,(⟨a.c,a.f,a.n,a.b,a.k,f.d,a.g,a.d,a.j,a.i,a.a,a.e,a.h⟩:Gs))
     ) (fun o=>some o)
theorem IW (fu:Nat):II (yK fu):=by
 intro w0 az m b K d j N o p t u v x z A R hP c
 unfold yK at c
 have a:=hP.bx
 clear hP
 generalize hG:lT _=G at a ⊢
 refine cf Try.func111 r (lK [(0,Pt K),(1,Pt N)] ⟨r,r,y⟩ fun aA=>q (q (g (s (mp r) (s (xn r) (s (qY r) (s (BM r (a.bk 0 r) r) (s (rY r r) (n ?_)))))))))
 rcases iv c with ⟨Y,c⟩|⟨Y,c⟩
 ·refine jN (bt Y) (kT ?_)
  obtain rfl:=sm c
  exact ze (P:=Try.prog) (fn:=Try.f111) r (mM (⟨r,a⟩))
 refine jK (bf Y) (wk (q (q (g (s (mp r) ?_)))))
 obtain ⟨aa,h2,c⟩:=bs c
 refine sc (ec vv r) (mY fu (a.pr [0] [1] [0] r) h2) ?_
 rintro _ w2 ⟨rfl,H⟩
 replace a:=a.cn [0] [1] H
 refine s (Al r) (n ?_)
 rcases iv c with ⟨S,c⟩|⟨S,c⟩
 ·refine jN (cb S) (q (g (s (mp r) (s (mp r) ?_))))
  obtain ⟨L,ab,h4,c⟩:=lZ c
  refine sc (ec Cc r) (qB fu (a.pr [0] [1] [1] r) h4) ?_
  rintro _ w4 ⟨rfl,H⟩
  replace a:=a.cn [0] [1] H
  refine s (xn r) (s (F9 r) (lg (t_n a 1 [T L] r oQ r r) fun w5 a=>n (kT ?_)))
  obtain rfl:=sm c
  exact ze (P:=Try.prog) (fn:=Try.f111) r (mM (⟨r,(a.dp [0,3,4,5,6])⟩))
 replace S:=nt S
 refine jK (cb S) (wk (q (g (s (mp r) (s (xn r) (s (l7 r) (s (l3 r (a.bk 0 r) r) (s (kE r r) (s (xn r) (s (l7 r) (lg (t_n a 0 [V (wr (m.a+1))] r nO r r) fun w6 a=>n (q (q (g (s (mp r) ?_)))))))))))))))
 obtain ⟨ac,h7,c⟩:=bs c
 refine sc (ec vv r) (mY fu (a.pr [0] [1] [1] r) h7) ?_
 rintro _ w7 ⟨rfl,H⟩
 replace a:=a.cn [0] [1] H
 refine s (Al r) (n ?_)
 rcases iv c with ⟨U,c⟩|⟨U,c⟩
 ·refine jN (cb U) (kT ?_)
  obtain rfl:=sm c
  exact ze (P:=Try.prog) (fn:=Try.f111) r (mM (⟨r,(a.dp [2,3,4,5,6])⟩))
 replace U:=nt U
 refine jK (cb U) (wk (q (g (s (mp r) (s (xn r) (s (l7 r) (s (l3 r (a.bk 0 r) r) (s (kE r r) (s (xn r) (s (l7 r) (lg (t_n a 0 [V (wr ((wr (m.a+1))+1))] r nO r r) fun w9 a=>n (q (q (g (s (mp r) ?_)))))))))))))))
 obtain ⟨a0,a1,c⟩:=bs c
 refine sc (ec Dk r) (rH fu (a.pr [0] [1] [2] r) a1) ?_
 rintro _ ai ⟨rfl,H⟩
 replace a:=a.cn [0] [1] H
 refine s (Al r) (n ?_)
 rcases iv c with ⟨I,c⟩|⟨I,c⟩
 ·refine jN (cb I) (q (g (s (mp r) ?_)))
  obtain ⟨a2,a3,c⟩:=bs c
  refine sc (ec CP r) (q8 fu (a.pr [0] [1] [3] r) a3) ?_
  rintro _ aj ⟨rfl,H⟩
  replace a:=a.cn [0] [1] H
  refine n (kT ?_)
  obtain rfl:=sm c
  exact ze (P:=Try.prog) (fn:=Try.f111) r (mM (⟨r,(a.dp [0,5,6,7,8])⟩))
 replace I:=nt I
 refine jK (cb I) (wk (q (pX a [0] [3] [] (by kernel_rfl) ?_)))
 replace a:=a.drew
 have D:=(a.ad [0] [3])
 refine pF 0 r (mp r) D (pF 1 r (mp r) D (pF 2 r (xn r) D (pF 3 r (yV r) D (uF 4 r (fun hS=>OL r (hS.bk 0 r) r) D (pF 5 r (mp r) D (pF 6 r (xn r) D (pF 7 r (l7 r) D (uF 8 r (fun hS=>l3 r (hS.bk 0 r) r) D ?_))))))))
 obtain ⟨C,F,c⟩:=bs c
 obtain ⟨ak,W,F⟩:=kJ F
 refine pF 9 r (kW Cr pQ r r W (a.dl 3 r) F) D (pF 10 r (PO r) D (tU 11 r (fun _ hS=>jT EC r r ((uy (ds:=[V C.c,V C.f,T C.a,V C.d]) (hS.dl 0 r) F (fun _ h=>h)) 3 _ r)) (sF D) (pF 12 r (xn r) D (pF 13 r (BD r) D (hO 14 (os r r (t_n a 1 [V C.d] r nO r r) fun al a=>?_))))))
 have D:=(a.ad [0] [3])
 refine ⟨(sF D),(hD (q (q ?_)))⟩
 obtain ⟨a4,B,c⟩:=bs c
 refine oq (fun f w=>∃ (E:Bool),Has f [(0,Pt K),(64,.bool E)]∧Bx w0 w az G [.box K 102 #[Z d m.l j,V (wr ((wr (m.a+1))+1)),V m.c,V m.e],.box N 111 #[V b.c,V b.f,V b.n,T b.b,T b.k,V C.d,V b.g,Z o b.d p,T b.j,V b.i,Z t b.a u,Z v b.e x,Z z b.h A]] [.l d j m.l,.l o p b.d,.l t u b.a,.l v x b.e,.l z A b.h]∧Ld.go E=a4) (fun am M=>?_) ?_
 ·unfold wB at B
  refine g (s (mp r) (s (xn r) (s (BD r) (s (l3 r (a.bk 1 r) r) (s (qo r r) (s (kL r) ?_))))))
  rcases iv B with ⟨Q,B⟩|⟨Q,B⟩
  ·rw [decide_eq_true Q]
   exact jC r (jC r (jC r (jC r (jC r (s (kr r r) (n (M _ _ ⟨true,⟨r,r,y⟩,(a.dp [3,4,5,6,7]),sm B⟩)))))))
  rw [decide_eq_false Q]
  exact kg r (s (mp r) (kg r (s (xn r) (kg r (s (BD r) (kg r (s (l3 r (a.bk 1 r) r) (kg r (s (uX r r) (s (jY r r) (n (M _ _ ⟨(decide (8 < C.d)),⟨r,r,y⟩,(a.dp [3,4,5,6,7]),sm B⟩))))))))))))
 clear a
 rintro f w ⟨E,hf,a,X⟩
 obtain ⟨aA,rfl⟩:=iA _ _ hf
 clear hf
 subst X
 replace c:=gi c
 rcases iv c with ⟨J,c⟩|⟨J,c⟩
 ·refine jN (cb J) (q (g (s (mp r) ?_)))
  obtain ⟨a5,a6,c⟩:=bs c
  refine sc (ec CP r) (q8 fu (a.pr [0] [1] [0] r) a6) ?_
  rintro _ an ⟨rfl,H⟩
  replace a:=a.cn [0] [1] H
  refine n (kT ?_)
  obtain rfl:=sm c
  exact ze (P:=Try.prog) (fn:=Try.f111) r (mM (⟨r,(a.dp [0,2,3,4,5])⟩))
 replace J:=nt J
 refine jK (cb J) (wk (q (g (s (mp r) (s (xn r) (s (l7 r) (s (l3 r (a.bk 0 r) r) (s (kE r r) (s (xn r) (s (l7 r) (lg (t_n a 0 [V (wr ((wr ((wr (m.a+1))+1))+1))] r nO r r) fun ao a=>n (g (s (mp r) ?_)))))))))))))
 obtain ⟨a7,a8,c⟩:=bs c
 refine sc (ec vV r) (lU fu (a.pr [0] [1] [0] r) a8) ?_
 rintro _ ap ⟨rfl,H⟩
 replace a:=a.cn [0] [1] H
 refine n ?_
 obtain rfl:=sm c
 exact ze (P:=Try.prog) (fn:=Try.f111) r (mM (⟨r,(a.dp [0,2,3,4,5])⟩))
def Jw (m:gP→Gs→Bool→Option (gP × Gs)):Prop:=∀ {D:World} {F:Nat→Prop} {A:gP} {b:Gs} {E:Bool} {B:Nat} {c:Option Addr} {d:Nat} {C:Nat} {f:Option Addr} {h:Nat} {p:Option Addr} {t:Nat} {i:Option Addr} {j:Nat} {k:Option Addr} {o:Nat} {R:gP × Gs},Pre D F [.box B 102 #[Z c A.l d,V A.a,V A.c,V A.e],.box C 111 #[V b.c,V b.f,V b.n,T b.b,T b.k,V b.m,V b.g,Z f b.d h,T b.j,V b.i,Z p b.a t,Z i b.e j,Z k b.h o]] [.l c d A.l,.l f h b.d,.l p t b.a,.l i j b.e,.l k o b.h]→m A b E=some R→
 Calls Try.prog 113 #[Pt B,Pt C,.bool E] D (qW fun v w=>jy R fun z a=>∃ (u:OA)(x:Nat),v=.tuple #[]∧Bx D w F (lT [.box B 102 #[Z c A.l d,V A.a,V A.c,V A.e],.box C 111 #[V b.c,V b.f,V b.n,T b.b,T b.k,V b.m,V b.g,Z f b.d h,T b.j,V b.i,Z p b.a t,Z i b.e j,Z k b.h o]]) [.box B 102 #[Z c z.l d,V z.a,V z.c,V z.e],.box C 111 #[V a.c,V a.f,V a.n,T a.b,T a.k,V a.m,V a.g,Z f a.d h,T a.j,V a.i,Z u a.a x,Z i a.e j,Z k a.h o]] [.l c d z.l,.l f h a.d,.l u x a.a,.l i j a.e,.l k o a.h])
def xw (fu:Nat)(i:gP) (a:Gs) (j:Bool):Option (Ld (Unit) (gP × Gs)):=
 if i.e=0 then
  if j=true then
   (sH fu i).bind fun b=>
   if b=true then
    (ow fu i).bind fun k=>
    jy k fun c d=>
    (sP fu d).bind fun k=>
    jy k fun f h=>
    some (.out (h,(⟨a.c,a.f,a.n,a.b,a.k,a.m,a.g,a.d,c,a.i,f,a.e,a.h⟩:Gs)))
   else
    some (.go ())
  else
   some (.go ())
 else
  some (.go ())
def rA (fu:Nat)(d:gP) (a:Gs) (e:Bool):Option (gP × Gs):=
 (xw fu d a e).bind fun f=>f.el (fun _=>
 (l5 fu d 1 0).bind fun f=>
 jy f fun b c=>
 some (c,(⟨a.c,a.f,a.n,a.b,a.k,a.m,a.g,a.d,a.j,a.i,([b]:List Ge),a.e,a.h⟩:Gs))
 ) (fun o=>some o)
theorem wY (fu:Nat):Jw (rA fu):=by
 intro w0 am H a x2 I C D J h j A B m o p t R hP E
 unfold rA at E
 have c:=hP.bx
 clear hP
 generalize hG:lT _=G at c ⊢
 refine cf Try.func113 r (lK [(0,Pt I),(1,Pt J),(2,.bool x2)] ⟨r,r,r,y⟩ fun an=>q ?_)
 obtain ⟨Y1,b,E⟩:=bs E
 refine oq (fun f w=>Has f [(0,Pt I),(1,Pt J)]∧Bx w0 w am G [.box I 102 #[Z C H.l D,V H.a,V H.c,V H.e],.box J 111 #[V a.c,V a.f,V a.n,T a.b,T a.k,V a.m,V a.g,Z h a.d j,T a.j,V a.i,Z A a.a B,Z m a.e o,Z p a.h t]] [.l C D H.l,.l h j a.d,.l A B a.a,.l m o a.e,.l p t a.h]∧Ld.go ()=Y1) (fun J1 L=>?_) ?_
 ·unfold xw at b
  refine q (g (s (mp r) (s (xn r) (s (qY r) (s (BM r (c.bk 0 r) r) (s (kD r r) (s (kL r) ?_)))))))
  rcases iv b with ⟨W,b⟩|⟨W,b⟩
  ·rw [decide_eq_true W]
   refine kg r (s (kL r) (s (kr r r) (s (kL r) ?_)))
   rcases iv b with ⟨Q,b⟩|⟨Q,b⟩
   ·rw [Q]
    refine kg r (s (mp r) ?_)
    obtain ⟨a4,h4,b⟩:=bs b
    refine kg r (sc (ec QO r) (Ej fu (c.pr [0] [1] [0] r) h4) ?_)
    rintro _ w4 ⟨rfl,M⟩
    replace c:=c.cn [0] [1] M
    refine s (kr r r) (n ?_)
    rcases iv b with ⟨S,b⟩|⟨S,b⟩
    ·refine jN (cb S) (q (g (s (mp r) (s (mp r) ?_))))
     obtain ⟨F,a5,h6,b⟩:=lZ b
     refine sc (ec Cc r) (qB fu (c.pr [0] [1] [1] r) h6) ?_
     rintro _ w6 ⟨rfl,M⟩
     replace c:=c.cn [0] [1] M
     refine s (xn r) (s (Cv r) (lg (t_n c 1 [T F] r oQ r r) fun w7 c=>n (q (g (s (mp r) (s (mp r) ?_))))))
     obtain ⟨K,a6,h8,b⟩:=lZ b
     refine sc (ec Vf r) (DT fu (c.pr [0] [1] [0] r) h8) ?_
     rintro _ w8 ⟨u,v,U,rfl,M⟩
     have X:=c.rD.size
     replace c:=c.cn [0] [1] M
     replace c:=c.rb 0 w0.heap.size r X
     refine s (xn r) (s (uT r) (lg (t_n c 2 [Z u K v] r uw r r) fun w9 c=>n (kT ?_)))
     replace c:=c.fz 0 0 r r
     obtain rfl:=sm b
     replace E:=oi E
     obtain rfl:=sm E
     exact ze (P:=Try.prog) (fn:=Try.f113) r (mM (⟨u,v,r,(c.dp [1,5,0,7,8])⟩))
    replace S:=nt S
    exact jK (cb S) (wk (L _ _ ⟨⟨r,r,y⟩,(c.dp [1,2,3,4,5]),sm b⟩))
   replace Q:=nt Q
   rw [Q]
   exact jC r (jC r (s (jY r r) (n (jK r (wk (L _ _ ⟨⟨r,r,y⟩,c,sm b⟩))))))
  rw [decide_eq_false W]
  exact jC r (s (jY r r) (s (kL r) (jC r (jC r (s (jY r r) (n (jK r (wk (L _ _ ⟨⟨r,r,y⟩,c,sm b⟩)))))))))
 clear c
 rintro f w ⟨hf,c,Y⟩
 obtain ⟨an,rfl⟩:=iA _ _ hf
 clear hf
 subst Y
 replace E:=gi E
 refine g (s (mp r) (s (mp r) ?_))
 obtain ⟨d,a0,a1,E⟩:=lZ E
 refine sc (ec Aq r) (rC fu (c.pr [0] [1] [0] r) a1) ?_
 rintro _ ac ⟨x,z,rfl,M⟩
 replace c:=c.cn [0] [1] M
 refine nU (jP c [[V d.e,V d.d,V d.g,T d.b,T d.c,Z x d.a z]] ([d]:List Ge) (kS r) r r (by decide) ⟨(jB.inn ⟨x,z,r,(c.dl 0 r)⟩),y⟩) ?_
 rintro _ ae ⟨N,rfl,c⟩
 refine s (xn r) (s (uT r) (lg (t_n c 2 [.slice (ad N) ([d]:List Ge).length 1] r uw r r) fun af c=>n ?_))
 replace c:=c.fz 0 0 r r
 obtain rfl:=sm E
 exact ze (P:=Try.prog) (fn:=Try.f113) r (mM (⟨(ad N),1,r,(c.dp [2,4,0,6,7])⟩))
def G9 (m:gP→Gs→Option (gP × Gs)):Prop:=∀ {F:World} {G:Nat→Prop} {C:gP} {b:Gs} {D:Nat} {c:Option Addr} {d:Nat} {E:Nat} {k:Option Addr} {o:Nat} {p:Option Addr} {t:Nat} {f:Option Addr} {h:Nat} {i:Option Addr} {j:Nat} {R:gP × Gs},Pre F G [.box D 102 #[Z c C.l d,V C.a,V C.c,V C.e],.box E 111 #[V b.c,V b.f,V b.n,T b.b,T b.k,V b.m,V b.g,Z k b.d o,T b.j,V b.i,Z p b.a t,Z f b.e h,Z i b.h j]] [.l c d C.l,.l k o b.d,.l p t b.a,.l f h b.e,.l i j b.h]→m C b=some R→
 Calls Try.prog 114 #[Pt D,Pt E] F (qW fun v w=>jy R fun B a=>∃ (u:OA)(x:Nat)(z:OA)(A:Nat),v=.tuple #[]∧Bx F w G (lT [.box D 102 #[Z c C.l d,V C.a,V C.c,V C.e],.box E 111 #[V b.c,V b.f,V b.n,T b.b,T b.k,V b.m,V b.g,Z k b.d o,T b.j,V b.i,Z p b.a t,Z f b.e h,Z i b.h j]]) [.box D 102 #[Z c B.l d,V B.a,V B.c,V B.e],.box E 111 #[V a.c,V a.f,V a.n,T a.b,T a.k,V a.m,V a.g,Z u a.d x,T a.j,V a.i,Z z a.a A,Z f a.e h,Z i a.h j]] [.l c d B.l,.l u x a.d,.l z A a.a,.l f h a.e,.l i j a.h])
def wM (fu:Nat)(k:gP) (b:Gs):Option (gP × Gs):=
 (sH fu k).bind fun d=>
 if d=true then
  (rA fu k (⟨3,b.f,b.n,b.b,b.k,b.m,b.g,b.d,b.j,b.i,b.a,b.e,b.h⟩:Gs) true).bind fun l=>
  jy l fun e f=>
  some (e,f)
 else
  (sI fu k 0).bind fun l=>
  jy l fun h i=>
  (lJ fu i (⟨#[61]⟩:BA)).bind fun j=>
  (rA fu j (⟨3,b.f,b.n,b.b,b.k,b.m,b.g,([h]:List Ge),b.j,b.i,b.a,b.e,b.h⟩:Gs) true).bind fun l=>
  jy l fun c a=>
  if a.j=(⟨#[]⟩:BA) then
   some (c,(⟨2,a.f,a.n,a.b,a.k,a.m,a.g,a.d,a.j,a.i,a.a,a.e,a.h⟩:Gs))
  else
   some (c,a)
theorem G5 (fu:Nat):G9 (wM fu):=by
 intro w0 ag M c I E F J w x z A m o p t R S j
 unfold wM at j
 have b:=S.bx
 clear S
 generalize hG:lT _=G at b ⊢
 refine cf Try.func114 r (lK [(0,Pt I),(1,Pt J)] ⟨r,r,y⟩ fun ah=>q (g (s (mp r) (s (xn r) (s (xP r) (lg (t_n b 1 [V 3] r nO r r) fun w1 b=>n (q (q (g (s (mp r) ?_))))))))))
 obtain ⟨U,h2,j⟩:=bs j
 refine sc (ec QO r) (Ej fu (b.pr [0] [1] [0] r) h2) ?_
 rintro _ w2 ⟨rfl,D⟩
 replace b:=b.cn [0] [1] D
 refine n ?_
 rcases iv j with ⟨K,j⟩|⟨K,j⟩
 ·refine jN (cb K) (q (g (s (mp r) (s (mp r) ?_))))
  obtain ⟨W,X,h4,j⟩:=lZ j
  refine sc (ec Fb r) (wY fu (b.pr [0,1] [] [1,2,3,4,5] r) h4) ?_
  rintro _ w4 ⟨B,C,rfl,D⟩
  replace b:=b.cn [0,1] [] D
  refine n (kT ?_)
  obtain rfl:=sm j
  exact ze (P:=Try.prog) (fn:=Try.f114) r (mM (⟨w,x,B,C,r,(b.dp [0,1,2,3,4])⟩))
 replace K:=nt K
 refine jK (cb K) (wk (q (g (s (mp r) (s (mp r) ?_)))))
 obtain ⟨h,Y,h5,j⟩:=lZ j
 refine sc (ec QU r) (Hg fu (b.pr [0] [1] [1] r) h5) ?_
 rintro _ w5 ⟨u,v,rfl,D⟩
 replace b:=b.cn [0] [1] D
 refine nU (jP b [[V h.e,V h.d,V h.g,T h.b,T h.c,Z u h.a v]] ([h]:List Ge) (kS r) r r (by decide) ⟨(jB.inn ⟨u,v,r,(b.dl 0 r)⟩),y⟩) ?_
 rintro _ w6 ⟨L,rfl,b⟩
 refine s (xn r) (s (xK r) (lg (t_n b 2 [.slice (ad L) ([h]:List Ge).length 1] r uw r r) fun w7 b=>n (q (g (s (mp r) ?_)))))
 obtain ⟨a0,h8,j⟩:=bs j
 refine sc (ec vV r) (lU fu (b.pr [1] [0,2] [2] r) h8) ?_
 rintro _ w8 ⟨rfl,D⟩
 replace b:=b.cn [1] [0,2] D
 refine n (q (g (s (mp r) (s (mp r) ?_))))
 replace b:=b.fz 1 1 r r
 obtain ⟨N,a,Q,j⟩:=lZ j
 refine sc (ec Fb r) (wY fu (b.pr [0,1] [] [1,0,7,8,9] r) Q) ?_
 rintro _ a5 ⟨d,f,rfl,D⟩
 replace b:=b.cn [0,1] [] D
 refine n (q (g (s (mp r) (s (xn r) (s (Cv r) (s (l9 r (b.bk 1 r) r) (s (rR r r) (n ?_))))))))
 rcases iv j with ⟨H,j⟩|⟨H,j⟩
 ·refine jN (bt H) (g (s (mp r) (s (xn r) (s (xP r) (lg (t_n b 1 [V 2] r nO r r) fun a6 b=>n ?_)))))
  obtain rfl:=sm j
  exact ze (P:=Try.prog) (fn:=Try.f114) r (mM (⟨(ad L),1,d,f,r,(b.dp [0,1,2,3,4])⟩))
 refine jK (bf H) (wk ?_)
 obtain rfl:=sm j
 exact ze (P:=Try.prog) (fn:=Try.f114) r (mM (⟨(ad L),1,d,f,r,(b.dp [0,1,2,3,4])⟩))
abbrev uz:=gP→Int→Option ((List jD) × Int × gP)
abbrev qc:=gP→Int→Option (jD × gP)
def wZ (m:gP→Int→Option ((List Gs) × Int × gP)):Prop:=∀ {k:World} {u:Nat→Prop} {i:gP} {o:Int} {j:Nat} {a:Option Addr} {b:Nat} {R:(List Gs) × Int × gP},Pre k u [.box j 102 #[Z a i.l b,V i.a,V i.c,V i.e]] [.l a b i.l]→m i o=some R→
 Calls Try.prog 66 #[Pt j,V o] k (qW fun v w=>jy R fun p R=>jy R fun t c=>∃ (d:OA)(f:Nat)(h:LV),v=.tuple #[Z d p f,V t]∧Bx k w u (lT [.box j 102 #[Z a i.l b,V i.a,V i.c,V i.e]]) [O k.heap.size d f 111 Gs h,.box j 102 #[Z a c.l b,V c.a,V c.c,V c.e]] [.els h p,.l a b c.l])
def uN (m:gP→Int→Option (Gs × gP)):Prop:=∀ {z:World} {B:Nat→Prop} {u:gP} {A:Int} {x:Nat} {a:Option Addr} {b:Nat} {R:Gs × gP},Pre z B [.box x 102 #[Z a u.l b,V u.a,V u.c,V u.e]] [.l a b u.l]→m u A=some R→
 Calls Try.prog 94 #[Pt x,V A] z (qW fun v w=>jy R fun c d=>∃ (f:OA)(h:Nat)(i:OA)(j:Nat)(k:OA)(o:Nat)(p:OA)(t:Nat),v=.agg #[V c.c,V c.f,V c.n,T c.b,T c.k,V c.m,V c.g,Z f c.d h,T c.j,V c.i,Z i c.a j,Z k c.e o,Z p c.h t]∧Bx z w B (lT [.box x 102 #[Z a u.l b,V u.a,V u.c,V u.e]]) [.box x 102 #[Z a d.l b,V d.a,V d.c,V d.e]] [.l f h c.d,.l i j c.a,.l k o c.e,.l p t c.h,.l a b d.l])
def pJ (fu:Nat)(r_r03_block:uz) (r_r03_statement:qc) (m:Int):Nat→(List Gs)→(List jX)→Int→Int→Int→Option (Ld (List Gs × List jX × Int × Int × Int) ((List Gs) × Int × gP))
 | 0,_,_,_,_,_=>none
 | t+1,i,b,c,d,a=>
 if a=0 then
  (mE fu (⟨b,c,d,a⟩:gP) 0 (⟨#[125]⟩:BA)).bind fun o=>
  if (!o)=true then
   (wS fu (⟨b,c,d,a⟩:gP)).bind fun p=>
   if (!p)=true then
    (oV fu (⟨b,c,d,a⟩:gP) 7).bind fun j=>
    pJ fu r_r03_block r_r03_statement m t i j.l j.a j.c j.e
   else
    if 8 < m then
     (oV fu (⟨b,c,d,a⟩:gP) 5).bind fun f=>
     pJ fu r_r03_block r_r03_statement m t i f.l f.a f.c f.e
    else
     (r_r03_statement (⟨b,c,d,a⟩:gP) m).bind fun v=>
     jy v fun k h=>
     (app i ([k]:List Gs)).bind fun u=>
     pJ fu r_r03_block r_r03_statement m t u h.l h.a h.c h.e
  else
   some (.go (i,b,c,d,a))
 else
  some (.go (i,b,c,d,a))
def wC (fu:Nat)(r_r03_block:uz) (r_r03_statement:qc) (a:List jX) (b:Int)(c:Int):Option (Ld (Int) ((List Gs) × Int × gP)):=
 if c=0 then
  (ix a b).bind fun d=>
  some (.go d.f)
 else
  some (.go 0)
def yJ (fu:Nat)(r_r03_block:uz) (r_r03_statement:qc) (k:gP) (m:Int):Option ((List Gs) × Int × gP):=
 (lJ fu k (⟨#[123]⟩:BA)).bind fun a=>
 (pJ fu r_r03_block r_r03_statement m fu ([]:List Gs) a.l a.a a.c a.e).bind fun p=>p.el (fun p=>
 jy p fun i p=>jy p fun b p=>jy p fun c p=>jy p fun j d=>
 (wC fu r_r03_block r_r03_statement b c d).bind fun p=>p.el (fun f=>
 (lJ fu (⟨b,c,j,d⟩:gP) (⟨#[125]⟩:BA)).bind fun h=>
 some (i,f,h)
 ) (fun o=>some o)
 ) (fun o=>some o)
def sO (fu:Nat)(r_r03_block:uz) (r_r03_statement:qc) (b:gP) (c:jX):Option (Ld (BA × Int) (Gs × gP)):=
 (oU fu b 0 3).bind fun a=>
 if a=true then
  some (.go (c.a,(wr (b.a+1))))
 else
  some (.go ((⟨#[]⟩:BA),b.a))
def sQ (fu:Nat)(r_r03_block:uz) (r_r03_statement:qc) (b:gP) (x1:Int):Option (Gs × gP):=
 (ix b.l b.a).bind fun i=>
 (sO fu r_r03_block r_r03_statement b i).bind fun a7=>a7.el (fun a7=>
 jy a7 fun d c=>
 if d=(⟨#[118,97,114]⟩:BA) then
  (ow fu (⟨b.l,c,b.c,b.e⟩:gP)).bind fun a7=>
  jy a7 fun t u=>
  (lJ fu u (⟨#[58]⟩:BA)).bind fun v=>
  (yK fu v (⟨1,i.f,0,t,be,0,0,([]:List Ge),be,0,([]:List Ge),([]:List Gs),([]:List Gs)⟩:Gs)).bind fun a7=>
  jy a7 fun w x=>
  (lJ fu w (⟨#[59]⟩:BA)).bind fun z=>
  some (x,z)
 else
  if d=(⟨#[105,102]⟩:BA) then
   (l5 fu (⟨b.l,c,b.c,b.e⟩:gP) 1 0).bind fun a7=>
   jy a7 fun f A=>
   (r_r03_block A (wr (x1+1))).bind fun a7=>
   jy a7 fun h a7=>jy a7 fun a2 a=>
   if a.e=0 then
    (mE fu a 0 (⟨#[101,108,115,101]⟩:BA)).bind fun B=>
    if B=true then
     (r_r03_block (⟨a.l,(wr (a.a+1)),a.c,a.e⟩:gP) (wr (x1+1))).bind fun a7=>
     jy a7 fun C a7=>jy a7 fun a3 D=>
     some ((⟨4,i.f,0,be,be,0,0,([]:List Ge),be,0,([f]:List Ge),h,C⟩:Gs),D)
    else
     some ((⟨4,i.f,0,be,be,0,0,([]:List Ge),be,0,([f]:List Ge),h,([]:List Gs)⟩:Gs),a)
   else
    some ((⟨4,i.f,0,be,be,0,0,([]:List Ge),be,0,([f]:List Ge),h,([]:List Gs)⟩:Gs),a)
  else
   if d=(⟨#[119,104,105,108,101]⟩:BA) then
    (l5 fu (⟨b.l,c,b.c,b.e⟩:gP) 1 0).bind fun a7=>
    jy a7 fun E F=>
    (r_r03_block F (wr (x1+1))).bind fun a7=>
    jy a7 fun G a7=>jy a7 fun a4 H=>
    some ((⟨5,i.f,0,be,be,0,0,([]:List Ge),be,0,([E]:List Ge),G,([]:List Gs)⟩:Gs),H)
   else
    if d=(⟨#[116,114,121]⟩:BA) then
     (r_r03_block (⟨b.l,c,b.c,b.e⟩:gP) (wr (x1+1))).bind fun a7=>
     jy a7 fun I a7=>jy a7 fun a5 J=>
     (lJ fu J (⟨#[99,97,116,99,104]⟩:BA)).bind fun K=>
     (ow fu K).bind fun a7=>
     jy a7 fun L M=>
     (r_r03_block M (wr (x1+1))).bind fun a7=>
     jy a7 fun N a7=>jy a7 fun a6 P=>
     some ((⟨8,i.f,0,L,be,0,0,([]:List Ge),be,0,([]:List Ge),I,N⟩:Gs),P)
    else
     if d=(⟨#[114,101,116,117,114,110]⟩:BA) then
      (rA fu (⟨b.l,c,b.c,b.e⟩:gP) (⟨6,i.f,0,be,be,0,0,([]:List Ge),be,0,([]:List Ge),([]:List Gs),([]:List Gs)⟩:Gs) true).bind fun a7=>
      jy a7 fun Q R=>
      (lJ fu Q (⟨#[59]⟩:BA)).bind fun S=>
      some (R,S)
     else
      if d=(⟨#[116,104,114,111,119]⟩:BA) then
       (rA fu (⟨b.l,c,b.c,b.e⟩:gP) (⟨7,i.f,0,be,be,0,0,([]:List Ge),be,0,([]:List Ge),([]:List Gs),([]:List Gs)⟩:Gs) false).bind fun a7=>
       jy a7 fun U W=>
       (lJ fu U (⟨#[59]⟩:BA)).bind fun X=>
       some (W,X)
      else
       if d=(⟨#[112,114,105,110,116]⟩:BA) then
        (rA fu (⟨b.l,c,b.c,b.e⟩:gP) (⟨9,i.f,0,be,be,0,0,([]:List Ge),be,0,([]:List Ge),([]:List Gs),([]:List Gs)⟩:Gs) false).bind fun a7=>
        jy a7 fun Y a0=>
        (lJ fu Y (⟨#[59]⟩:BA)).bind fun j=>
        some (a0,j)
       else
        (wM fu (⟨b.l,c,b.c,b.e⟩:gP) (⟨0,i.f,0,be,be,0,0,([]:List Ge),be,0,([]:List Ge),([]:List Gs),([]:List Gs)⟩:Gs)).bind fun a7=>
        jy a7 fun k m=>
        (lJ fu k (⟨#[59]⟩:BA)).bind fun p=>
        some (m,p)
 ) (fun o=>some o)
def tF:Nat→(gP→Int→Option ((List Gs) × Int × gP)) × (gP→Int→Option (Gs × gP))
 | 0=>((fun _ _=>none),(fun _ _=>none))
 | fu+1=>(yJ fu ((tF fu).1) ((tF fu).2),sQ fu ((tF fu).1) ((tF fu).2))
def vU (fu:Nat):=(tF fu).1
def vK (fu:Nat):=(tF fu).2
theorem JL (fu:Nat)(r_r03_block:uz) (r_r03_statement:qc) (H_r03_block:wZ r_r03_block) (H_r03_statement:uN r_r03_statement):wZ (yJ fu r_r03_block r_r03_statement):=by
 intro w0 aQ x0 x1 N x z R hP B
 unfold yJ at B
 have b:=hP.bx
 clear hP
 generalize hG:lT _=G at b ⊢
 refine cf Try.func66 r (lK [(0,Pt N),(1,V x1)] ⟨r,r,y⟩ fun aR=>q (g (s (nk r) (s (xi r) (n (q (g (s (nk r) (n (q (g (s (mp r) ?_))))))))))))
 obtain ⟨S,h1,B⟩:=bs B
 refine sc (ec vV r) (lU fu (b.pr [0] [] [0] r) h1) ?_
 rintro _ w1 ⟨rfl,X⟩
 replace b:=b.cn [0] [] X
 refine n (q ?_)
 replace b:=b.Ca Gs 111
 obtain ⟨Y2,a,B⟩:=bs B
 refine oq (fun f w=>∃ (o:List Gs) (c:OA)(d:Nat)(j:LV)(p:List jX) (t:Int)(u:Int)(v:Int),Has f [(0,Pt N),(6,Z c o d)]∧Bx w0 w aQ G [O w0.heap.size c d 111 Gs j,.box N 102 #[Z x p z,V t,V u,V v]] [.l x z p,.els j o]∧Ld.go (o,p,t,u,v)=Y2) (fun J2 a6=>?_) ?_
 ·refine oM (kM (fun aS f w=>∃ (o:List Gs) (c:OA)(d:Nat)(j:LV)(p:List jX) (t:Int)(u:Int)(v:Int),Has f [(0,Pt N),(1,V x1),(6,Z c o d)]∧Bx w0 w aQ G [O w0.heap.size c d 111 Gs j,.box N 102 #[Z x p z,V t,V u,V v]] [.l x z p,.els j o]∧pJ fu r_r03_block r_r03_statement x1 aS o p t u v=some Y2) fu ⟨([]:List Gs),none,0,[],S.l,S.a,S.c,S.e,⟨r,r,r,y⟩,(b.dp [1,0]),a⟩ ?_)
  clear b a
  rintro n2 f w ⟨o,c,d,j,p,t,u,v,hf,b,a⟩ K2 a2
  obtain ⟨aR,rfl⟩:=iA _ _ hf
  clear hf
  cases n2 with
  | zero=>exact nn a
  | succ n2=>
   rw [pJ] at a
   refine q (q (g (s (mp r) (s (xn r) (s (qY r) (s (BM r (b.bk 1 r) r) (s (kD r r) (s (kL r) ?_))))))))
   rcases iv a with ⟨h4,a⟩|⟨h4,a⟩
   ·rw [decide_eq_true h4]
    refine kg r (s (mp r) ?_)
    obtain ⟨av,h5,a⟩:=bs a
    refine kg r (sc (ec vv r) (mY fu (b.pr [1] [0] [0] r) h5) ?_)
    rintro _ w5 ⟨rfl,X⟩
    replace b:=b.cn [1] [0] X
    refine kg r (s (Al r) (s (kr r r) (n ?_)))
    rcases iv a with ⟨h6,a⟩|⟨h6,a⟩
    ·refine jN (cb h6) (wk (oM (q (g (s (mp r) ?_)))))
     obtain ⟨aw,h7,a⟩:=bs a
     refine sc (ec W9 r) (GI fu (b.pr [0] [1] [1] r) h7) ?_
     rintro _ w7 ⟨rfl,X⟩
     replace b:=b.cn [0] [1] X
     refine s (Al r) (n ?_)
     rcases iv a with ⟨h8,a⟩|⟨h8,a⟩
     ·refine jN (cb h8) (g (s (mp r) ?_))
      obtain ⟨U,h9,a⟩:=bs a
      refine sc (ec CP r) (q8 fu (b.pr [0] [1] [2] r) h9) ?_
      rintro _ w9 ⟨rfl,X⟩
      replace b:=b.cn [0] [1] X
      exact n (a2 n2 _ _ (Nat.lt_succ_self _) ⟨o,c,d,j,U.l,U.a,U.c,U.e,⟨r,r,r,y⟩,(b.ad [1,0] [0,4]),a⟩)
     replace h8:=nt h8
     refine jK (cb h8) (q (g (s (mi r) (s (uX r r) (n ?_)))))
     rcases iv a with ⟨a3,a⟩|⟨a3,a⟩
     ·refine jN (bt a3) (g (s (mp r) ?_))
      obtain ⟨L,ah,a⟩:=bs a
      refine sc (ec CP r) (q8 fu (b.pr [0] [1] [2] r) ah) ?_
      rintro _ aB ⟨rfl,X⟩
      replace b:=b.cn [0] [1] X
      exact n (a2 n2 _ _ (Nat.lt_succ_self _) ⟨o,c,d,j,L.l,L.a,L.c,L.e,⟨r,r,r,y⟩,(b.ad [1,0] [0,4]),a⟩)
     refine jK (bf a3) (g (s (nC r) (s (mp r) (s (mi r) ?_))))
     obtain ⟨m,M,ai,a⟩:=lZ a
     refine sc (ec WY r) (H_r03_statement (b.pr [0] [1] [2] r) ai) ?_
     rintro _ aC ⟨C,D,E,F,H,I,J,K,rfl,X⟩
     replace b:=b.cn [0] [1] X
     refine nU (jP b [[V m.c,V m.f,V m.n,T m.b,T m.k,V m.m,V m.g,Z C m.d D,T m.j,V m.i,Z E m.a F,Z H m.e I,Z J m.h K]] ([m]:List Gs) (rF r) r r (by decide) ⟨(jD.inn ⟨C,D,E,F,H,I,J,K,r,(b.dl 0 r),(b.dl 1 r),(b.dl 2 r),(b.dl 3 r)⟩),y⟩) ?_
     rintro _ aD ⟨aE,rfl,b⟩
     obtain ⟨aj,aa,a⟩:=bs a
     refine nU (kP b 2 9 r r Ak jQ r (by decide) (by decide) (Nat.le_refl _) r r (b.zP 0 0 r r) aa) ?_
     rintro _ aF ⟨ak,al,am,rfl,b⟩
     exact s (nk r) (n (a2 n2 _ _ (Nat.lt_succ_self _) ⟨aj,ak,al,am,M.l,M.a,M.c,M.e,⟨r,r,r,y⟩,(b.ad [2,1] [5,9]),a⟩))
    replace h6:=nt h6
    exact jK (cb h6) (tT (a6 _ _ ⟨o,c,d,j,p,t,u,v,⟨r,r,y⟩,(b.ad [1,0] [1,2]),sm a⟩))
   rw [decide_eq_false h4]
   exact jC r (jC r (jC r (s (jY r r) (n (jK r (tT (a6 _ _ ⟨o,c,d,j,p,t,u,v,⟨r,r,y⟩,b,sm a⟩)))))))
 clear b
 rintro f w ⟨o,c,d,j,p,t,u,v,hf,b,an⟩
 obtain ⟨aR,rfl⟩:=iA _ _ hf
 clear hf
 subst an
 replace B:=gi B
 replace B:=pi (mG B)
 refine q (g (s (xi r) (n (q ?_))))
 obtain ⟨ao,A,B⟩:=bs B
 refine oq (fun f w=>∃ (Q:Int),Has f [(0,Pt N),(6,Z c o d),(7,V Q)]∧Bx w0 w aQ G [O w0.heap.size c d 111 Gs j,.box N 102 #[Z x p z,V t,V u,V v]] [.l x z p,.els j o]∧Ld.go Q=ao) (fun aG a1=>?_) ?_
 ·unfold wC at A
  refine q (g (s (mp r) (s (xn r) (s (qY r) (s (BM r (b.bk 1 r) r) (s (kD r r) (n ?_)))))))
  rcases iv A with ⟨a4,A⟩|⟨a4,A⟩
  ·refine jN (bt a4) (pX b [1] [0] [] (by kernel_rfl) ?_)
   replace b:=b.drew
   have Y:=(b.ad [1] [0])
   refine pF 0 r (mp r) Y (pF 1 r (xn r) Y (pF 2 r (yV r) Y (uF 3 r (fun hS=>OL r (hS.bk 0 r) r) Y (pF 4 r (mp r) Y (pF 5 r (xn r) Y (pF 6 r (l7 r) Y (uF 7 r (fun hS=>l3 r (hS.bk 0 r) r) Y ?_)))))))
   obtain ⟨a0,W,A⟩:=bs A
   obtain ⟨aH,ab,W⟩:=kJ W
   exact pF 8 r (kW Cr pQ r r ab (b.dl 0 r) W) Y (pF 9 r (Jy r) Y (tU 10 r (fun _ hS=>jT EC r r ((uy (ds:=[V a0.c,V a0.f,T a0.a,V a0.d]) (hS.dl 0 r) W (fun _ h=>h)) 1 _ r)) (sF Y) (pF 11 r (xi r) Y (hD (a1 _ _ ⟨a0.f,⟨r,r,r,y⟩,b,sm A⟩)))))
  exact jK (bf a4) (wk (a1 _ _ ⟨0,⟨r,r,r,y⟩,b,sm A⟩))
 clear b
 rintro f w ⟨Q,hf,b,ac⟩
 obtain ⟨aR,rfl⟩:=iA _ _ hf
 clear hf
 subst ac
 replace B:=gi B
 refine q (g (s (mp r) ?_))
 obtain ⟨ap,aq,B⟩:=bs B
 refine sc (ec vV r) (lU fu (b.pr [1] [0] [0] r) aq) ?_
 rintro _ aI ⟨rfl,X⟩
 replace b:=b.cn [1] [0] X
 refine n (q (g (s (nC r) (s (mi r) (s (nk r) (s (xi r) (n (kT ?_))))))))
 obtain rfl:=sm B
 exact qj r (lq r) (lq r) (mM (mM (⟨c,d,j,r,(b.ad [1,0] [2,0])⟩)))
theorem DR (fu:Nat)(r_r03_block:uz) (r_r03_statement:qc) (H_r03_block:wZ r_r03_block) (H_r03_statement:uN r_r03_statement):uN (sQ fu r_r03_block r_r03_statement):=by
 intro w0 cN x0 x1 ap a5 a6 R hP p
 unfold sQ at p
 have a:=hP.bx
 clear hP
 generalize hG:lT _=G at a ⊢
 refine cf Try.func94 r ?_
 refine lK [(0,Pt ap),(1,V x1)] ⟨r,r,y⟩ fun cO=>?_
 refine q (g (tu a (jV jQ) fun w1 b1 a=>?_))
 refine n (q (pX a [1] [0] [] (by kernel_rfl) ?_))
 replace a:=a.drew
 have hs:=(a.arr [1] r)
 refine pF 0 r (mp r) hs (pF 1 r (xn r) hs (pF 2 r (yV r) hs (uF 3 r (fun hS=>OL r (hS.bk 0 r) r) hs (pF 4 r (mp r) hs (pF 5 r (xn r) hs (pF 6 r (l7 r) hs (uF 7 r (fun hS=>l3 r (hS.bk 0 r) r) hs ?_)))))))
 obtain ⟨Q,ak,p⟩:=bs p
 obtain ⟨k2,aG,ak⟩:=kJ ak
 refine pF 8 r (kW Cr pQ r r aG (a.dl 0 r) ak) hs (pF 9 r (Jy r) hs (tU 10 r (fun _ hS=>jT EC r r ((uy (ds:=[V Q.c,V Q.f,T Q.a,V Q.d]) (hS.dl 0 r) ak (fun _ h=>h)) 1 _ r)) (sF hs) (pF 11 r (Ro r) hs ?_)))
 refine hO 12 (oo r r (nM a (jV jQ)) ?_)
 rintro _ w3 ⟨b3,rfl,a⟩
 have hs:=(a.arr [2] r)
 refine ⟨(sF hs),?_⟩
 refine hO 13 (os r r (nX a 0 [V 0,V Q.f,V 0,T be,T be,V 0,V 0,sn,T be,V 0,sn,sn,sn] r jQ r r) fun w4 a=>?_)
 have hs:=(a.arr [2] r)
 refine ⟨(sF hs),?_⟩
 refine hD (q (g (s (mF r) (n (q ?_)))))
 obtain ⟨Y5,ah,p⟩:=bs p
 refine oq (fun f w=>∃ (al:BA) (am:Int),Has f [(0,Pt ap),(1,V x1),(4,Pt b1),(5,Pt b3),(6,T al)]∧Bx w0 w cN G [.box b3 111 #[V 0,V Q.f,V 0,T be,T be,V 0,V 0,sn,T be,V 0,sn,sn,sn],.box b1 111 #[V 0,V 0,V 0,T be,T be,V 0,V 0,sn,T be,V 0,sn,sn,sn],.box ap 102 #[Z a5 x0.l a6,V am,V x0.c,V x0.e]] [.l a5 a6 x0.l]∧Ld.go (al,am)=Y5) (fun J5 aH=>?_) ?_
 ·unfold sO at ah
  refine q (g (s (mp r) ?_))
  obtain ⟨bK,h6,ah⟩:=bs ah
  refine sc (ec Dk r) (rH fu (a.pr [2] [0,1] [0] r) h6) ?_
  rintro _ w6 ⟨rfl,J⟩
  replace a:=a.cn [2] [0,1] J
  refine n ?_
  rcases iv ah with ⟨h7,ah⟩|⟨h7,ah⟩
  ·refine jN (cb h7) (q (pX a [0] [1] [] (by kernel_rfl) ?_))
   replace a:=a.drew
   have hs:=(a.ad [0] [1])
   refine pF 0 r (mp r) hs (pF 1 r (xn r) hs (pF 2 r (yV r) hs (uF 3 r (fun hS=>OL r (hS.bk 0 r) r) hs (pF 4 r (mp r) hs (pF 5 r (xn r) hs (pF 6 r (l7 r) hs (uF 7 r (fun hS=>l3 r (hS.bk 0 r) r) hs (pF 8 r (kW Cr pQ r r aG (a.dl 1 r) ak) hs (pF 9 r (JR r) hs (tU 10 r (fun _ hS=>jT uq r r ((uy (ds:=[V Q.c,V Q.f,T Q.a,V Q.d]) (hS.dl 0 r) ak (fun _ h=>h)) 2 _ r)) (sF hs) (pF 11 r (mF r) hs (hD (g ?_)))))))))))))
   refine s (mp r) (s (xn r) (s (l7 r) (s (l3 r (a.bk 0 r) r) (s (kE r r) (s (xn r) (s (l7 r) (lg (t_n a 0 [V (wr (x0.a+1))] r nO r r) fun w8 a=>?_)))))))
   refine n ?_
   exact aH _ _ ⟨Q.a,(wr (x0.a+1)),⟨r,r,r,r,r,y⟩,(a.ad [1,2,0] [1]),sm ah⟩
  replace h7:=nt h7
  refine jK (cb h7) (wk ?_)
  exact aH _ _ ⟨(⟨#[]⟩:BA),x0.a,⟨r,r,r,r,r,y⟩,(a.ad [1,2,0] [1]),sm ah⟩
 clear a
 rintro f w ⟨al,am,hf,a,aP⟩
 obtain ⟨cO,rfl⟩:=iA _ _ hf
 clear hf
 subst aP
 replace p:=gi p
 replace p:=pi p
 refine q (q (g (s (kY r) (n (oM (q (g (s (rR r r) (s (kC r) (n ?_))))))))))
 rcases iv p with ⟨h9,p⟩|⟨h9,p⟩
 ·refine jN (bt h9) (q (g (s (mp r) ?_)))
  obtain ⟨an,aR,aS,p⟩:=lZ p
  refine sc (ec Cc r) (qB fu (a.pr [2] [0,1] [0] r) aS) ?_
  rintro _ bS ⟨rfl,J⟩
  replace a:=a.cn [2] [0,1] J
  refine s (xP r) (lg (t_n a 1 [V 1] r nO r r) fun bT a=>?_)
  refine s (zF r) (lg (t_n a 1 [T an] r oQ r r) fun bU a=>?_)
  refine n (q (g (s (mp r) ?_)))
  obtain ⟨aT,aU,p⟩:=bs p
  refine sc (ec vV r) (lU fu (a.pr [0] [1,2] [0] r) aU) ?_
  rintro _ bV ⟨rfl,J⟩
  replace a:=a.cn [0] [1,2] J
  refine n (q (g (s (mp r) ?_)))
  replace a:=a.ku (d:=.l none 0 ([]:List Ge)) om
  replace a:=a.ku (d:=.l none 0 ([]:List Ge)) om
  replace a:=a.ku (d:=.l none 0 ([]:List Gs)) om
  replace a:=a.ku (d:=.l none 0 ([]:List Gs)) om
  obtain ⟨aV,c,aW,p⟩:=lZ p
  refine sc (ec Vz r) (IW fu (a.pr [0,1] [2] [4,3,2,1,0] r) aW) ?_
  rintro _ bW ⟨rfl,J⟩
  replace a:=a.cn [0,1] [2] J
  refine n (g (s (mp r) ?_))
  obtain ⟨aX,aY,p⟩:=bs p
  refine sc (ec vV r) (lU fu (a.pr [0] [1,2] [0] r) aY) ?_
  rintro _ bX ⟨rfl,J⟩
  replace a:=a.cn [0] [1,2] J
  refine n (q (g (s (ng [V c.c,V c.f,V c.n,T c.b,T c.k,V c.m,V c.g,Z none c.d 0,T c.j,V c.i,Z none c.a 0,Z none c.e 0,Z none c.h 0] lW jQ r (a.bk 1 r)) (lg (nX a 2 [V c.c,V c.f,V c.n,T c.b,T c.k,V c.m,V c.g,Z none c.d 0,T c.j,V c.i,Z none c.a 0,Z none c.e 0,Z none c.h 0] r jQ r r) fun bY a=>?_))))
  refine n (kT ?_)
  obtain rfl:=sm p
  refine jI r (tV r lW r jQ r (a.bk 2 r)) ?_
  exact mM (⟨none,0,none,0,none,0,none,0,r,(a.ad [0] [2,3,4,5,0])⟩)
 refine jK (bf h9) (q (g (s (rR r r) (s (kC r) (n ?_)))))
 rcases iv p with ⟨ar,p⟩|⟨ar,p⟩
 ·refine jN (bt ar) (q (g (s (mp r) ?_)))
  obtain ⟨v,aZ,b0,p⟩:=lZ p
  refine sc (ec Aq r) (rC fu (a.pr [2] [0,1] [0] r) b0) ?_
  rintro _ bZ ⟨ab,ac,rfl,J⟩
  replace a:=a.cn [2] [0,1] J
  refine nU (jP a [[V v.e,V v.d,V v.g,T v.b,T v.c,Z ab v.a ac]] ([v]:List Ge) (kS r) r r (by decide) ⟨(jB.inn ⟨ab,ac,r,(a.dl 0 r)⟩),y⟩) ?_
  rintro _ c0 ⟨a1,rfl,a⟩
  refine s (xP r) (lg (t_n a 2 [V 4] r nO r r) fun c1 a=>?_)
  refine s (uT r) (lg (t_n a 2 [.slice (ad a1) ([v]:List Ge).length 1] r uw r r) fun c2 a=>?_)
  refine n (q (g (s (mp r) (s (mi r) (s (kE r r) ?_)))))
  obtain ⟨B,b2,a7,b4,p⟩:=vD p
  refine sc (ec Ib r) (H_r03_block (a.pr [1] [0,2,3] [2] r) b4) ?_
  rintro _ c3 ⟨t,u,aB,rfl,J⟩
  have ag:=a.rD.size
  replace a:=a.cn [1] [0,2,3] J
  replace a:=a.rb 0 w0.heap.size r ag
  refine s sZ (s (jZ r r) (s (jZ r r) (s (wN r) (lg (t_n a 3 [Z t B u] r zX r r) fun c4 a=>?_))))
  refine n (q (g (s (mp r) (s (xn r) (s (qY r) (s (BM r (a.bk 1 r) r) (s (kD r r) (s (kL r) ?_))))))))
  rcases iv p with ⟨au,p⟩|⟨au,p⟩
  ·rw [decide_eq_true au]
   refine kg r (s (mp r) ?_)
   obtain ⟨b5,b6,p⟩:=bs p
   refine kg r ?_
   refine sc (ec vv r) (mY fu (a.pr [1] [0,2,3,4] [1] r) b6) ?_
   rintro _ c5 ⟨rfl,J⟩
   replace a:=a.cn [1] [0,2,3,4] J
   refine s (kr r r) (n ?_)
   rcases iv p with ⟨ao,p⟩|⟨ao,p⟩
   ·refine jN (cb ao) (q (g (s (mp r) (s (xn r) (s (l7 r) (s (l3 r (a.bk 0 r) r) (s (kE r r) (s (xn r) (s (l7 r) (lg (t_n a 0 [V (wr (a7.a+1))] r nO r r) fun c6 a=>?_))))))))))
    refine n (g (s (mp r) (s (mi r) (s (kE r r) ?_))))
    obtain ⟨a8,b7,b8,b9,p⟩:=vD p
    refine sc (ec Ib r) (H_r03_block (a.pr [0] [1,2,3,4] [2] r) b9) ?_
    rintro _ c7 ⟨C,D,aC,rfl,J⟩
    have ag:=a.rD.size
    replace a:=a.cn [0] [1,2,3,4] J
    replace a:=a.rb 0 w0.heap.size r ag
    refine s sZ (s (jZ r r) (s (jZ r r) (s (wG r) (lg (t_n a 4 [Z C a8 D] r zX r r) fun c8 a=>?_))))
    refine n (q (g (s (ng [V 4,V Q.f,V 0,T be,T be,V 0,V 0,sn,T be,V 0,.slice (ad a1) ([v]:List Ge).length 1,Z t B u,Z C a8 D] lW jQ r (a.bk 4 r)) (lg (nX a 5 [V 4,V Q.f,V 0,T be,T be,V 0,V 0,sn,T be,V 0,.slice (ad a1) ([v]:List Ge).length 1,Z t B u,Z C a8 D] r jQ r r) fun c9 a=>?_))))
    refine n (kT ?_)
    replace a:=a.fz 3 5 r r
    replace a:=a.fz 2 4 r r
    replace a:=a.fz 0 2 r r
    replace a:=a.ku (d:=.l none 0 ([]:List Ge)) om
    obtain rfl:=sm p
    refine jI r (tV r lW r jQ r (a.bk 2 r)) ?_
    exact mM (⟨none,0,(ad a1),1,t,u,C,D,r,(a.ad [0] [0,3,2,1,4])⟩)
   replace ao:=nt ao
   refine jK (cb ao) (wk (q (g (s (ng [V 4,V Q.f,V 0,T be,T be,V 0,V 0,sn,T be,V 0,.slice (ad a1) ([v]:List Ge).length 1,Z t B u,sn] lW jQ r (a.bk 3 r)) (lg (nX a 4 [V 4,V Q.f,V 0,T be,T be,V 0,V 0,sn,T be,V 0,.slice (ad a1) ([v]:List Ge).length 1,Z t B u,sn] r jQ r r) fun cc a=>?_)))))
   refine n (kT ?_)
   replace a:=a.fz 2 3 r r
   replace a:=a.fz 1 2 r r
   replace a:=a.ku (d:=.l none 0 ([]:List Ge)) om
   replace a:=a.ku (d:=.l none 0 ([]:List Gs)) om
   obtain rfl:=sm p
   refine jI r (tV r lW r jQ r (a.bk 2 r)) ?_
   exact mM (⟨none,0,(ad a1),1,t,u,none,0,r,(a.ad [0] [1,3,2,0,5])⟩)
  rw [decide_eq_false au]
  refine jC r (jC r (s (jY r r) (n (jK r (wk (q (g (s (ng [V 4,V Q.f,V 0,T be,T be,V 0,V 0,sn,T be,V 0,.slice (ad a1) ([v]:List Ge).length 1,Z t B u,sn] lW jQ r (a.bk 3 r)) (lg (nX a 4 [V 4,V Q.f,V 0,T be,T be,V 0,V 0,sn,T be,V 0,.slice (ad a1) ([v]:List Ge).length 1,Z t B u,sn] r jQ r r) fun cd a=>?_)))))))))
  refine n (kT ?_)
  replace a:=a.fz 2 2 r r
  replace a:=a.fz 0 1 r r
  replace a:=a.ku (d:=.l none 0 ([]:List Ge)) om
  replace a:=a.ku (d:=.l none 0 ([]:List Gs)) om
  obtain rfl:=sm p
  refine jI r (tV r lW r jQ r (a.bk 2 r)) ?_
  exact mM (⟨none,0,(ad a1),1,t,u,none,0,r,(a.ad [0] [1,3,2,0,4])⟩)
 refine jK (bf ar) (q (g (s (rR r r) (s (kC r) (n ?_)))))
 rcases iv p with ⟨av,p⟩|⟨av,p⟩
 ·refine jN (bt av) (q (g (s (mp r) ?_)))
  obtain ⟨A,ba,bb,p⟩:=lZ p
  refine sc (ec Aq r) (rC fu (a.pr [2] [0,1] [0] r) bb) ?_
  rintro _ ce ⟨ae,af,rfl,J⟩
  replace a:=a.cn [2] [0,1] J
  refine nU (jP a [[V A.e,V A.d,V A.g,T A.b,T A.c,Z ae A.a af]] ([A]:List Ge) (kS r) r r (by decide) ⟨(jB.inn ⟨ae,af,r,(a.dl 0 r)⟩),y⟩) ?_
  rintro _ cg ⟨aj,rfl,a⟩
  refine s (xP r) (lg (t_n a 2 [V 5] r nO r r) fun ch a=>?_)
  refine s (uT r) (lg (t_n a 2 [.slice (ad aj) ([A]:List Ge).length 1] r uw r r) fun ci a=>?_)
  refine n (g (s (mp r) (s (mi r) (s (kE r r) ?_))))
  obtain ⟨a9,bc,bd,bg,p⟩:=vD p
  refine sc (ec Ib r) (H_r03_block (a.pr [1] [0,2,3] [2] r) bg) ?_
  rintro _ cj ⟨E,F,aD,rfl,J⟩
  have ag:=a.rD.size
  replace a:=a.cn [1] [0,2,3] J
  replace a:=a.rb 0 w0.heap.size r ag
  refine s sZ (s (jZ r r) (s (jZ r r) (s (wN r) (lg (t_n a 3 [Z E a9 F] r zX r r) fun ck a=>?_))))
  refine n (q (g (s (ng [V 5,V Q.f,V 0,T be,T be,V 0,V 0,sn,T be,V 0,.slice (ad aj) ([A]:List Ge).length 1,Z E a9 F,sn] lW jQ r (a.bk 3 r)) (lg (nX a 4 [V 5,V Q.f,V 0,T be,T be,V 0,V 0,sn,T be,V 0,.slice (ad aj) ([A]:List Ge).length 1,Z E a9 F,sn] r jQ r r) fun cm a=>?_))))
  refine n (kT ?_)
  replace a:=a.fz 2 2 r r
  replace a:=a.fz 0 1 r r
  replace a:=a.ku (d:=.l none 0 ([]:List Ge)) om
  replace a:=a.ku (d:=.l none 0 ([]:List Gs)) om
  obtain rfl:=sm p
  refine jI r (tV r lW r jQ r (a.bk 2 r)) ?_
  exact mM (⟨none,0,(ad aj),1,E,F,none,0,r,(a.ad [0] [1,3,2,0,4])⟩)
 refine jK (bf av) (q (g (s (rR r r) (s (kC r) (n ?_)))))
 rcases iv p with ⟨aw,p⟩|⟨aw,p⟩
 ·refine jN (bt aw) (q (g (s (xP r) (lg (t_n a 0 [V 8] r nO r r) fun cn a=>?_))))
  refine n (q (g (s (mp r) (s (mi r) (s (kE r r) ?_)))))
  obtain ⟨a2,bh,bi,bj,p⟩:=vD p
  refine sc (ec Ib r) (H_r03_block (a.pr [2] [0,1] [0] r) bj) ?_
  rintro _ co ⟨x,z,aE,rfl,J⟩
  have ag:=a.rD.size
  replace a:=a.cn [2] [0,1] J
  replace a:=a.rb 0 w0.heap.size r ag
  refine s sZ (s (jZ r r) (s (jZ r r) (s (wN r) (lg (t_n a 2 [Z x a2 z] r zX r r) fun QY a=>?_))))
  refine n (q (g (s (mp r) ?_)))
  obtain ⟨bl,bm,p⟩:=bs p
  refine sc (ec vV r) (lU fu (a.pr [1] [0,2,3] [1] r) bm) ?_
  rintro _ cp ⟨rfl,J⟩
  replace a:=a.cn [1] [0,2,3] J
  refine n (q (g (s (mp r) ?_)))
  obtain ⟨a4,bn,bo,p⟩:=lZ p
  refine sc (ec Cc r) (qB fu (a.pr [0] [1,2,3] [0] r) bo) ?_
  rintro _ cq ⟨rfl,J⟩
  replace a:=a.cn [0] [1,2,3] J
  refine s (zF r) (lg (t_n a 2 [T a4] r oQ r r) fun cr a=>?_)
  refine n (g (s (mp r) (s (mi r) (s (kE r r) ?_))))
  obtain ⟨aa,bp,bq,br,p⟩:=vD p
  refine sc (ec Ib r) (H_r03_block (a.pr [0] [1,2,3] [0] r) br) ?_
  rintro _ ct ⟨H,I,aF,rfl,J⟩
  have ag:=a.rD.size
  replace a:=a.cn [0] [1,2,3] J
  replace a:=a.rb 0 w0.heap.size r ag
  refine s sZ (s (jZ r r) (s (jZ r r) (s (wG r) (lg (t_n a 3 [Z H aa I] r zX r r) fun cu a=>?_))))
  refine n (q (g (s (ng [V 8,V Q.f,V 0,T a4,T be,V 0,V 0,sn,T be,V 0,sn,Z x a2 z,Z H aa I] lW jQ r (a.bk 3 r)) (lg (nX a 4 [V 8,V Q.f,V 0,T a4,T be,V 0,V 0,sn,T be,V 0,sn,Z x a2 z,Z H aa I] r jQ r r) fun cv a=>?_))))
  refine n (kT ?_)
  replace a:=a.fz 2 4 r r
  replace a:=a.fz 0 1 r r
  replace a:=a.ku (d:=.l none 0 ([]:List Ge)) om
  replace a:=a.ku (d:=.l none 0 ([]:List Ge)) om
  obtain rfl:=sm p
  refine jI r (tV r lW r jQ r (a.bk 2 r)) ?_
  exact mM (⟨none,0,none,0,x,z,H,I,r,(a.ad [0] [1,0,3,2,4])⟩)
 refine jK (bf aw) (q (g (s (rR r r) (s (kC r) (n ?_)))))
 rcases iv p with ⟨ax,p⟩|⟨ax,p⟩
 ·refine jN (bt ax) (q (g (s (xP r) (lg (t_n a 0 [V 6] r nO r r) fun cw a=>?_))))
  refine n (q (g (s (mp r) ?_)))
  replace a:=a.ku (d:=.l none 0 ([]:List Ge)) om
  replace a:=a.ku (d:=.l none 0 ([]:List Ge)) om
  replace a:=a.ku (d:=.l none 0 ([]:List Gs)) om
  replace a:=a.ku (d:=.l none 0 ([]:List Gs)) om
  obtain ⟨bu,j,bv,p⟩:=lZ p
  refine sc (ec Fb r) (wY fu (a.pr [2,0] [1] [4,3,2,1,0] r) bv) ?_
  rintro _ cx ⟨S,U,rfl,J⟩
  replace a:=a.cn [2,0] [1] J
  refine n (g (s (mp r) ?_))
  obtain ⟨bw,bz,p⟩:=bs p
  refine sc (ec vV r) (lU fu (a.pr [0] [1,2] [0] r) bz) ?_
  rintro _ cy ⟨rfl,J⟩
  replace a:=a.cn [0] [1,2] J
  refine n (q (g (s (ng [V j.c,V j.f,V j.n,T j.b,T j.k,V j.m,V j.g,Z none j.d 0,T j.j,V j.i,Z S j.a U,Z none j.e 0,Z none j.h 0] lW jQ r (a.bk 1 r)) (lg (nX a 2 [V j.c,V j.f,V j.n,T j.b,T j.k,V j.m,V j.g,Z none j.d 0,T j.j,V j.i,Z S j.a U,Z none j.e 0,Z none j.h 0] r jQ r r) fun cz a=>?_))))
  refine n (kT ?_)
  obtain rfl:=sm p
  refine jI r (tV r lW r jQ r (a.bk 2 r)) ?_
  exact mM (⟨none,0,S,U,none,0,none,0,r,(a.ad [0] [2,3,4,5,0])⟩)
 refine jK (bf ax) (q (g (s (rR r r) (s (kC r) (n ?_)))))
 rcases iv p with ⟨ay,p⟩|⟨ay,p⟩
 ·refine jN (bt ay) (q (g (s (xP r) (lg (t_n a 0 [V 7] r nO r r) fun cA a=>?_))))
  refine n (q (g (s (mp r) ?_)))
  replace a:=a.ku (d:=.l none 0 ([]:List Ge)) om
  replace a:=a.ku (d:=.l none 0 ([]:List Ge)) om
  replace a:=a.ku (d:=.l none 0 ([]:List Gs)) om
  replace a:=a.ku (d:=.l none 0 ([]:List Gs)) om
  obtain ⟨bA,m,bB,p⟩:=lZ p
  refine sc (ec Fb r) (wY fu (a.pr [2,0] [1] [4,3,2,1,0] r) bB) ?_
  rintro _ cB ⟨W,X,rfl,J⟩
  replace a:=a.cn [2,0] [1] J
  refine n (g (s (mp r) ?_))
  obtain ⟨bC,bD,p⟩:=bs p
  refine sc (ec vV r) (lU fu (a.pr [0] [1,2] [0] r) bD) ?_
  rintro _ cC ⟨rfl,J⟩
  replace a:=a.cn [0] [1,2] J
  refine n (q (g (s (ng [V m.c,V m.f,V m.n,T m.b,T m.k,V m.m,V m.g,Z none m.d 0,T m.j,V m.i,Z W m.a X,Z none m.e 0,Z none m.h 0] lW jQ r (a.bk 1 r)) (lg (nX a 2 [V m.c,V m.f,V m.n,T m.b,T m.k,V m.m,V m.g,Z none m.d 0,T m.j,V m.i,Z W m.a X,Z none m.e 0,Z none m.h 0] r jQ r r) fun cD a=>?_))))
  refine n (kT ?_)
  obtain rfl:=sm p
  refine jI r (tV r lW r jQ r (a.bk 2 r)) ?_
  exact mM (⟨none,0,W,X,none,0,none,0,r,(a.ad [0] [2,3,4,5,0])⟩)
 refine jK (bf ay) (q (g (s (rR r r) (s (kC r) (n ?_)))))
 rcases iv p with ⟨az,p⟩|⟨az,p⟩
 ·refine jN (bt az) (q (g (s (xP r) (lg (t_n a 0 [V 9] r nO r r) fun cE a=>?_))))
  refine n (q (g (s (mp r) ?_)))
  replace a:=a.ku (d:=.l none 0 ([]:List Ge)) om
  replace a:=a.ku (d:=.l none 0 ([]:List Ge)) om
  replace a:=a.ku (d:=.l none 0 ([]:List Gs)) om
  replace a:=a.ku (d:=.l none 0 ([]:List Gs)) om
  obtain ⟨bE,o,bF,p⟩:=lZ p
  refine sc (ec Fb r) (wY fu (a.pr [2,0] [1] [4,3,2,1,0] r) bF) ?_
  rintro _ cF ⟨Y,a0,rfl,J⟩
  replace a:=a.cn [2,0] [1] J
  refine n (g (s (mp r) ?_))
  obtain ⟨aM,aJ,p⟩:=bs p
  refine sc (ec vV r) (lU fu (a.pr [0] [1,2] [0] r) aJ) ?_
  rintro _ bL ⟨rfl,J⟩
  replace a:=a.cn [0] [1,2] J
  refine n (q (g (s (ng [V o.c,V o.f,V o.n,T o.b,T o.k,V o.m,V o.g,Z none o.d 0,T o.j,V o.i,Z Y o.a a0,Z none o.e 0,Z none o.h 0] lW jQ r (a.bk 1 r)) (lg (nX a 2 [V o.c,V o.f,V o.n,T o.b,T o.k,V o.m,V o.g,Z none o.d 0,T o.j,V o.i,Z Y o.a a0,Z none o.e 0,Z none o.h 0] r jQ r r) fun bM a=>?_))))
  refine n (kT ?_)
  obtain rfl:=sm p
  refine jI r (tV r lW r jQ r (a.bk 2 r)) ?_
  exact mM (⟨none,0,Y,a0,none,0,none,0,r,(a.ad [0] [2,3,4,5,0])⟩)
 refine jK (bf az) (q (g (s (mp r) ?_)))
 replace a:=a.ku (d:=.l none 0 ([]:List Ge)) om
 replace a:=a.ku (d:=.l none 0 ([]:List Ge)) om
 replace a:=a.ku (d:=.l none 0 ([]:List Gs)) om
 replace a:=a.ku (d:=.l none 0 ([]:List Gs)) om
 obtain ⟨aN,b,aK,p⟩:=lZ p
 refine sc (ec Um r) (G5 fu (a.pr [2,0] [1] [4,3,2,1,0] r) aK) ?_
 rintro _ bN ⟨K,L,M,N,rfl,J⟩
 replace a:=a.cn [2,0] [1] J
 refine n (g (s (mp r) ?_))
 obtain ⟨aO,aL,p⟩:=bs p
 refine sc (ec vV r) (lU fu (a.pr [0] [1,2] [0] r) aL) ?_
 rintro _ bO ⟨rfl,J⟩
 replace a:=a.cn [0] [1,2] J
 refine n (q (g (s (ng [V b.c,V b.f,V b.n,T b.b,T b.k,V b.m,V b.g,Z K b.d L,T b.j,V b.i,Z M b.a N,Z none b.e 0,Z none b.h 0] lW jQ r (a.bk 1 r)) (lg (nX a 2 [V b.c,V b.f,V b.n,T b.b,T b.k,V b.m,V b.g,Z K b.d L,T b.j,V b.i,Z M b.a N,Z none b.e 0,Z none b.h 0] r jQ r r) fun bP a=>?_))))
 refine n (kT ?_)
 obtain rfl:=sm p
 refine jI r (tV r lW r jQ r (a.bk 2 r)) ?_
 exact mM (⟨K,L,M,N,none,0,none,0,r,(a.ad [0] [2,3,4,5,0])⟩)
theorem Hy (fu:Nat):wZ (vU fu)∧uN (vK fu):=by
 induction fu with
 | zero=>exact ⟨by intro a b;intros;exact nn (by assumption),by intro a b;intros;exact nn (by assumption)⟩
 | succ fu ih=>exact ⟨JL fu (vU fu) (vK fu) ih.1 ih.2,DR fu (vU fu) (vK fu) ih.1 ih.2⟩
theorem IQ (fu:Nat):wZ (vU fu):=(Hy fu).1
def FP (m:gP→Option (jR × gP)):Prop:=∀ {p:World} {t:Nat→Prop} {j:gP} {k:Nat} {a:Option Addr} {b:Nat} {R:jR × gP},Pre p t [.box k 102 #[Z a j.l b,V j.a,V j.c,V j.e]] [.l a b j.l]→m j=some R→
 Calls Try.prog 45 #[Pt k] p (qW fun v w=>jy R fun o c=>∃ (d:OA)(f:Nat)(h:OA)(i:Nat),v=.agg #[Z d o.a f,Z h o.b i]∧Bx p w t (lT [.box k 102 #[Z a j.l b,V j.a,V j.c,V j.e]]) [.box k 102 #[Z a c.l b,V c.a,V c.c,V c.e]] [.l d f o.a,.l h i o.b,.l a b c.l])
def qD (fu:Nat):Nat→(List Gr)→(List jX)→Int→Int→Int→Option (Ld (List Gr × List jX × Int × Int × Int) (jR × gP))
 | 0,_,_,_,_,_=>none
 | u+1,h,c,d,f,b=>
 if b=0 then
  (mE fu (⟨c,d,f,b⟩:gP) 0 (⟨#[114,101,99,111,114,100]⟩:BA)).bind fun m=>
  if m=true then
   (ow fu (⟨c,(wr (d+1)),f,b⟩:gP)).bind fun v=>
   jy v fun o p=>
   (lJ fu p (⟨#[123]⟩:BA)).bind fun i=>
   (vR fu i).bind fun v=>
   jy v fun j k=>
   (lJ fu k (⟨#[125]⟩:BA)).bind fun a=>
   (app h ([(⟨o,j⟩:Gr)]:List Gr)).bind fun t=>
   qD fu u t a.l a.a a.c a.e
  else
   some (.go (h,c,d,f,b))
 else
  some (.go (h,c,d,f,b))
def uK (fu:Nat)(a:gP):Option (Ld (List BA × List jX × Int × Int × Int) (jR × gP)):=
 if a.e=0 then
  (mE fu a 0 (⟨#[41]⟩:BA)).bind fun c=>
  if (!c)=true then
   (vR fu a).bind fun f=>
   jy f fun d b=>
   some (.go (d,b.l,b.a,b.c,b.e))
  else
   some (.go (([]:List BA),a.l,a.a,a.c,a.e))
 else
  some (.go (([]:List BA),a.l,a.a,a.c,a.e))
def qC (fu:Nat):Nat→(List Gn)→(List jX)→Int→Int→Int→Option (Ld (List Gn × List jX × Int × Int × Int) (jR × gP))
 | 0,_,_,_,_,_=>none
 | B+1,h,a,b,d,c=>
 if c=0 then
  (mE fu (⟨a,b,d,c⟩:gP) 0 (⟨#[102,117,110,99]⟩:BA)).bind fun i=>
  if i=true then
   (ix a b).bind fun C=>
   (ow fu (⟨a,(wr (b+1)),d,c⟩:gP)).bind fun F=>
   jy F fun j k=>
   (lJ fu k (⟨#[40]⟩:BA)).bind fun m=>
   (uK fu m).bind fun F=>F.el (fun F=>
   jy F fun p F=>jy F fun t F=>jy F fun u F=>jy F fun v w=>
   (lJ fu (⟨t,u,v,w⟩:gP) (⟨#[41]⟩:BA)).bind fun x=>
   (vU fu x 1).bind fun F=>
   jy F fun z F=>jy F fun A f=>
   (app z ([(⟨10,A,0,be,be,0,0,([]:List Ge),be,0,([]:List Ge),([]:List Gs),([]:List Gs)⟩:Gs)]:List Gs)).bind fun D=>
   (app h ([(⟨j,C.f,p,D⟩:Gn)]:List Gn)).bind fun E=>
   qC fu B E f.l f.a f.c f.e
   ) (fun o=>some (.out o))
  else
   some (.go (h,a,b,d,c))
 else
  some (.go (h,a,b,d,c))
def vE (fu:Nat)(u:gP):Option (jR × gP):=
 (qD fu fu ([]:List Gr) u.l u.a u.c u.e).bind fun v=>v.el (fun v=>
 jy v fun h v=>jy v fun k v=>jy v fun m v=>jy v fun p t=>
 (qC fu fu ([]:List Gn) k m p t).bind fun v=>v.el (fun v=>
 jy v fun f v=>jy v fun b v=>jy v fun c v=>jy v fun d a=>
 if a=0 then
  (oU fu (⟨b,c,d,a⟩:gP) 0 0).bind fun i=>
  if (!i)=true then
   (oV fu (⟨b,c,d,a⟩:gP) 7).bind fun j=>
   some ((⟨h,f⟩:jR),j)
  else
   some ((⟨h,f⟩:jR),(⟨b,c,d,a⟩:gP))
 else
  some ((⟨h,f⟩:jR),(⟨b,c,d,a⟩:gP))
 ) (fun o=>some o)
 ) (fun o=>some o)
theorem Gh (fu:Nat):FP (vE fu):=by
 intro w0 cw x0 a2 x z R hP L
 unfold vE at L
 have a:=hP.bx
 clear hP
 generalize hG:lT _=G at a ⊢
 refine cf Try.func45 r ?_
 refine lK [(0,Pt a2)] ⟨r,y⟩ fun cx=>?_
 refine q (g (tu a (jV tX) fun w1 b1 a=>?_))
 refine n (q (g (tu a (jV tX) fun w2 b2 a=>?_)))
 refine n (q ?_)
 replace a:=a.Ca Gr 127
 obtain ⟨Y3,u,L⟩:=bs L
 refine oq (fun f w=>∃ (p:List Gr) (j:OA)(m:Nat)(t:LV)(F:List jX) (M:Int)(N:Int)(Q:Int),Has f [(0,Pt a2),(2,Pt b1),(3,Pt b2)]∧Bx w0 w cw G [O w0.heap.size j m 127 Gr t,.box b2 26 #[Z j p m,sn],.box b1 26 #[sn,sn],.box a2 102 #[Z x F z,V M,V N,V Q]] [.l x z F,.els t p]∧Ld.go (p,F,M,N,Q)=Y3) (fun J3 aM=>?_) ?_
 ·refine oM (kM (fun cy f w=>∃ (p:List Gr) (j:OA)(m:Nat)(t:LV)(F:List jX) (M:Int)(N:Int)(Q:Int),Has f [(0,Pt a2),(2,Pt b1),(3,Pt b2)]∧Bx w0 w cw G [O w0.heap.size j m 127 Gr t,.box b2 26 #[Z j p m,sn],.box b1 26 #[sn,sn],.box a2 102 #[Z x F z,V M,V N,V Q]] [.l x z F,.els t p]∧qD fu cy p F M N Q=some Y3) fu ⟨([]:List Gr),none,0,[],x0.l,x0.a,x0.c,x0.e,⟨r,r,r,y⟩,(a.dp [1,0]),u⟩ ?_)
  clear a u
  rintro n3 f w ⟨p,j,m,t,F,M,N,Q,hf,a,u⟩ K3 aZ
  obtain ⟨cx,rfl⟩:=iA _ _ hf
  clear hf
  cases n3 with
  | zero=>exact nn u
  | succ n3=>
   rw [qD] at u
   refine q (q (g (s (mp r) (s (xn r) (s (qY r) (s (BM r (a.bk 3 r) r) (s (kD r r) (s (kL r) ?_))))))))
   rcases iv u with ⟨h5,u⟩|⟨h5,u⟩
   ·rw [decide_eq_true h5]
    refine kg r (s (mp r) ?_)
    obtain ⟨bB,h6,u⟩:=bs u
    refine kg r ?_
    refine sc (ec vv r) (mY fu (a.pr [3] [0,1,2] [0] r) h6) ?_
    rintro _ w6 ⟨rfl,X⟩
    replace a:=a.cn [3] [0,1,2] X
    refine s (kr r r) (n ?_)
    rcases iv u with ⟨h7,u⟩|⟨h7,u⟩
    ·refine jN (cb h7) (wk (oM (q (g (s (mp r) (s (xn r) (s (l7 r) (s (l3 r (a.bk 0 r) r) (s (kE r r) (s (xn r) (s (l7 r) (lg (t_n a 0 [V (wr (M+1))] r nO r r) fun w8 a=>?_))))))))))))
     refine n (q (g (s (mp r) ?_)))
     obtain ⟨a4,bC,h9,u⟩:=lZ u
     refine sc (ec Cc r) (qB fu (a.pr [0] [1,2,3] [1] r) h9) ?_
     rintro _ w9 ⟨rfl,X⟩
     replace a:=a.cn [0] [1,2,3] X
     refine s (Rf r) (tu a (jV wT) fun bF bG a=>?_)
     refine lg (nX a 0 [T a4,sn] r wT r r) fun bH a=>?_
     refine n (q (g (s (mp r) ?_)))
     obtain ⟨b3,b4,u⟩:=bs u
     refine sc (ec vV r) (lU fu (a.pr [1] [0,2,3,4] [0] r) b4) ?_
     rintro _ bI ⟨rfl,X⟩
     replace a:=a.cn [1] [0,2,3,4] X
     refine n (q (g (s (mp r) ?_)))
     obtain ⟨a3,b5,b6,u⟩:=lZ u
     refine sc (ec Tc r) (Dp fu (a.pr [0] [1,2,3,4] [0] r) b6) ?_
     rintro _ bJ ⟨H,I,aI,rfl,X⟩
     have aj:=a.rD.size
     replace a:=a.cn [0] [1,2,3,4] X
     replace a:=a.rb 0 w0.heap.size r aj
     refine s (Bp r) (lg (t_n a 2 [Z H a3 I] r oH r r) fun bK a=>?_)
     refine n (q (g (s (mp r) ?_)))
     obtain ⟨a5,b7,u⟩:=bs u
     refine sc (ec vV r) (lU fu (a.pr [1] [0,2,3,4,5] [1] r) b7) ?_
     rintro _ bL ⟨rfl,X⟩
     replace a:=a.cn [1] [0,2,3,4,5] X
     refine n (g (s (CX r) (s (Tj r (a.bk 4 r) r) (s (ng [T a4,Z H a3 I] Nb wT r (a.bk 2 r)) ?_))))
     replace a:=a.fz 1 1 r r
     refine nU (jP a [[T a4,Z H a3 I]] ([(⟨a4,a3⟩:Gr)]:List Gr) (KX r) r r (by decide) ⟨(kV.inn ⟨H,I,r,(a.dl 0 r)⟩),y⟩) ?_
     rintro _ bM ⟨bN,rfl,a⟩
     obtain ⟨ay,aO,u⟩:=bs u
     refine nU (kP a 3 8 r r G8 wT r (by decide) (by decide) (Nat.le_refl _) r r (a.zP 0 0 r r) aO) ?_
     rintro _ bO ⟨az,aA,b8,rfl,a⟩
     refine s (CX r) (lg (t_n a 4 [Z az ay aA] r WL r r) fun bP a=>?_)
     refine n ?_
     exact aZ n3 _ _ (Nat.lt_succ_self _) ⟨ay,az,aA,b8,a5.l,a5.a,a5.c,a5.e,⟨r,r,r,y⟩,(a.ad [3,4,5,1] [2,8]),u⟩
    replace h7:=nt h7
    refine jK (cb h7) (tT ?_)
    exact aM _ _ ⟨p,j,m,t,F,M,N,Q,⟨r,r,r,y⟩,(a.ad [1,2,3,0] [1,2]),sm u⟩
   rw [decide_eq_false h5]
   refine jC r (jC r (s (jY r r) (n (jK r (tT ?_)))))
   exact aM _ _ ⟨p,j,m,t,F,M,N,Q,⟨r,r,r,y⟩,a,sm u⟩
 clear a
 rintro f w ⟨p,j,m,t,F,M,N,Q,hf,a,b9⟩
 obtain ⟨cx,rfl⟩:=iA _ _ hf
 clear hf
 subst b9
 replace L:=gi L
 replace L:=pi (mG L)
 refine q ?_
 replace a:=a.Ca Gn 82
 obtain ⟨aP,b,L⟩:=bs L
 refine oq (fun f w=>∃ (o:List Gn) (c:OA)(d:Nat)(v:LV)(A:List jX) (C:Int)(D:Int)(E:Int),Has f [(0,Pt a2),(2,Pt b1),(3,Pt b2)]∧Bx w0 w cw G [O w0.heap.size c d 82 Gn v,O w0.heap.size j m 127 Gr t,.box b2 26 #[Z j p m,Z c o d],.box b1 26 #[sn,sn],.box a2 102 #[Z x A z,V C,V D,V E]] [.l x z A,.els v o,.els t p]∧Ld.go (o,A,C,D,E)=aP) (fun bQ ax=>?_) ?_
 ·refine oM (kM (fun cy f w=>∃ (o:List Gn) (c:OA)(d:Nat)(v:LV)(A:List jX) (C:Int)(D:Int)(E:Int),Has f [(0,Pt a2),(2,Pt b1),(3,Pt b2)]∧Bx w0 w cw G [O w0.heap.size c d 82 Gn v,O w0.heap.size j m 127 Gr t,.box b2 26 #[Z j p m,Z c o d],.box b1 26 #[sn,sn],.box a2 102 #[Z x A z,V C,V D,V E]] [.l x z A,.els v o,.els t p]∧qC fu cy o A C D E=some aP) fu ⟨([]:List Gn),none,0,[],F,M,N,Q,⟨r,r,r,y⟩,(a.dp [1,0,2]),b⟩ ?_)
  clear a b
  rintro aB f w ⟨o,c,d,v,A,C,D,E,hf,a,b⟩ bR aQ
  obtain ⟨cx,rfl⟩:=iA _ _ hf
  clear hf
  cases aB with
  | zero=>exact nn b
  | succ aB=>
   rw [qC] at b
   refine q (q (g (s (mp r) (s (xn r) (s (qY r) (s (BM r (a.bk 4 r) r) (s (kD r r) (s (kL r) ?_))))))))
   rcases iv b with ⟨aC,b⟩|⟨aC,b⟩
   ·rw [decide_eq_true aC]
    refine kg r (s (mp r) ?_)
    obtain ⟨ba,bb,b⟩:=bs b
    refine kg r ?_
    refine sc (ec vv r) (mY fu (a.pr [4] [0,1,2,3] [0] r) bb) ?_
    rintro _ bS ⟨rfl,X⟩
    replace a:=a.cn [4] [0,1,2,3] X
    refine s (kr r r) (n ?_)
    rcases iv b with ⟨ak,b⟩|⟨ak,b⟩
    ·refine jN (cb ak) (wk (oM (q (pX a [0] [1] [] (by kernel_rfl) ?_))))
     replace a:=a.drew
     have hs:=(a.ad [0] [1])
     refine pF 0 r (mp r) hs (pF 1 r (xn r) hs (pF 2 r (yV r) hs (uF 3 r (fun hS=>OL r (hS.bk 0 r) r) hs (pF 4 r (mp r) hs (pF 5 r (xn r) hs (pF 6 r (l7 r) hs (uF 7 r (fun hS=>l3 r (hS.bk 0 r) r) hs ?_)))))))
     obtain ⟨Y,ah,b⟩:=bs b
     obtain ⟨bT,aR,ah⟩:=kJ ah
     refine pF 8 r (kW Cr pQ r r aR (a.dl 1 r) ah) hs (pF 9 r (Jy r) hs (tU 10 r (fun _ hS=>jT EC r r ((uy (ds:=[V Y.c,V Y.f,T Y.a,V Y.d]) (hS.dl 0 r) ah (fun _ h=>h)) 1 _ r)) (sF hs) (pF 11 r (VF r) hs ?_)))
     refine hO 12 (oo r r (nM a (jV nY)) ?_)
     rintro _ bU ⟨aS,rfl,a⟩
     have hs:=(a.ad [1] [1])
     refine ⟨(sF hs),?_⟩
     refine hO 13 (os r r (nX a 0 [T be,V Y.f,sn,sn] r nY r r) fun bV a=>?_)
     have hs:=(a.ad [1] [1])
     refine ⟨(sF hs),?_⟩
     refine hD (q (g (s (mp r) (s (xn r) (s (l7 r) (s (l3 r (a.bk 1 r) r) (s (kE r r) (s (xn r) (s (l7 r) (lg (t_n a 1 [V (wr (C+1))] r nO r r) fun bW a=>?_))))))))))
     refine n (q (g (s (mp r) ?_)))
     obtain ⟨S,bc,bd,b⟩:=lZ b
     refine sc (ec Cc r) (qB fu (a.pr [1] [0,2,3,4,5] [1] r) bd) ?_
     rintro _ bX ⟨rfl,X⟩
     replace a:=a.cn [1] [0,2,3,4,5] X
     refine s (JY r) (lg (t_n a 1 [T S] r oQ r r) fun bY a=>?_)
     refine n (q (g (s (mp r) ?_)))
     obtain ⟨U,bg,b⟩:=bs b
     refine sc (ec vV r) (lU fu (a.pr [0] [1,2,3,4,5] [0] r) bg) ?_
     rintro _ bZ ⟨rfl,X⟩
     replace a:=a.cn [0] [1,2,3,4,5] X
     refine n (q ?_)
     replace a:=a.Ca BA 9
     obtain ⟨bh,B,b⟩:=bs b
     refine oq (fun f w=>∃ (W:List BA) (J:OA)(K:Nat)(a6:LV)(a7:List jX) (ac:Int)(ae:Int)(af:Int),Has f [(0,Pt a2),(2,Pt b1),(3,Pt b2),(5,Pt aS)]∧Bx w0 w cw G [O w0.heap.size J K 9 BA a6,.box a2 102 #[Z x a7 z,V ac,V ae,V af],.box aS 82 #[T S,V Y.f,Z J W K,sn],O w0.heap.size c d 82 Gn v,O w0.heap.size j m 127 Gr t,.box b2 26 #[Z j p m,Z c o d],.box b1 26 #[sn,sn]] [.l x z a7,.els a6 W,.els v o,.els t p]∧Ld.go (W,a7,ac,ae,af)=bh) (fun c0 al=>?_) ?_
     ·unfold uK at B
      refine q (g (s (mp r) (s (xn r) (s (qY r) (s (BM r (a.bk 1 r) r) (s (kD r r) (s (kL r) ?_)))))))
      rcases iv B with ⟨aD,B⟩|⟨aD,B⟩
      ·rw [decide_eq_true aD]
       refine kg r (s (mp r) ?_)
       obtain ⟨bi,bj,B⟩:=bs B
       refine kg r ?_
       refine sc (ec vv r) (mY fu (a.pr [1] [0,2,3,4,5,6] [1] r) bj) ?_
       rintro _ c1 ⟨rfl,X⟩
       replace a:=a.cn [1] [0,2,3,4,5,6] X
       refine kg r (s (Al r) (s (kr r r) (n ?_)))
       rcases iv B with ⟨am,B⟩|⟨am,B⟩
       ·refine jN (cb am) (g (s (mp r) ?_))
        obtain ⟨ag,a8,bl,B⟩:=lZ B
        refine sc (ec Tc r) (Dp fu (a.pr [0] [1,2,3,4,5,6] [2] r) bl) ?_
        rintro _ c2 ⟨a0,a1,ai,rfl,X⟩
        have aj:=a.rD.size
        replace a:=a.cn [0] [1,2,3,4,5,6] X
        replace a:=a.rb 0 w0.heap.size r aj
        refine s (EL r) (lg (t_n a 3 [Z a0 ag a1] r oH r r) fun c3 a=>?_)
        refine n ?_
        exact al _ _ ⟨ag,a0,a1,ai,a8.l,a8.a,a8.c,a8.e,⟨r,r,r,r,y⟩,(a.ad [0,1,3,4,5,6,7] [1,0,8,9]),sm B⟩
       replace am:=nt am
       refine jK (cb am) (wk ?_)
       exact al _ _ ⟨([]:List BA),none,0,[],U.l,U.a,U.c,U.e,⟨r,r,r,r,y⟩,(a.ad [1,0,2,3,4,5,6] [2,1,6,7]),sm B⟩
      rw [decide_eq_false aD]
      refine jC r (jC r (jC r (s (jY r r) (n (jK r (wk ?_))))))
      exact al _ _ ⟨([]:List BA),none,0,[],U.l,U.a,U.c,U.e,⟨r,r,r,r,y⟩,(a.dp [1,0,5,6]),sm B⟩
     clear a
     rintro f w ⟨W,J,K,a6,a7,ac,ae,af,hf,a,aT⟩
     obtain ⟨cx,rfl⟩:=iA _ _ hf
     clear hf
     subst aT
     replace b:=gi b
     replace b:=pi (mG b)
     refine q (g (s (mp r) ?_))
     obtain ⟨bm,bn,b⟩:=bs b
     refine sc (ec vV r) (lU fu (a.pr [1] [0,2,3,4,5,6] [0] r) bn) ?_
     rintro _ c4 ⟨rfl,X⟩
     replace a:=a.cn [1] [0,2,3,4,5,6] X
     refine n (q (g (s (mp r) ?_)))
     obtain ⟨bo,an,a9,bp,b⟩:=vD b
     refine sc (ec Ib r) (IQ fu (a.pr [0] [1,2,3,4,5,6] [0] r) bp) ?_
     rintro _ c5 ⟨aJ,aK,aL,rfl,X⟩
     have aj:=a.rD.size
     replace a:=a.cn [0] [1,2,3,4,5,6] X
     replace a:=a.rb 0 w0.heap.size r aj
     refine s sZ (s (jZ r r) (s (jZ r r) (s (nk r) (s (xi r) (n (q (g (s (nC r) (s (mi r) (s (OG r r) (nU (jP a [[V 10,V an,V 0,T be,T be,V 0,V 0,sn,T be,V 0,sn,sn,sn]] ([(⟨10,an,0,be,be,0,0,([]:List Ge),be,0,([]:List Ge),([]:List Gs),([]:List Gs)⟩:Gs)]:List Gs) (rF r) r r (by decide) ⟨(jD.inn ⟨none,0,none,0,none,0,none,0,r,om,om,om,om⟩),y⟩) ?_)))))))))))
     rintro _ c6 ⟨c7,rfl,a⟩
     obtain ⟨ao,aU,b⟩:=bs b
     refine nU (kP a 1 1 r r Ak jQ r (by decide) (by decide) (Nat.le_refl _) r r (a.zP 0 0 r r) aU) ?_
     rintro _ c8 ⟨ap,aq,c9,rfl,a⟩
     refine s (Du r) (lg (t_n a 4 [Z ap ao aq] r zX r r) fun cc a=>?_)
     refine n (g (s (Af r) (s (OJ r (a.bk 7 r) r) (s (ng [T S,V Y.f,Z J W K,Z ap ao aq] Ez nY r (a.bk 4 r)) ?_))))
     replace a:=a.fz 3 5 r r
     replace a:=a.fz 1 2 r r
     refine nU (jP a [[T S,V Y.f,Z J W K,Z ap ao aq]] ([(⟨S,Y.f,W,ao⟩:Gn)]:List Gn) (Ki r) r r (by decide) ⟨(lI.inn ⟨J,K,ap,aq,r,(a.dl 1 r),(a.dl 0 r)⟩),y⟩) ?_
     rintro _ cd ⟨ce,rfl,a⟩
     obtain ⟨aE,aV,b⟩:=bs b
     refine nU (kP a 4 7 r r Cq nY r (by decide) (by decide) (Nat.le_refl _) r r (a.zP 0 0 r r) aV) ?_
     rintro _ cg ⟨aF,aG,bq,rfl,a⟩
     refine s (Af r) (lg (t_n a 6 [Z aF aE aG] r Ve r r) fun ch a=>?_)
     refine n ?_
     exact aQ aB _ _ (Nat.lt_succ_self _) ⟨aE,aF,aG,bq,a9.l,a9.a,a9.c,a9.e,⟨r,r,r,y⟩,(a.ad [4,5,6,7,2] [4,7,8]),b⟩
    replace ak:=nt ak
    refine jK (cb ak) (tT ?_)
    exact ax _ _ ⟨o,c,d,v,A,C,D,E,⟨r,r,r,y⟩,(a.ad [1,2,3,4,0] [1,2,3]),sm b⟩
   rw [decide_eq_false aC]
   refine jC r (jC r (s (jY r r) (n (jK r (tT ?_)))))
   exact ax _ _ ⟨o,c,d,v,A,C,D,E,⟨r,r,r,y⟩,a,sm b⟩
 clear a
 rintro f w ⟨o,c,d,v,A,C,D,E,hf,a,aW⟩
 obtain ⟨cx,rfl⟩:=iA _ _ hf
 clear hf
 subst aW
 replace L:=gi L
 replace L:=pi (mG L)
 refine q (q (g (s (mp r) (s (xn r) (s (qY r) (s (BM r (a.bk 4 r) r) (s (kD r r) (s (kL r) ?_))))))))
 rcases iv L with ⟨aH,L⟩|⟨aH,L⟩
 ·rw [decide_eq_true aH]
  refine kg r (s (mp r) ?_)
  obtain ⟨br,bu,L⟩:=bs L
  refine kg r ?_
  refine sc (ec Dk r) (rH fu (a.pr [4] [0,1,2,3] [0] r) bu) ?_
  rintro _ ci ⟨rfl,X⟩
  replace a:=a.cn [4] [0,1,2,3] X
  refine kg r (s (Al r) (s (kr r r) (n ?_)))
  rcases iv L with ⟨ar,L⟩|⟨ar,L⟩
  ·refine jN (cb ar) (g (s (mp r) ?_))
   obtain ⟨bv,bw,L⟩:=bs L
   refine sc (ec CP r) (q8 fu (a.pr [0] [1,2,3,4] [1] r) bw) ?_
   rintro _ cj ⟨rfl,X⟩
   replace a:=a.cn [0] [1,2,3,4] X
   refine n (q (g (s (ng [Z j p m,Z c o d] Cy tX r (a.bk 3 r)) (lg (nX a 4 [Z j p m,Z c o d] r tX r r) fun ck a=>?_))))
   refine n (kT ?_)
   replace a:=a.fz 2 4 r r
   replace a:=a.fz 1 4 r r
   obtain rfl:=sm L
   refine jI r (tV r Cy r tX r (a.bk 2 r)) ?_
   exact mM (⟨j,m,c,d,r,(a.ad [0] [1,0,2])⟩)
  replace ar:=nt ar
  refine jK (cb ar) (wk (q (g (s (ng [Z j p m,Z c o d] Cy tX r (a.bk 3 r)) (lg (nX a 4 [Z j p m,Z c o d] r tX r r) fun cm a=>?_)))))
  refine n (kT ?_)
  replace a:=a.fz 2 3 r r
  replace a:=a.fz 1 3 r r
  obtain rfl:=sm L
  refine jI r (tV r Cy r tX r (a.bk 2 r)) ?_
  exact mM (⟨j,m,c,d,r,(a.ad [0] [1,0,3])⟩)
 rw [decide_eq_false aH]
 refine jC r (jC r (jC r (s (jY r r) (n (jK r (wk (q (g (s (ng [Z j p m,Z c o d] Cy tX r (a.bk 2 r)) (lg (nX a 3 [Z j p m,Z c o d] r tX r r) fun cn a=>?_))))))))))
 refine n (kT ?_)
 replace a:=a.fz 1 2 r r
 replace a:=a.fz 0 2 r r
 obtain rfl:=sm L
 refine jI r (tV r Cy r tX r (a.bk 1 r)) ?_
 exact mM (⟨j,m,c,d,r,(a.ad [2] [1,0,2])⟩)
def I4 (m:BA→Option (jR × Int × Int)):Prop:=∀ {f:World} {k:Nat→Prop} {h:BA}  {R:jR × Int × Int},Pre f k [] []→m h=some R→
 Calls Try.prog 32 #[T h] f (qW fun v w=>jy R fun e R=>jy R fun i j=>∃ (a:OA)(b:Nat)(c:OA)(d:Nat),v=.tuple #[.agg #[Z a e.a b,Z c e.b d],V i,V j]∧Bx f w k (lT []) [] [.l a b e.a,.l c d e.b])
def vQ (fu:Nat)(h:BA):Option (jR × Int × Int):=
 (zw fu h).bind fun i=>
 jy i fun c i=>jy i fun d b=>
 if b≠0 then
  some ((⟨([]:List Gr),([]:List Gn)⟩:jR),d,b)
 else
  (vE fu (⟨c,0,0,0⟩:gP)).bind fun i=>
  jy i fun f a=>
  if a.e≠0 then
   some ((⟨([]:List Gr),([]:List Gn)⟩:jR),a.c,a.e)
  else
   some (f,0,0)
theorem Dz (fu:Nat):I4 (vQ fu):=by
 intro E a3 F R z j
 unfold vQ at j
 have a:=z.bx
 clear z
 generalize Q:lT _=G at a ⊢
 refine cf Try.func32 r (lK [(0,T F)] ⟨r,y⟩ fun a4=>q (g (tu a (jV tX) fun S U a=>s (xi r) (s (xi r) (n (q (g (s (kY r) ?_))))))))
 obtain ⟨A,B,C,H,j⟩:=vD j
 refine sc (ec WR r) (LX fu (a.pr [] [0] [] r) H) ?_
 rintro _ W ⟨p,t,u,rfl,v⟩
 have w:=a.rD.size
 replace a:=a.cn [] [0] v
 replace a:=a.rb 0 E.heap.size r w
 refine s sZ (s (jZ r r) (s (jZ r r) (s (jZ r r) (s (nk r) (s (xi r) (s (xi r) (n (q (q (g (s (mi r) (s (rY r r) (n ?_)))))))))))))
 rcases iv j with ⟨x,j⟩|⟨x,j⟩
 ·refine jN (bt x) (q (g (s TG (s (mi r) (s (mi r) (lg (nX a 1 [sn,sn] r tX r r) fun X a=>s (xi r) (s (xi r) (n (kT ?_)))))))))
  replace a:=a.ku (d:=.l none 0 ([]:List Gr)) om
  replace a:=a.ku (d:=.l none 0 ([]:List Gn)) om
  obtain rfl:=sm j
  exact xH r (tV r Cy r tX r (a.bk 1 r)) (lq r) (lq r) (mM (mM (⟨none,0,none,0,r,(a.ad [] [1,0])⟩)))
 refine jK (bf x) (wk (q (g (s (nC r) (s (Sn r) (tu a (y5 r) fun Y b7 a=>s (MX r) (n (q (g (s (mp r) ?_))))))))))
 replace a:=a.fz 1 0 r r
 obtain ⟨h,D,I,j⟩:=lZ j
 refine sc (ec WX r) (Gh fu (a.pr [0] [1] [0] r) I) ?_
 rintro _ w9 ⟨b,c,e,f,rfl,v⟩
 replace a:=a.cn [0] [1] v
 refine tu a (jV tX) fun J K a=>lg (nX a 0 [Z b h.a c,Z e h.b f] r tX r r) fun L a=>n (q (q (g (s (mp r) (s (xn r) (s (qY r) (s (BM r (a.bk 1 r) r) (s (rY r r) (n ?_)))))))))
 rcases iv j with ⟨o,j⟩|⟨o,j⟩
 ·refine jN (bt o) (q (pX a [1] [] [] (by kernel_rfl) ?_))
  replace a:=a.drew
  have m:=(a.ad [1] [])
  refine pF 0 r (TG) m (pF 1 r (mp r) m (pF 2 r (xn r) m (pF 3 r (PW r) m (uF 4 r (fun hS=>l3 r (hS.bk 0 r) r) m (pF 5 r (mp r) m (pF 6 r (xn r) m (pF 7 r (qY r) m (uF 8 r (fun hS=>BM r (hS.bk 0 r) r) m (hO 9 (os r r (nX a 2 [sn,sn] r tX r r) fun M a=>?_))))))))))
  have m:=(a.ad [1] [])
  refine ⟨(sF m),(pF 10 r (xi r) m (pF 11 r (xi r) m (hD (kT ?_))))⟩
  replace a:=a.ku (d:=.l none 0 ([]:List Gr)) om
  replace a:=a.ku (d:=.l none 0 ([]:List Gn)) om
  obtain rfl:=sm j
  exact xH r (tV r Cy r tX r (a.bk 2 r)) (lq r) (lq r) (mM (mM (⟨none,0,none,0,r,(a.ad [] [1,0])⟩)))
 refine jK (bf o) (wk (q (g (s (ng [Z b h.a c,Z e h.b f] Cy tX r (a.bk 0 r)) (lg (nX a 2 [Z b h.a c,Z e h.b f] r tX r r) fun N a=>s (xi r) (s (xi r) (n (kT ?_))))))))
 obtain rfl:=sm j
 exact xH r (tV r Cy r tX r (a.bk 2 r)) (lq r) (lq r) (mM (mM (⟨b,c,e,f,r,(a.ad [] [0,1])⟩)))
end
end Go.Proofs.Ytfglbdkfnphjgaa
