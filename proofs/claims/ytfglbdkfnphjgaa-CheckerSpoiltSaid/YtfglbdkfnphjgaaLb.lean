/- Contracts, printed by gen3.py. -/
import Derived.Test.YtfglbdkfnphjgaaZt
import Derived.Test.YtfglbdkfnphjgaaLa
set_option linter.unusedVariables false
set_option maxHeartbeats 12800000
set_option linter.unusedSimpArgs false
set_option maxRecDepth 4000
namespace Go.Proofs.Ytfglbdkfnphjgaa
open Go.RowKit Go.Fw
noncomputable section
def KH (m:jy→Int→Option (jy)):Prop:=∀ {h:World} {j:Nat→Prop} {d:jy} {i:Int} {f:Nat} {a:Option Addr} {b:Nat} {c:jy},Pre h j [.box f 102 #[Z a d.l b,V d.a,V d.c,V d.e]] [.l a b d.l]→m d i=some c→
 Calls Try.prog 68 #[Pt f,V i] h (rf fun v w=>v=.tuple #[]∧Bx h w j (lT [.box f 102 #[Z a d.l b,V d.a,V d.c,V d.e]]) [.box f 102 #[Z a c.l b,V c.a,V c.c,V c.e]] [.l a b c.l])
def qC (fu:Nat)(a:jy) (b:Int):Option (jy):=
 if a.e=0 then
  (ix a.l a.a).bind fun c=>
  some (⟨a.l,a.a,c.c,b⟩:jy)
 else
  some a
theorem tX (fu:Nat):KH (qC fu):=by
 intro A F j u t d f z x o
 unfold qC at o
 have b:=x.bx
 clear x
 generalize B:lT _=G at b ⊢
 refine cf Try.func68 r (ma [(0,Pt t),(1,V u)] ⟨r,r,y⟩ fun H=>q (g (s (mp r) (s (xn r) (s (tO r) (s (CW r (b.bk 0 r) r) (s (kK r r) (n ?_))))))))
 rcases iv o with ⟨v,o⟩|⟨v,o⟩
 ·refine jH (bt v) (Fa b [] [0] [0] [0] [16,19] (by kernel_rfl) ?_)
  replace b:=b.drew
  have a:=(b.arr [] r)
  have c:=b
  refine pL 0 r (mp r) a c (pL 1 r (mp r) a c (pL 2 r (mi r) a c (pL 3 r (mp r) a c (pL 4 r (xn r) a c (pL 5 r (zO r) a c (tS 1 6 r (fun _ hS=>NN r (hS.bk 0 r) r) (mH a c) (pL 7 r (mp r) a c (pL 8 r (xn r) a c (pL 9 r (mM r) a c (tS 1 10 r (fun _ hS=>l3 r (hS.bk 0 r) r) (mH a c) ?_))))))))))
  obtain ⟨p,m,o⟩:=bs o
  obtain ⟨C,w,m⟩:=kG m
  refine pL 11 r (kZ Du qO r r w (b.dl 0 r) m) a c (pL 12 r (Kn r) a c (tU 13 r (fun _ hS=>kz EU r r ((vo (ds:=[V p.e,V p.c,T p.a,V p.d]) (hS.dl 0 r) m (fun _ h=>h)) 1 _ r)) (mH a c) (pL 14 r (xn r) a c (pL 15 r (tO r) a c (hO 16 (os r r (lW b 0 [V u] r Qm r r) fun D b=>?_))))))
  have a:=(b.arr [] r)
  refine ⟨(sy 16 a),(tP 17 r (fun _=>xn r) (sy 16 a) (tP 18 r (fun _=>Pi r) (sy 16 a) (hO 19 (os r r (lW b 0 [V p.c] r pJ r r) fun E b=>?_))))⟩
  have a:=(b.arr [] r)
  refine ⟨(sy 16 a),(hD ?_)⟩
  obtain rfl:=sm o
  exact zV (P:=Try.prog) (fn:=Try.f68) r ⟨r,b⟩
 refine jI (bf v) (wk ?_)
 obtain rfl:=sm o
 exact zV (P:=Try.prog) (fn:=Try.f68) r ⟨r,b⟩
def Nk (m:jy→Int→BA→Option (Bool)):Prop:=∀ {f:World} {k:Nat→Prop} {c:jy} {h:Int} {i:BA} {d:Nat} {a:Option Addr} {b:Nat} {j:Bool},Pre f k [.box d 102 #[Z a c.l b,V c.a,V c.c,V c.e]] [.l a b c.l]→m c h i=some j→
 Calls Try.prog 62 #[Pt d,V h,T i] f (rf fun v w=>v=.bool j∧Bx f w k (lT [.box d 102 #[Z a c.l b,V c.a,V c.c,V c.e]]) [.box d 102 #[Z a c.l b,V c.a,V c.c,V c.e]] [.l a b c.l])
def nk (fu:Nat)(a:jy) (c:Int)(d:BA):Option (Bool):=
 if (a.l.length:Int)≤(wr (a.a+c)) then
  some false
 else
  (ix a.l (wr (a.a+c))).bind fun b=>
  if b.e=3 then
   some (decide (b.a=d))
  else
   if b.e=4 then
    some (decide (b.a=d))
   else
    some false
theorem nS (fu:Nat):Nk (nk fu):=by
 intro B J p z A o j m C x c
 unfold nk at c
 have b:=x.bx
 clear x
 generalize D:lT _=G at b ⊢
 refine cf Try.func62 r (ma [(0,Pt o),(1,V z),(2,T A)] ⟨r,r,r,y⟩ fun K=>q (g (s (jU r) (n (q (q (oJ b [0] [] [] (by kernel_rfl) ?_)))))))
 replace b:=b.drew
 have a:=(b.dp [])
 refine pF 0 r (mp r) a (pF 1 r (xn r) a (pF 2 r (mM r) a (uF 3 r (fun hS=>l3 r (hS.bk 0 r) r) a (pF 4 r (mi r) a (pF 5 r (kN r r) a (pF 6 r (mp r) a (pF 7 r (xn r) a (pF 8 r (zO r) a (uF 9 r (fun hS=>NN r (hS.bk 0 r) r) a (pF 10 r (lg Du r) a (pF 11 r (Bi r r) a (hD ?_))))))))))))
 rcases iv c with ⟨t,c⟩|⟨t,c⟩
 ·refine jH (bt t) (q (g (s (jU r) (n (kP ?_)))))
  obtain rfl:=sm c
  exact jC r (kT r) ⟨r,b⟩
 refine jI (bf t) (wk (q (oJ b [0] [0] [] (by kernel_rfl) ?_)))
 replace b:=b.drew
 have a:=b
 refine pF 0 r (mp r) a (pF 1 r (xn r) a (pF 2 r (zO r) a (uF 3 r (fun hS=>NN r (hS.bk 0 r) r) a (pF 4 r (mp r) a (pF 5 r (xn r) a (pF 6 r (mM r) a (uF 7 r (fun hS=>l3 r (hS.bk 0 r) r) a (pF 8 r (mi r) a (pF 9 r (kN r r) a ?_)))))))))
 obtain ⟨d,f,c⟩:=bs c
 obtain ⟨E,u,f⟩:=kG f
 refine pF 10 r (kZ Du qO r r u (b.dl 0 r) f) a (uF 11 r (fun hS=>Mj [V d.e,V d.c,T d.a,V d.d] CO qO r (hS.dl 0 r) f) a (hO 12 (oo r r (rM b (ko qO)) ?_)))
 rintro _ F ⟨H,rfl,b⟩
 have a:=(b.arr [1] r)
 refine ⟨(sF a),(hO 13 (os r r (nD b 0 [V d.e,V d.c,T d.a,V d.d] r qO r r) fun I b=>?_))⟩
 have a:=(b.arr [1] r)
 refine ⟨(sF a),(hD (q (g (s (LK r) (s (l3 r (b.bk 0 r) r) (s (kK r r) (s (jZ r) ?_)))))))⟩
 rcases iv c with ⟨v,c⟩|⟨v,c⟩
 ·rw [decide_eq_true v]
  refine jB r (jB r (jB r (s (jN r r) (s (jZ r) (jQ r (s (JM r) (jQ r (s (l9 r (b.bk 0 r) r) (jQ r (s (lc r) (jQ r (s (rT r r) (s (jN r r) (s (jU r) (n (kP ?_))))))))))))))))
  obtain rfl:=sm c
  exact jC r (kT r) ⟨r,(b.arr [1] r)⟩
 rw [decide_eq_false v]
 refine jQ r (s (LK r) (jQ r (s (l3 r (b.bk 0 r) r) (jQ r (s (kK r r) (s (jX r r) (s (jZ r) ?_)))))))
 rcases iv c with ⟨w,c⟩|⟨w,c⟩
 ·rw [decide_eq_true w]
  refine jQ r (s (JM r) (jQ r (s (l9 r (b.bk 0 r) r) (jQ r (s (lc r) (jQ r (s (rT r r) (s (jN r r) (s (jU r) (n (kP ?_)))))))))))
  obtain rfl:=sm c
  exact jC r (kT r) ⟨r,(b.arr [1] r)⟩
 rw [decide_eq_false w]
 refine jB r (jB r (jB r (jB r (s (jX r r) (s (jU r) (n (kP ?_)))))))
 obtain rfl:=sm c
 exact jC r (kT r) ⟨r,(b.arr [1] r)⟩
def KU (m:jy→Int→Int→Option (Bool)):Prop:=∀ {f:World} {k:Nat→Prop} {c:jy} {h:Int} {i:Int} {d:Nat} {a:Option Addr} {b:Nat} {j:Bool},Pre f k [.box d 102 #[Z a c.l b,V c.a,V c.c,V c.e]] [.l a b c.l]→m c h i=some j→
 Calls Try.prog 67 #[Pt d,V h,V i] f (rf fun v w=>v=.bool j∧Bx f w k (lT [.box d 102 #[Z a c.l b,V c.a,V c.c,V c.e]]) [.box d 102 #[Z a c.l b,V c.a,V c.c,V c.e]] [.l a b c.l])
def qz (fu:Nat)(a:jy) (b:Int)(c:Int):Option (Bool):=
 if (wr (a.a+b)) < (a.l.length:Int) then
  (ix a.l (wr (a.a+b))).bind fun d=>
  some (decide (d.e=c))
 else
  some false
theorem uq (fu:Nat):KU (qz fu):=by
 intro z D o w x m f j A v d
 unfold qz at d
 have b:=v.bx
 clear v
 generalize B:lT _=G at b ⊢
 refine cf Try.func67 r (ma [(0,Pt m),(1,V w),(2,V x)] ⟨r,r,r,y⟩ fun E=>q (g (s (jU r) (n (q (oJ b [0] [0] [] (by kernel_rfl) ?_))))))
 replace b:=b.drew
 have a:=b
 refine pF 0 r (mp r) a (pF 1 r (xn r) a (pF 2 r (mM r) a (uF 3 r (fun hS=>l3 r (hS.bk 0 r) r) a (pF 4 r (mi r) a (pF 5 r (kN r r) a (pF 6 r (mp r) a (pF 7 r (xn r) a (pF 8 r (zO r) a (uF 9 r (fun hS=>NN r (hS.bk 0 r) r) a (pF 10 r (lg Du r) a (pF 11 r (qB r r) a (pF 12 r (jZ r) a ?_))))))))))))
 rcases iv d with ⟨t,d⟩|⟨t,d⟩
 ·rw [decide_eq_true t]
  have a:=b
  refine pF 13 r (mp r) a (pF 14 r (xn r) a (pF 15 r (zO r) a (uF 16 r (fun hS=>NN r (hS.bk 0 r) r) a (pF 17 r (mp r) a (pF 18 r (xn r) a (pF 19 r (mM r) a (uF 20 r (fun hS=>l3 r (hS.bk 0 r) r) a (pF 21 r (mi r) a (pF 22 r (kN r r) a ?_)))))))))
  obtain ⟨p,c,d⟩:=bs d
  obtain ⟨C,u,c⟩:=kG c
  refine pF 23 r (kZ Du qO r r u (b.dl 0 r) c) a (pF 24 r (LK r) a (tU 25 r (fun _ hS=>kz EU r r ((vo (ds:=[V p.e,V p.c,T p.a,V p.d]) (hS.dl 0 r) c (fun _ h=>h)) 0 _ r)) (sF a) (pF 26 r (mi r) a (pF 27 r (kK r r) a (pF 28 r (jN r r) a (pF 29 r (jU r) a (hD (kP ?_))))))))
  obtain rfl:=sm d
  exact jC r (kT r) ⟨r,b⟩
 rw [decide_eq_false t]
 have a:=b
 refine pM 13 r (by kernel_rfl) r (sF a) (pM 14 r (by kernel_rfl) r (sF a) (pM 15 r (by kernel_rfl) r (sF a) (pM 16 r (by kernel_rfl) r (sF a) (pM 17 r (by kernel_rfl) r (sF a) (pM 18 r (by kernel_rfl) r (sF a) (pM 19 r (by kernel_rfl) r (sF a) (pM 20 r (by kernel_rfl) r (sF a) (pM 21 r (by kernel_rfl) r (sF a) (pM 22 r (by kernel_rfl) r (sF a) (pM 23 r (by kernel_rfl) r (sF a) (pM 24 r (by kernel_rfl) r (sF a) (pM 25 r (by kernel_rfl) r (sF a) (pM 26 r (by kernel_rfl) r (sF a) (pM 27 r (by kernel_rfl) r (sF a) (pF 28 r (jX r r) a (pF 29 r (jU r) a (hD (kP ?_))))))))))))))))))
 obtain rfl:=sm d
 exact jC r (kT r) ⟨r,b⟩
def KF (m:jy→BA→Option (jy)):Prop:=∀ {h:World} {j:Nat→Prop} {d:jy} {i:BA} {f:Nat} {a:Option Addr} {b:Nat} {c:jy},Pre h j [.box f 102 #[Z a d.l b,V d.a,V d.c,V d.e]] [.l a b d.l]→m d i=some c→
 Calls Try.prog 64 #[Pt f,T i] h (rf fun v w=>v=.tuple #[]∧Bx h w j (lT [.box f 102 #[Z a d.l b,V d.a,V d.c,V d.e]]) [.box f 102 #[Z a c.l b,V c.a,V c.c,V c.e]] [.l a b c.l])
def lY (fu:Nat)(a:jy) (d:BA):Option (jy):=
 if a.e≠0 then
  some a
 else
  (nk fu a 0 d).bind fun b=>
  if (!b)=true then
   (qC fu a 7).bind fun c=>
   some c
  else
   some (⟨a.l,(wr (a.a+1)),a.c,a.e⟩:jy)
theorem mF (fu:Nat):KF (lY fu):=by
 intro A F f v h c d w p b
 unfold lY at b
 have a:=p.bx
 clear p
 generalize B:lT _=G at a ⊢
 refine cf Try.func64 r (ma [(0,Pt h),(1,T v)] ⟨r,r,y⟩ fun H=>q (q (g (s (mp r) (s (xn r) (s (tO r) (s (CW r (a.bk 0 r) r) (s (mI r r) (n ?_)))))))))
 rcases iv b with ⟨m,b⟩|⟨m,b⟩
 ·refine jH (bt m) (kP ?_)
  obtain rfl:=sm b
  exact zV (P:=Try.prog) (fn:=Try.f64) r ⟨r,a⟩
 refine jI (bf m) (wk (q (q (g (s (mp r) (s (lc r) ?_))))))
 obtain ⟨t,x,b⟩:=bs b
 refine sc (ec wK r) (nS fu (a.pr [0] [] [0] r) x) ?_
 rintro _ C ⟨rfl,o⟩
 replace a:=a.cn [0] [] o
 refine s (xc r) (n ?_)
 rcases iv b with ⟨j,b⟩|⟨j,b⟩
 ·refine jH (cb j) (q (g (s (mp r) ?_)))
  obtain ⟨u,z,b⟩:=bs b
  refine sc (ec DY r) (tX fu (a.pr [0] [] [1] r) z) ?_
  rintro _ D ⟨rfl,o⟩
  replace a:=a.cn [0] [] o
  refine n (kP ?_)
  obtain rfl:=sm b
  exact zV (P:=Try.prog) (fn:=Try.f64) r ⟨r,(a.dp [0])⟩
 replace j:=nt j
 refine jI (cb j) (wk (g (s (mp r) (s (xn r) (s (mM r) (s (l3 r (a.bk 0 r) r) (s (kN r r) (s (xn r) (s (mM r) (lu (lW a 0 [V (wr (f.a+1))] r pJ r r) fun E a=>n ?_))))))))))
 obtain rfl:=sm b
 exact zV (P:=Try.prog) (fn:=Try.f64) r ⟨r,(a.dp [1])⟩
def Kt (m:jy→Option (BA × jy)):Prop:=∀ {h:World} {j:Nat→Prop} {d:jy} {f:Nat} {a:Option Addr} {b:Nat} {R:BA × jy},Pre h j [.box f 102 #[Z a d.l b,V d.a,V d.c,V d.e]] [.l a b d.l]→m d=some R→
 Calls Try.prog 63 #[Pt f] h (rf fun v w=>iA R fun i c=>v=T i∧Bx h w j (lT [.box f 102 #[Z a d.l b,V d.a,V d.c,V d.e]]) [.box f 102 #[Z a c.l b,V c.a,V c.c,V c.e]] [.l a b c.l])
def pY (fu:Nat)(a:jy):Option (BA × jy):=
 if a.e≠0 then
  some ((⟨#[]⟩:BA),a)
 else
  (qz fu a 0 1).bind fun b=>
  if (!b)=true then
   (qC fu a 7).bind fun c=>
   some ((⟨#[]⟩:BA),c)
  else
   (ix a.l (wr ((wr (a.a+1)) - 1))).bind fun d=>
   some (d.a,(⟨a.l,(wr (a.a+1)),a.c,a.e⟩:jy))
theorem sw (fu:Nat):Kt (pY fu):=by
 intro D K j o d f R x b
 unfold pY at b
 have a:=x.bx
 clear x
 generalize E:lT _=G at a ⊢
 refine cf Try.func63 r (ma [(0,Pt o)] ⟨r,y⟩ fun L=>q (g (s (mZ r) (n (q (q (g (s (mp r) (s (xn r) (s (tO r) (s (CW r (a.bk 0 r) r) (s (mI r r) (n ?_)))))))))))))
 rcases iv b with ⟨u,b⟩|⟨u,b⟩
 ·refine jH (bt u) (q (g (s (mZ r) (n (kP ?_)))))
  obtain rfl:=sm b
  exact jC r (kT r) (lw (⟨r,a⟩))
 refine jI (bf u) (wk (q (q (g (s (mp r) ?_)))))
 obtain ⟨z,B,b⟩:=bs b
 refine sc (ec D6 r) (uq fu (a.pr [0] [] [0] r) B) ?_
 rintro _ F ⟨rfl,v⟩
 replace a:=a.cn [0] [] v
 refine s (xc r) (n ?_)
 rcases iv b with ⟨p,b⟩|⟨p,b⟩
 ·refine jH (cb p) (q (g (s (mp r) ?_)))
  obtain ⟨A,C,b⟩:=bs b
  refine sc (ec DY r) (tX fu (a.pr [0] [] [1] r) C) ?_
  rintro _ H ⟨rfl,v⟩
  replace a:=a.cn [0] [] v
  refine n (q (g (s (mZ r) (n (kP ?_)))))
  obtain rfl:=sm b
  exact jC r (kT r) (lw (⟨r,(a.dp [0])⟩))
 replace p:=nt p
 refine jI (cb p) (wk (q (g (s (mp r) (s (xn r) (s (mM r) (s (l3 r (a.bk 0 r) r) (s (kN r r) (s (xn r) (s (mM r) (lu (lW a 0 [V (wr (j.a+1))] r pJ r r) fun I a=>n (q (oJ a [0] [1] [] (by kernel_rfl) ?_)))))))))))))
 replace a:=a.drew
 have c:=(a.dp [1])
 refine pF 0 r (mp r) c (pF 1 r (xn r) c (pF 2 r (zO r) c (uF 3 r (fun hS=>NN r (hS.bk 0 r) r) c (pF 4 r (mp r) c (pF 5 r (xn r) c (pF 6 r (mM r) c (uF 7 r (fun hS=>l3 r (hS.bk 0 r) r) c (pF 8 r (xU r r) c ?_))))))))
 obtain ⟨t,m,b⟩:=bs b
 obtain ⟨J,w,m⟩:=kG m
 refine pF 9 r (kZ Du qO r r w (a.dl 1 r) m) c (pF 10 r (JM r) c (tU 11 r (fun _ hS=>kz rH r r ((vo (ds:=[V t.e,V t.c,T t.a,V t.d]) (hS.dl 0 r) m (fun _ h=>h)) 2 _ r)) (sF c) (pF 12 r (mZ r) c (hD (kP ?_)))))
 obtain rfl:=sm b
 exact jC r (kT r) (lw (⟨r,(a.dp [1])⟩))
def Kb (m:jy→Option ((List BA) × jy)):Prop:=∀ {k:World} {p:Nat→Prop} {i:jy} {j:Nat} {a:Option Addr} {b:Nat} {R:(List BA) × jy},Pre k p [.box j 102 #[Z a i.l b,V i.a,V i.c,V i.e]] [.l a b i.l]→m i=some R→
 Calls Try.prog 65 #[Pt j] k (rf fun v w=>iA R fun o c=>∃ (d:OA)(f:Nat)(h:LV),v=Z d o f∧Bx k w p (lT [.box j 102 #[Z a i.l b,V i.a,V i.c,V i.e]]) [O k.heap.size d f 9 BA h,.box j 102 #[Z a c.l b,V c.a,V c.c,V c.e]] [.els h o,.l a b c.l])
def tq (fu:Nat):Nat→(List BA)→(List kv)→Int→Int→Int→Option (Ld (List BA × List kv × Int × Int × Int) ((List BA) × jy))
 | 0,_,_,_,_,_=>none
 | o+1,h,b,c,d,a=>
 if a=0 then
  (nk fu (⟨b,c,d,a⟩:jy) 0 (⟨#[44]⟩:BA)).bind fun i=>
  if i=true then
   (lY fu (⟨b,c,d,a⟩:jy) (⟨#[44]⟩:BA)).bind fun j=>
   (pY fu j).bind fun p=>
   iA p fun k f=>
   (app h ([k]:List BA)).bind fun m=>
   tq fu o m f.l f.a f.c f.e
  else
   some (.go (h,b,c,d,a))
 else
  some (.go (h,b,c,d,a))
def xD (fu:Nat)(j:jy):Option ((List BA) × jy):=
 (pY fu j).bind fun k=>
 iA k fun b a=>
 (tq fu fu ([b]:List BA) a.l a.a a.c a.e).bind fun k=>k.el (fun k=>
 iA k fun c k=>iA k fun d k=>iA k fun f k=>iA k fun h i=>
 some (c,(⟨d,f,h,i⟩:jy))
 ) (fun o=>some o)
theorem DD (fu:Nat):Kb (xD fu):=by
 intro J aj K C u v R Y x
 unfold xD at x
 have m:=Y.bx
 clear Y
 generalize hG:lT _=G at m ⊢
 refine cf Try.func65 r (ma [(0,Pt C)] ⟨r,y⟩ fun ak=>q (g (s (nJ r) (n (q (g (s (mp r) ?_)))))))
 obtain ⟨z,A,h1,x⟩:=lV x
 refine sc (ec CY r) (sw fu (m.pr [0] [] [0] r) h1) ?_
 rintro _ w1 ⟨rfl,E⟩
 replace m:=m.cn [0] [] E
 refine qF (jV m [[T z]] ([z]:List BA) (AA r) r r (by decide) ⟨r,y⟩) ?_
 rintro _ w2 ⟨b2,rfl,m⟩
 refine s (nJ r) (n (q ?_))
 obtain ⟨Y3,a,x⟩:=bs x
 refine oC (fun f w=>∃ (h:List BA) (b:OA)(c:Nat)(d:LV)(j:List kv) (o:Int)(p:Int)(t:Int),Has f [(3,Z b h c)]∧Bx J w aj G [O J.heap.size b c 9 BA d,.box C 102 #[Z u j v,V o,V p,V t]] [.l u v j,.els d h]∧Ld.go (h,j,o,p,t)=Y3) (fun J3 F=>?_) ?_
 ·refine nZ (kH (fun al f w=>∃ (h:List BA) (b:OA)(c:Nat)(d:LV)(j:List kv) (o:Int)(p:Int)(t:Int),Has f [(0,Pt C),(3,Z b h c)]∧Bx J w aj G [O J.heap.size b c 9 BA d,.box C 102 #[Z u j v,V o,V p,V t]] [.l u v j,.els d h]∧tq fu al h j o p t=some Y3) fu ⟨([z]:List BA),(ad b2),1,[[T z]],A.l,A.a,A.c,A.e,⟨r,r,y⟩,(m.dp [1,0]),a⟩ ?_)
  clear m a
  rintro L f w ⟨h,b,c,d,j,o,p,t,hf,m,a⟩ K3 M
  obtain ⟨ak,rfl⟩:=gP _ _ hf
  clear hf
  cases L with
  | zero=>exact nn a
  | succ L=>
   rw [tq] at a
   refine q (q (g (s (mp r) (s (xn r) (s (tO r) (s (CW r (m.bk 1 r) r) (s (kK r r) (s (jZ r) ?_))))))))
   rcases iv a with ⟨N,a⟩|⟨N,a⟩
   ·rw [decide_eq_true N]
    refine jQ r (s (mp r) ?_)
    obtain ⟨a1,h5,a⟩:=bs a
    refine jQ r (sc (ec wK r) (nS fu (m.pr [1] [0] [0] r) h5) ?_)
    rintro _ w5 ⟨rfl,E⟩
    replace m:=m.cn [1] [0] E
    refine s (jN r r) (n ?_)
    rcases iv a with ⟨H,a⟩|⟨H,a⟩
    ·refine jH (cb H) (wk (nZ (q (g (s (mp r) ?_)))))
     obtain ⟨a2,h7,a⟩:=bs a
     refine sc (ec xA r) (mF fu (m.pr [0] [1] [1] r) h7) ?_
     rintro _ w7 ⟨rfl,E⟩
     replace m:=m.cn [0] [1] E
     refine n (g (s (mD r) (s (mp r) ?_)))
     obtain ⟨D,B,h8,a⟩:=lV a
     refine sc (ec CY r) (sw fu (m.pr [0] [1] [0] r) h8) ?_
     rintro _ w8 ⟨rfl,E⟩
     replace m:=m.cn [0] [1] E
     refine qF (jV m [[T D]] ([D]:List BA) (AA r) r r (by decide) ⟨r,y⟩) ?_
     rintro _ w9 ⟨b9,rfl,m⟩
     obtain ⟨Q,I,a⟩:=bs a
     refine qF (kS m 2 5 r r kL pV r (by decide) (by decide) (Nat.le_refl _) r r (m.AJ 0 0 r r) I) ?_
     rintro _ a8 ⟨S,U,W,rfl,m⟩
     exact s (nJ r) (n (M L _ _ (Nat.lt_succ_self _) ⟨Q,S,U,W,B.l,B.a,B.c,B.e,⟨r,r,y⟩,(m.ad [2,1] [1,5]),a⟩))
    replace H:=nt H
    exact jI (cb H) (uW (F _ _ ⟨h,b,c,d,j,o,p,t,⟨r,y⟩,(m.ad [1,0] [1,2]),sm a⟩))
   rw [decide_eq_false N]
   exact jB r (jB r (s (jX r r) (n (jI r (uW (F _ _ ⟨h,b,c,d,j,o,p,t,⟨r,y⟩,m,sm a⟩))))))
 clear m
 rintro f w ⟨h,b,c,d,j,o,p,t,hf,m,X⟩
 obtain ⟨ak,rfl⟩:=gP _ _ hf
 clear hf
 subst X
 replace x:=gi x
 replace x:=pi (mf x)
 refine q (g (s (mD r) (s (nJ r) (n (kP ?_)))))
 obtain rfl:=sm x
 exact jC r (kT r) (lw (⟨b,c,d,r,(m.dp [1,0])⟩))
def H6 (m:jy→Option (Bool)):Prop:=∀ {f:World} {i:Nat→Prop} {c:jy} {d:Nat} {a:Option Addr} {b:Nat} {h:Bool},Pre f i [.box d 102 #[Z a c.l b,V c.a,V c.c,V c.e]] [.l a b c.l]→m c=some h→
 Calls Try.prog 136 #[Pt d] f (rf fun v w=>v=.bool h∧Bx f w i (lT [.box d 102 #[Z a c.l b,V c.a,V c.c,V c.e]]) [.box d 102 #[Z a c.l b,V c.a,V c.c,V c.e]] [.l a b c.l])
def yl (fu:Nat)(a:jy):Option (Bool):=
 (qz fu a 0 1).bind fun b=>
 if b=true then
  some true
 else
  (qz fu a 0 2).bind fun c=>
  if c=true then
   some true
  else
   (nk fu a 0 (⟨#[40]⟩:BA)).bind fun d=>
   if d=true then
    some true
   else
    (nk fu a 0 (⟨#[45]⟩:BA)).bind fun e=>
    if e=true then
     some true
    else
     (nk fu a 0 (⟨#[33]⟩:BA)).bind fun f=>
     some f
theorem H8 (fu:Nat):H6 (yl fu):=by
 intro E N o h d f F p a
 unfold yl at a
 have b:=p.bx
 clear p
 generalize H:lT _=G at b ⊢
 refine cf Try.func136 r (ma [(0,Pt h)] ⟨r,y⟩ fun Q=>q (g (s (jU r) (n (q (g (s (mp r) ?_)))))))
 obtain ⟨t,z,a⟩:=bs a
 refine sc (ec D6 r) (uq fu (b.pr [0] [] [0] r) z) ?_
 rintro _ I ⟨rfl,c⟩
 replace b:=b.cn [0] [] c
 refine s (jZ r) ?_
 rcases iv a with ⟨i,a⟩|⟨i,a⟩
 ·rw [i]
  refine jB r (jB r (s (jN r r) (s (jZ r) (jB r (jB r (s (jN r r) (s (jZ r) (jB r (jB r (s (jN r r) (s (jZ r) (jB r (jB r (s (jN r r) (s (jU r) (n (kP ?_)))))))))))))))))
  obtain rfl:=sm a
  exact jC r (kT r) ⟨r,(b.dp [1])⟩
 replace i:=nt i
 rw [i]
 refine jQ r (s (mp r) ?_)
 obtain ⟨u,A,a⟩:=bs a
 refine jQ r (sc (ec D6 r) (uq fu (b.pr [0] [] [1] r) A) ?_)
 rintro _ J ⟨rfl,c⟩
 replace b:=b.cn [0] [] c
 refine s (jX r r) (s (jZ r) ?_)
 rcases iv a with ⟨j,a⟩|⟨j,a⟩
 ·rw [j]
  refine jB r (jB r (s (jN r r) (s (jZ r) (jB r (jB r (s (jN r r) (s (jZ r) (jB r (jB r (s (jN r r) (s (jU r) (n (kP ?_)))))))))))))
  obtain rfl:=sm a
  exact jC r (kT r) ⟨r,(b.dp [2])⟩
 replace j:=nt j
 rw [j]
 refine jQ r (s (mp r) ?_)
 obtain ⟨v,B,a⟩:=bs a
 refine jQ r (sc (ec wK r) (nS fu (b.pr [0] [] [2] r) B) ?_)
 rintro _ K ⟨rfl,c⟩
 replace b:=b.cn [0] [] c
 refine s (jX r r) (s (jZ r) ?_)
 rcases iv a with ⟨k,a⟩|⟨k,a⟩
 ·rw [k]
  refine jB r (jB r (s (jN r r) (s (jZ r) (jB r (jB r (s (jN r r) (s (jU r) (n (kP ?_)))))))))
  obtain rfl:=sm a
  exact jC r (kT r) ⟨r,(b.dp [3])⟩
 replace k:=nt k
 rw [k]
 refine jQ r (s (mp r) ?_)
 obtain ⟨w,C,a⟩:=bs a
 refine jQ r (sc (ec wK r) (nS fu (b.pr [0] [] [3] r) C) ?_)
 rintro _ L ⟨rfl,c⟩
 replace b:=b.cn [0] [] c
 refine s (jX r r) (s (jZ r) ?_)
 rcases iv a with ⟨m,a⟩|⟨m,a⟩
 ·rw [m]
  refine jB r (jB r (s (jN r r) (s (jU r) (n (kP ?_)))))
  obtain rfl:=sm a
  exact jC r (kT r) ⟨r,(b.dp [4])⟩
 replace m:=nt m
 rw [m]
 refine jQ r (s (mp r) ?_)
 obtain ⟨x,D,a⟩:=bs a
 refine jQ r (sc (ec wK r) (nS fu (b.pr [0] [] [4] r) D) ?_)
 rintro _ M ⟨rfl,c⟩
 replace b:=b.cn [0] [] c
 refine s (jX r r) (s (jU r) (n (kP ?_)))
 obtain rfl:=sm a
 exact jC r (kT r) ⟨r,(b.dp [5])⟩
def Kl (m:jy→Option (Int × Int)):Prop:=∀ {f:World} {j:Nat→Prop} {c:jy} {d:Nat} {a:Option Addr} {b:Nat} {R:Int × Int},Pre f j [.box d 102 #[Z a c.l b,V c.a,V c.c,V c.e]] [.l a b c.l]→m c=some R→
 Calls Try.prog 125 #[Pt d] f (rf fun v w=>iA R fun h i=>v=.tuple #[V h,V i]∧Bx f w j (lT [.box d 102 #[Z a c.l b,V c.a,V c.c,V c.e]]) [.box d 102 #[Z a c.l b,V c.a,V c.c,V c.e]] [.l a b c.l])
def sQ (fu:Nat)(c:jy):List BA→Nat→Option (Ld (Unit) (Int × Int))
 | [],_=>some (.go ())
 | d :: e,b=>
 (nk fu c 0 d).bind fun a=>
 if a=true then
  (ix ([3,3,4,4,4,2,2,2,1,1,1,1]:List Int) (b:Int)).bind fun f=>
  some (.out (f,(wr (6+(b:Int)))))
 else
  sQ fu c e (b+1)
def zx (fu:Nat)(a:jy):Option (Int × Int):=
 (sQ fu a ([(⟨#[43]⟩:BA),(⟨#[45]⟩:BA),(⟨#[42]⟩:BA),(⟨#[47]⟩:BA),(⟨#[37]⟩:BA),(⟨#[38]⟩:BA),(⟨#[124]⟩:BA),(⟨#[94]⟩:BA),(⟨#[60]⟩:BA),(⟨#[60,61]⟩:BA),(⟨#[61,61]⟩:BA),(⟨#[33,61]⟩:BA)]:List BA) 0).bind fun b=>b.el (fun _=>
 some (0,0)
 ) (fun o=>some o)
theorem Kh (fu:Nat):Kl (zx fu):=by
 intro t a1 i j b c R E m
 unfold zx at m
 have d:=E.bx
 clear E
 generalize Q:lT _=G at d ⊢
 refine cf Try.func125 r (ma [(0,Pt j)] ⟨r,y⟩ fun a2=>q (g (s (xi r) (s (xi r) (n (q (g (qF (jV d [[T (⟨#[43]⟩:BA)],[T (⟨#[45]⟩:BA)],[T (⟨#[42]⟩:BA)],[T (⟨#[47]⟩:BA)],[T (⟨#[37]⟩:BA)],[T (⟨#[38]⟩:BA)],[T (⟨#[124]⟩:BA)],[T (⟨#[94]⟩:BA)],[T (⟨#[60]⟩:BA)],[T (⟨#[60,61]⟩:BA)],[T (⟨#[61,61]⟩:BA)],[T (⟨#[33,61]⟩:BA)]] ([(⟨#[43]⟩:BA),(⟨#[45]⟩:BA),(⟨#[42]⟩:BA),(⟨#[47]⟩:BA),(⟨#[37]⟩:BA),(⟨#[38]⟩:BA),(⟨#[124]⟩:BA),(⟨#[94]⟩:BA),(⟨#[60]⟩:BA),(⟨#[60,61]⟩:BA),(⟨#[61,61]⟩:BA),(⟨#[33,61]⟩:BA)]:List BA) (Es r r r r r r r r r r r r) r r (by decide) ⟨r,⟨r,⟨r,⟨r,⟨r,⟨r,⟨r,⟨r,⟨r,⟨r,⟨r,⟨r,y⟩⟩⟩⟩⟩⟩⟩⟩⟩⟩⟩⟩) ?_))))))))
 rintro _ S ⟨x,rfl,d⟩
 refine s (nJ r) (n (q (g (qF (jV d [[V 3],[V 3],[V 4],[V 4],[V 4],[V 2],[V 2],[V 2],[V 1],[V 1],[V 1],[V 1]] ([3,3,4,4,4,2,2,2,1,1,1,1]:List Int) (Np r r r r r r r r r r r r) r r (by decide) ⟨r,⟨r,⟨r,⟨r,⟨r,⟨r,⟨r,⟨r,⟨r,⟨r,⟨r,⟨r,y⟩⟩⟩⟩⟩⟩⟩⟩⟩⟩⟩⟩) ?_))))
 rintro _ U ⟨z,rfl,d⟩
 refine s (nJ r) (n (q (q (g (s (mD r) (s (lg kL r) (s (mi r) (n ?_))))))))
 have I:=(d.vw 1 1 r r).bd
 obtain ⟨F,a,m⟩:=bs m
 refine oC (fun f w=>Has f []∧Bx t w a1 G [O t.heap.size (ad z) 12 3 Int [[V 3],[V 3],[V 4],[V 4],[V 4],[V 2],[V 2],[V 2],[V 1],[V 1],[V 1],[V 1]],O t.heap.size (ad x) 12 9 BA [[T (⟨#[43]⟩:BA)],[T (⟨#[45]⟩:BA)],[T (⟨#[42]⟩:BA)],[T (⟨#[47]⟩:BA)],[T (⟨#[37]⟩:BA)],[T (⟨#[38]⟩:BA)],[T (⟨#[124]⟩:BA)],[T (⟨#[94]⟩:BA)],[T (⟨#[60]⟩:BA)],[T (⟨#[60,61]⟩:BA)],[T (⟨#[61,61]⟩:BA)],[T (⟨#[33,61]⟩:BA)]],.box j 102 #[Z b i.l c,V i.a,V i.c,V i.e]] [.els [[V 3],[V 3],[V 4],[V 4],[V 4],[V 2],[V 2],[V 2],[V 1],[V 1],[V 1],[V 1]] ([3,3,4,4,4,2,2,2,1,1,1,1]:List Int),.els [[T (⟨#[43]⟩:BA)],[T (⟨#[45]⟩:BA)],[T (⟨#[42]⟩:BA)],[T (⟨#[47]⟩:BA)],[T (⟨#[37]⟩:BA)],[T (⟨#[38]⟩:BA)],[T (⟨#[124]⟩:BA)],[T (⟨#[94]⟩:BA)],[T (⟨#[60]⟩:BA)],[T (⟨#[60,61]⟩:BA)],[T (⟨#[61,61]⟩:BA)],[T (⟨#[33,61]⟩:BA)]] ([(⟨#[43]⟩:BA),(⟨#[45]⟩:BA),(⟨#[42]⟩:BA),(⟨#[47]⟩:BA),(⟨#[37]⟩:BA),(⟨#[38]⟩:BA),(⟨#[124]⟩:BA),(⟨#[94]⟩:BA),(⟨#[60]⟩:BA),(⟨#[60,61]⟩:BA),(⟨#[61,61]⟩:BA),(⟨#[33,61]⟩:BA)]:List BA),.l b c i.l]∧Ld.go ()=F) (fun W A=>?_) ?_
 ·refine nZ (kH (fun a3 f w=>∃ (k:Nat),a3=([(⟨#[43]⟩:BA),(⟨#[45]⟩:BA),(⟨#[42]⟩:BA),(⟨#[47]⟩:BA),(⟨#[37]⟩:BA),(⟨#[38]⟩:BA),(⟨#[124]⟩:BA),(⟨#[94]⟩:BA),(⟨#[60]⟩:BA),(⟨#[60,61]⟩:BA),(⟨#[61,61]⟩:BA),(⟨#[33,61]⟩:BA)]:List BA).length - k∧k≤([(⟨#[43]⟩:BA),(⟨#[45]⟩:BA),(⟨#[42]⟩:BA),(⟨#[47]⟩:BA),(⟨#[37]⟩:BA),(⟨#[38]⟩:BA),(⟨#[124]⟩:BA),(⟨#[94]⟩:BA),(⟨#[60]⟩:BA),(⟨#[60,61]⟩:BA),(⟨#[61,61]⟩:BA),(⟨#[33,61]⟩:BA)]:List BA).length∧Has f [(12,V (k:Int)),(0,Pt j),(5,.slice (ad z) ([3,3,4,4,4,2,2,2,1,1,1,1]:List Int).length 12),(10,.slice (ad x) ([(⟨#[43]⟩:BA),(⟨#[45]⟩:BA),(⟨#[42]⟩:BA),(⟨#[47]⟩:BA),(⟨#[37]⟩:BA),(⟨#[38]⟩:BA),(⟨#[124]⟩:BA),(⟨#[94]⟩:BA),(⟨#[60]⟩:BA),(⟨#[60,61]⟩:BA),(⟨#[61,61]⟩:BA),(⟨#[33,61]⟩:BA)]:List BA).length 12),(11,V ((([(⟨#[43]⟩:BA),(⟨#[45]⟩:BA),(⟨#[42]⟩:BA),(⟨#[47]⟩:BA),(⟨#[37]⟩:BA),(⟨#[38]⟩:BA),(⟨#[124]⟩:BA),(⟨#[94]⟩:BA),(⟨#[60]⟩:BA),(⟨#[60,61]⟩:BA),(⟨#[61,61]⟩:BA),(⟨#[33,61]⟩:BA)]:List BA).length:Nat):Int))]∧Bx t w a1 G [O t.heap.size (ad z) 12 3 Int [[V 3],[V 3],[V 4],[V 4],[V 4],[V 2],[V 2],[V 2],[V 1],[V 1],[V 1],[V 1]],O t.heap.size (ad x) 12 9 BA [[T (⟨#[43]⟩:BA)],[T (⟨#[45]⟩:BA)],[T (⟨#[42]⟩:BA)],[T (⟨#[47]⟩:BA)],[T (⟨#[37]⟩:BA)],[T (⟨#[38]⟩:BA)],[T (⟨#[124]⟩:BA)],[T (⟨#[94]⟩:BA)],[T (⟨#[60]⟩:BA)],[T (⟨#[60,61]⟩:BA)],[T (⟨#[61,61]⟩:BA)],[T (⟨#[33,61]⟩:BA)]],.box j 102 #[Z b i.l c,V i.a,V i.c,V i.e]] [.els [[V 3],[V 3],[V 4],[V 4],[V 4],[V 2],[V 2],[V 2],[V 1],[V 1],[V 1],[V 1]] ([3,3,4,4,4,2,2,2,1,1,1,1]:List Int),.els [[T (⟨#[43]⟩:BA)],[T (⟨#[45]⟩:BA)],[T (⟨#[42]⟩:BA)],[T (⟨#[47]⟩:BA)],[T (⟨#[37]⟩:BA)],[T (⟨#[38]⟩:BA)],[T (⟨#[124]⟩:BA)],[T (⟨#[94]⟩:BA)],[T (⟨#[60]⟩:BA)],[T (⟨#[60,61]⟩:BA)],[T (⟨#[61,61]⟩:BA)],[T (⟨#[33,61]⟩:BA)]] ([(⟨#[43]⟩:BA),(⟨#[45]⟩:BA),(⟨#[42]⟩:BA),(⟨#[47]⟩:BA),(⟨#[37]⟩:BA),(⟨#[38]⟩:BA),(⟨#[124]⟩:BA),(⟨#[94]⟩:BA),(⟨#[60]⟩:BA),(⟨#[60,61]⟩:BA),(⟨#[61,61]⟩:BA),(⟨#[33,61]⟩:BA)]:List BA),.l b c i.l]∧sQ fu i (([(⟨#[43]⟩:BA),(⟨#[45]⟩:BA),(⟨#[42]⟩:BA),(⟨#[47]⟩:BA),(⟨#[37]⟩:BA),(⟨#[38]⟩:BA),(⟨#[124]⟩:BA),(⟨#[94]⟩:BA),(⟨#[60]⟩:BA),(⟨#[60,61]⟩:BA),(⟨#[61,61]⟩:BA),(⟨#[33,61]⟩:BA)]:List BA).drop k) k=some F) (([(⟨#[43]⟩:BA),(⟨#[45]⟩:BA),(⟨#[42]⟩:BA),(⟨#[47]⟩:BA),(⟨#[37]⟩:BA),(⟨#[38]⟩:BA),(⟨#[124]⟩:BA),(⟨#[94]⟩:BA),(⟨#[60]⟩:BA),(⟨#[60,61]⟩:BA),(⟨#[61,61]⟩:BA),(⟨#[33,61]⟩:BA)]:List BA).length) ⟨0,r,Nat.zero_le _,⟨r,r,r,r,r,y⟩,d,a⟩ ?_)
  clear d a
  rintro a3 f w ⟨k,rfl,J,hf,d,a⟩ X B
  obtain ⟨a2,rfl⟩:=gP _ _ hf
  clear hf
  rcases Nat.lt_or_ge k ([(⟨#[43]⟩:BA),(⟨#[45]⟩:BA),(⟨#[42]⟩:BA),(⟨#[47]⟩:BA),(⟨#[37]⟩:BA),(⟨#[38]⟩:BA),(⟨#[124]⟩:BA),(⟨#[94]⟩:BA),(⟨#[60]⟩:BA),(⟨#[60,61]⟩:BA),(⟨#[61,61]⟩:BA),(⟨#[33,61]⟩:BA)]:List BA).length with u | u
  ·obtain ⟨K,p⟩:=lL (l:=([(⟨#[43]⟩:BA),(⟨#[45]⟩:BA),(⟨#[42]⟩:BA),(⟨#[47]⟩:BA),(⟨#[37]⟩:BA),(⟨#[38]⟩:BA),(⟨#[124]⟩:BA),(⟨#[94]⟩:BA),(⟨#[60]⟩:BA),(⟨#[60,61]⟩:BA),(⟨#[61,61]⟩:BA),(⟨#[33,61]⟩:BA)]:List BA)) u
   rw [mQ p,sQ] at a
   refine q (g (s (qK r r (by omega)) (n (q (jH r (wk (q (nZ (q (g (s (mi r) (s (kZ kL pV r r r (d.vw 1 1 r r) p) (s (kz rH r r ((vo (ds:=[T K]) (d.vw 1 1 r r) p (fun _ h=>h)) 0 _ r)) (s (xi r) (s (mZ r) (n (q (g (s (mp r) (s (lc r) ?_))))))))))))))))))))
   obtain ⟨H,L,a⟩:=bs a
   refine sc (ec wK r) (nS fu (d.pr [2] [0,1] [2] r) L) ?_
   rintro _ Y ⟨rfl,M⟩
   replace d:=d.cn [2] [0,1] M
   refine n ?_
   rcases iv a with ⟨v,a⟩|⟨v,a⟩
   ·refine jH (cb v) (q (g (s (mD r) (s (mi r) ?_))))
    obtain ⟨N,o,a⟩:=bs a
    obtain ⟨k6,C,o⟩:=kG o
    refine s (kZ vE pJ r r C (d.vw 1 1 r r) o) (s (kz EU r r ((vo (ds:=[V N]) (d.vw 1 1 r r) o (fun _ h=>h)) 0 _ r)) (s (mi r) (s (kN r r) (s (xi r) (s (xi r) (n (kP ?_)))))))
    obtain rfl:=sm a
    replace m:=oi m
    obtain rfl:=sm m
    exact rO r (kT r) (kT r) (lw (⟨r,(d.ad [0] [3])⟩))
   replace v:=nt v
   exact jI (cb v) (wk (g (s (mg r r (by omega) (by omega)) (s (mi r) (n (B (([(⟨#[43]⟩:BA),(⟨#[45]⟩:BA),(⟨#[42]⟩:BA),(⟨#[47]⟩:BA),(⟨#[37]⟩:BA),(⟨#[38]⟩:BA),(⟨#[124]⟩:BA),(⟨#[94]⟩:BA),(⟨#[60]⟩:BA),(⟨#[60,61]⟩:BA),(⟨#[61,61]⟩:BA),(⟨#[33,61]⟩:BA)]:List BA).length - (k+1)) _ _ (by omega) ⟨k+1,r,by omega,⟨r,r,r,r,r,y⟩,(d.ad [1,2,0] [1,2,3]),a⟩))))))
  obtain rfl:k=([(⟨#[43]⟩:BA),(⟨#[45]⟩:BA),(⟨#[42]⟩:BA),(⟨#[47]⟩:BA),(⟨#[37]⟩:BA),(⟨#[38]⟩:BA),(⟨#[124]⟩:BA),(⟨#[94]⟩:BA),(⟨#[60]⟩:BA),(⟨#[60,61]⟩:BA),(⟨#[61,61]⟩:BA),(⟨#[33,61]⟩:BA)]:List BA).length:=by omega
  rw [lH,sQ] at a
  exact q (g (s (qL r r (by omega)) (n (q (jI r (uW (A _ _ ⟨y,d,sm a⟩)))))))
 clear d
 rintro f w ⟨hf,d,D⟩
 obtain ⟨a2,rfl⟩:=gP _ _ hf
 clear hf
 subst D
 replace m:=gi m
 refine q (g (s (xi r) (s (xi r) (n (kP ?_)))))
 obtain rfl:=sm m
 exact rO r (kT r) (kT r) (lw (⟨r,(d.ad [2] [2])⟩))
def LD (m:jy→Option (Bool)):Prop:=∀ {f:World} {i:Nat→Prop} {c:jy} {d:Nat} {a:Option Addr} {b:Nat} {h:Bool},Pre f i [.box d 102 #[Z a c.l b,V c.a,V c.c,V c.e]] [.l a b c.l]→m c=some h→
 Calls Try.prog 126 #[Pt d] f (rf fun v w=>v=.bool h∧Bx f w i (lT [.box d 102 #[Z a c.l b,V c.a,V c.c,V c.e]]) [.box d 102 #[Z a c.l b,V c.a,V c.c,V c.e]] [.l a b c.l])
def uT (fu:Nat)(c:jy):Option (Bool):=
 (qz fu c 0 1).bind fun a=>
 if a=true then
  (nk fu c 1 (⟨#[40]⟩:BA)).bind fun b=>
  some b
 else
  some false
theorem EQ (fu:Nat):LD (uT fu):=by
 intro u A i f c d v k b
 unfold uT at b
 have a:=k.bx
 clear k
 generalize w:lT _=G at a ⊢
 refine cf Try.func126 r (ma [(0,Pt f)] ⟨r,y⟩ fun B=>q (g (s (jU r) (n (q (g (s (mp r) ?_)))))))
 obtain ⟨m,p,b⟩:=bs b
 refine sc (ec D6 r) (uq fu (a.pr [0] [] [0] r) p) ?_
 rintro _ x ⟨rfl,j⟩
 replace a:=a.cn [0] [] j
 refine s (jZ r) ?_
 rcases iv b with ⟨h,b⟩|⟨h,b⟩
 ·rw [h]
  refine jQ r (s (mp r) ?_)
  obtain ⟨o,t,b⟩:=bs b
  refine jQ r (sc (ec wK r) (nS fu (a.pr [0] [] [1] r) t) ?_)
  rintro _ z ⟨rfl,j⟩
  replace a:=a.cn [0] [] j
  refine s (jN r r) (s (jU r) (n (kP ?_)))
  obtain rfl:=sm b
  exact jC r (kT r) ⟨r,(a.dp [2])⟩
 replace h:=nt h
 rw [h]
 refine jB r (jB r (s (jX r r) (s (jU r) (n (kP ?_)))))
 obtain rfl:=sm b
 exact jC r (kT r) ⟨r,(a.dp [1])⟩
def Ir (m:jy→Option (Bool)):Prop:=∀ {f:World} {i:Nat→Prop} {c:jy} {d:Nat} {a:Option Addr} {b:Nat} {h:Bool},Pre f i [.box d 102 #[Z a c.l b,V c.a,V c.c,V c.e]] [.l a b c.l]→m c=some h→
 Calls Try.prog 93 #[Pt d] f (rf fun v w=>v=.bool h∧Bx f w i (lT [.box d 102 #[Z a c.l b,V c.a,V c.c,V c.e]]) [.box d 102 #[Z a c.l b,V c.a,V c.c,V c.e]] [.l a b c.l])
def ry (fu:Nat)(b:jy):List BA→Nat→Option (Ld (Unit) (Bool))
 | [],_=>some (.go ())
 | c :: d,e=>
 (nk fu b 0 c).bind fun a=>
 if a=true then
  some (.out true)
 else
  ry fu b d (e+1)
def xZ (fu:Nat)(b:jy):Option (Bool):=
 (ry fu b ([(⟨#[118,97,114]⟩:BA),(⟨#[105,102]⟩:BA),(⟨#[119,104,105,108,101]⟩:BA),(⟨#[114,101,116,117,114,110]⟩:BA),(⟨#[116,104,114,111,119]⟩:BA),(⟨#[116,114,121]⟩:BA),(⟨#[112,114,105,110,116]⟩:BA)]:List BA) 0).bind fun c=>c.el (fun _=>
 (qz fu b 0 1).bind fun a=>
 some a
 ) (fun o=>some o)
theorem Ic (fu:Nat):Ir (xZ fu):=by
 intro u X i j b c M C k
 unfold xZ at k
 have d:=C.bx
 clear C
 generalize N:lT _=G at d ⊢
 refine cf Try.func93 r (ma [(0,Pt j)] ⟨r,y⟩ fun Y=>q (g (s (jU r) (n (q (q (g (qF (jV d [[T (⟨#[118,97,114]⟩:BA)],[T (⟨#[105,102]⟩:BA)],[T (⟨#[119,104,105,108,101]⟩:BA)],[T (⟨#[114,101,116,117,114,110]⟩:BA)],[T (⟨#[116,104,114,111,119]⟩:BA)],[T (⟨#[116,114,121]⟩:BA)],[T (⟨#[112,114,105,110,116]⟩:BA)]] ([(⟨#[118,97,114]⟩:BA),(⟨#[105,102]⟩:BA),(⟨#[119,104,105,108,101]⟩:BA),(⟨#[114,101,116,117,114,110]⟩:BA),(⟨#[116,104,114,111,119]⟩:BA),(⟨#[116,114,121]⟩:BA),(⟨#[112,114,105,110,116]⟩:BA)]:List BA) (Py r r r r r r r) r r (by decide) ⟨r,⟨r,⟨r,⟨r,⟨r,⟨r,⟨r,y⟩⟩⟩⟩⟩⟩⟩) ?_))))))))
 rintro _ Q ⟨v,rfl,d⟩
 refine s (lg kL r) (s (mi r) (n ?_))
 have H:=(d.vw 0 0 r r).bd
 obtain ⟨D,a,k⟩:=bs k
 refine oC (fun f w=>Has f [(0,Pt j)]∧Bx u w X G [O u.heap.size (ad v) 7 9 BA [[T (⟨#[118,97,114]⟩:BA)],[T (⟨#[105,102]⟩:BA)],[T (⟨#[119,104,105,108,101]⟩:BA)],[T (⟨#[114,101,116,117,114,110]⟩:BA)],[T (⟨#[116,104,114,111,119]⟩:BA)],[T (⟨#[116,114,121]⟩:BA)],[T (⟨#[112,114,105,110,116]⟩:BA)]],.box j 102 #[Z b i.l c,V i.a,V i.c,V i.e]] [.els [[T (⟨#[118,97,114]⟩:BA)],[T (⟨#[105,102]⟩:BA)],[T (⟨#[119,104,105,108,101]⟩:BA)],[T (⟨#[114,101,116,117,114,110]⟩:BA)],[T (⟨#[116,104,114,111,119]⟩:BA)],[T (⟨#[116,114,121]⟩:BA)],[T (⟨#[112,114,105,110,116]⟩:BA)]] ([(⟨#[118,97,114]⟩:BA),(⟨#[105,102]⟩:BA),(⟨#[119,104,105,108,101]⟩:BA),(⟨#[114,101,116,117,114,110]⟩:BA),(⟨#[116,104,114,111,119]⟩:BA),(⟨#[116,114,121]⟩:BA),(⟨#[112,114,105,110,116]⟩:BA)]:List BA),.l b c i.l]∧Ld.go ()=D) (fun R x=>?_) ?_
 ·refine nZ (kH (fun a0 f w=>∃ (m:Nat),a0=([(⟨#[118,97,114]⟩:BA),(⟨#[105,102]⟩:BA),(⟨#[119,104,105,108,101]⟩:BA),(⟨#[114,101,116,117,114,110]⟩:BA),(⟨#[116,104,114,111,119]⟩:BA),(⟨#[116,114,121]⟩:BA),(⟨#[112,114,105,110,116]⟩:BA)]:List BA).length - m∧m≤([(⟨#[118,97,114]⟩:BA),(⟨#[105,102]⟩:BA),(⟨#[119,104,105,108,101]⟩:BA),(⟨#[114,101,116,117,114,110]⟩:BA),(⟨#[116,104,114,111,119]⟩:BA),(⟨#[116,114,121]⟩:BA),(⟨#[112,114,105,110,116]⟩:BA)]:List BA).length∧Has f [(7,V (m:Int)),(0,Pt j),(5,.slice (ad v) ([(⟨#[118,97,114]⟩:BA),(⟨#[105,102]⟩:BA),(⟨#[119,104,105,108,101]⟩:BA),(⟨#[114,101,116,117,114,110]⟩:BA),(⟨#[116,104,114,111,119]⟩:BA),(⟨#[116,114,121]⟩:BA),(⟨#[112,114,105,110,116]⟩:BA)]:List BA).length 7),(6,V ((([(⟨#[118,97,114]⟩:BA),(⟨#[105,102]⟩:BA),(⟨#[119,104,105,108,101]⟩:BA),(⟨#[114,101,116,117,114,110]⟩:BA),(⟨#[116,104,114,111,119]⟩:BA),(⟨#[116,114,121]⟩:BA),(⟨#[112,114,105,110,116]⟩:BA)]:List BA).length:Nat):Int))]∧Bx u w X G [O u.heap.size (ad v) 7 9 BA [[T (⟨#[118,97,114]⟩:BA)],[T (⟨#[105,102]⟩:BA)],[T (⟨#[119,104,105,108,101]⟩:BA)],[T (⟨#[114,101,116,117,114,110]⟩:BA)],[T (⟨#[116,104,114,111,119]⟩:BA)],[T (⟨#[116,114,121]⟩:BA)],[T (⟨#[112,114,105,110,116]⟩:BA)]],.box j 102 #[Z b i.l c,V i.a,V i.c,V i.e]] [.els [[T (⟨#[118,97,114]⟩:BA)],[T (⟨#[105,102]⟩:BA)],[T (⟨#[119,104,105,108,101]⟩:BA)],[T (⟨#[114,101,116,117,114,110]⟩:BA)],[T (⟨#[116,104,114,111,119]⟩:BA)],[T (⟨#[116,114,121]⟩:BA)],[T (⟨#[112,114,105,110,116]⟩:BA)]] ([(⟨#[118,97,114]⟩:BA),(⟨#[105,102]⟩:BA),(⟨#[119,104,105,108,101]⟩:BA),(⟨#[114,101,116,117,114,110]⟩:BA),(⟨#[116,104,114,111,119]⟩:BA),(⟨#[116,114,121]⟩:BA),(⟨#[112,114,105,110,116]⟩:BA)]:List BA),.l b c i.l]∧ry fu i (([(⟨#[118,97,114]⟩:BA),(⟨#[105,102]⟩:BA),(⟨#[119,104,105,108,101]⟩:BA),(⟨#[114,101,116,117,114,110]⟩:BA),(⟨#[116,104,114,111,119]⟩:BA),(⟨#[116,114,121]⟩:BA),(⟨#[112,114,105,110,116]⟩:BA)]:List BA).drop m) m=some D) (([(⟨#[118,97,114]⟩:BA),(⟨#[105,102]⟩:BA),(⟨#[119,104,105,108,101]⟩:BA),(⟨#[114,101,116,117,114,110]⟩:BA),(⟨#[116,104,114,111,119]⟩:BA),(⟨#[116,114,121]⟩:BA),(⟨#[112,114,105,110,116]⟩:BA)]:List BA).length) ⟨0,r,Nat.zero_le _,⟨r,r,r,r,y⟩,d,a⟩ ?_)
  clear d a
  rintro a0 f w ⟨m,rfl,I,hf,d,a⟩ S z
  obtain ⟨Y,rfl⟩:=gP _ _ hf
  clear hf
  rcases Nat.lt_or_ge m ([(⟨#[118,97,114]⟩:BA),(⟨#[105,102]⟩:BA),(⟨#[119,104,105,108,101]⟩:BA),(⟨#[114,101,116,117,114,110]⟩:BA),(⟨#[116,104,114,111,119]⟩:BA),(⟨#[116,114,121]⟩:BA),(⟨#[112,114,105,110,116]⟩:BA)]:List BA).length with p | p
  ·obtain ⟨J,o⟩:=lL (l:=([(⟨#[118,97,114]⟩:BA),(⟨#[105,102]⟩:BA),(⟨#[119,104,105,108,101]⟩:BA),(⟨#[114,101,116,117,114,110]⟩:BA),(⟨#[116,104,114,111,119]⟩:BA),(⟨#[116,114,121]⟩:BA),(⟨#[112,114,105,110,116]⟩:BA)]:List BA)) p
   rw [mQ o,ry] at a
   refine q (g (s (qK r r (by omega)) (n (q (jH r (wk (q (nZ (q (g (s (kZ kL pV r r r (d.vw 0 0 r r) o) (s (kz rH r r ((vo (ds:=[T J]) (d.vw 0 0 r r) o (fun _ h=>h)) 0 _ r)) (s (mZ r) (n (q (g (s (mp r) (s (lc r) ?_))))))))))))))))))
   obtain ⟨E,K,a⟩:=bs a
   refine sc (ec wK r) (nS fu (d.pr [1] [0] [1] r) K) ?_
   rintro _ U ⟨rfl,A⟩
   replace d:=d.cn [1] [0] A
   refine n ?_
   rcases iv a with ⟨t,a⟩|⟨t,a⟩
   ·refine jH (cb t) (q (g (s (jU r) (n (kP ?_)))))
    obtain rfl:=sm a
    replace k:=oi k
    obtain rfl:=sm k
    exact jC r (kT r) ⟨r,(d.ad [0] [2])⟩
   replace t:=nt t
   exact jI (cb t) (wk (g (s (mg r r (by omega) (by omega)) (s (mi r) (n (z (([(⟨#[118,97,114]⟩:BA),(⟨#[105,102]⟩:BA),(⟨#[119,104,105,108,101]⟩:BA),(⟨#[114,101,116,117,114,110]⟩:BA),(⟨#[116,104,114,111,119]⟩:BA),(⟨#[116,114,121]⟩:BA),(⟨#[112,114,105,110,116]⟩:BA)]:List BA).length - (m+1)) _ _ (by omega) ⟨m+1,r,by omega,⟨r,r,r,r,y⟩,(d.ad [1,0] [1,2]),a⟩))))))
  obtain rfl:m=([(⟨#[118,97,114]⟩:BA),(⟨#[105,102]⟩:BA),(⟨#[119,104,105,108,101]⟩:BA),(⟨#[114,101,116,117,114,110]⟩:BA),(⟨#[116,104,114,111,119]⟩:BA),(⟨#[116,114,121]⟩:BA),(⟨#[112,114,105,110,116]⟩:BA)]:List BA).length:=by omega
  rw [lH,ry] at a
  exact q (g (s (qL r r (by omega)) (n (q (jI r (uW (x _ _ ⟨⟨r,y⟩,d,sm a⟩)))))))
 clear d
 rintro f w ⟨hf,d,B⟩
 obtain ⟨Y,rfl⟩:=gP _ _ hf
 clear hf
 subst B
 replace k:=gi k
 refine q (g (s (mp r) ?_))
 obtain ⟨F,L,k⟩:=bs k
 refine sc (ec D6 r) (uq fu (d.pr [1] [0] [1] r) L) ?_
 rintro _ W ⟨rfl,A⟩
 replace d:=d.cn [1] [0] A
 refine s (jU r) (n (kP ?_))
 obtain rfl:=sm k
 exact jC r (kT r) ⟨r,(d.ad [0] [2])⟩
abbrev nQ:=jy→Int→Int→Option (jL × jy)
abbrev sD:=jy→Int→Option (jL × jy)
abbrev qI:=jy→Int→Option (jL × jy)
def qZ (m:jy→Int→Int→Option (Ge × jy)):Prop:=∀ {k:World} {t:Nat→Prop} {h:jy} {o:Int} {p:Int} {i:Nat} {a:Option Addr} {b:Nat} {R:Ge × jy},Pre k t [.box i 102 #[Z a h.l b,V h.a,V h.c,V h.e]] [.l a b h.l]→m h o p=some R→
 Calls Try.prog 112 #[Pt i,V o,V p] k (rf fun v w=>iA R fun j c=>∃ (d:OA)(f:Nat),v=.agg #[V j.e,V j.d,V j.j,T j.a,T j.c,Z d j.b f]∧Bx k w t (lT [.box i 102 #[Z a h.l b,V h.a,V h.c,V h.e]]) [.box i 102 #[Z a c.l b,V c.a,V c.c,V c.e]] [.l d f j.b,.l a b c.l])
def yu (m:jy→Int→Option (Ge × jy)):Prop:=∀ {k:World} {p:Nat→Prop} {h:jy} {o:Int} {i:Nat} {a:Option Addr} {b:Nat} {R:Ge × jy},Pre k p [.box i 102 #[Z a h.l b,V h.a,V h.c,V h.e]] [.l a b h.l]→m h o=some R→
 Calls Try.prog 124 #[Pt i,V o] k (rf fun v w=>iA R fun j c=>∃ (d:OA)(f:Nat),v=.agg #[V j.e,V j.d,V j.j,T j.a,T j.c,Z d j.b f]∧Bx k w p (lT [.box i 102 #[Z a h.l b,V h.a,V h.c,V h.e]]) [.box i 102 #[Z a c.l b,V c.a,V c.c,V c.e]] [.l d f j.b,.l a b c.l])
def vz (m:jy→Int→Option (Ge × jy)):Prop:=∀ {k:World} {p:Nat→Prop} {h:jy} {o:Int} {i:Nat} {a:Option Addr} {b:Nat} {R:Ge × jy},Pre k p [.box i 102 #[Z a h.l b,V h.a,V h.c,V h.e]] [.l a b h.l]→m h o=some R→
 Calls Try.prog 128 #[Pt i,V o] k (rf fun v w=>iA R fun j c=>∃ (d:OA)(f:Nat),v=.agg #[V j.e,V j.d,V j.j,T j.a,T j.c,Z d j.b f]∧Bx k w p (lT [.box i 102 #[Z a h.l b,V h.a,V h.c,V h.e]]) [.box i 102 #[Z a c.l b,V c.a,V c.c,V c.e]] [.l d f j.b,.l a b c.l])
def uG (fu:Nat)(r_r03_expression:nQ) (r_r03_unary:sD) (r_r03_target:qI) (f:jy) (h:Int)(i:Int):Option (Ld (Int × Int × Int × BA × BA × List Ge × List kv × Int × Int × Int) (Ge × jy)):=
 if h=5 then
  (r_r03_unary f i).bind fun j=>
  iA j fun a c=>
  some (.go (a.e,a.d,a.j,a.a,a.c,a.b,c.l,c.a,c.c,c.e))
 else
  (r_r03_expression f (wr (h+1)) i).bind fun j=>
  iA j fun b d=>
  some (.go (b.e,b.d,b.j,b.a,b.c,b.b,d.l,d.a,d.c,d.e))
def qj (fu:Nat)(r_r03_expression:nQ) (r_r03_unary:sD) (r_r03_target:qI) (v:Int)(w:Int):Nat→Int→Int→Int→BA→BA→(List Ge)→(List kv)→Int→Int→Int→Option (Ld (Int × Int × Int × BA × BA × List Ge × List kv × Int × Int × Int) (Ge × jy))
 | 0,_,_,_,_,_,_,_,_,_,_=>none
 | x+1,c,d,f,h,i,j,k,m,o,a=>
 if a=0 then
  if v < 5 then
   (zx fu (⟨k,m,o,a⟩:jy)).bind fun z=>
   iA z fun u p=>
   if u≠v then
    some (.out ((⟨c,d,f,h,i,j⟩:Ge),(⟨k,m,o,a⟩:jy)))
   else
    (r_r03_expression (⟨k,(wr (m+1)),o,a⟩:jy) (wr (v+1)) w).bind fun z=>
    iA z fun t b=>
    if v=1 then
     some (.out ((⟨p,0,0,be,be,([(⟨c,d,f,h,i,j⟩:Ge),t]:List Ge)⟩:Ge),b))
    else
     qj fu r_r03_expression r_r03_unary r_r03_target v w x p 0 0 be be ([(⟨c,d,f,h,i,j⟩:Ge),t]:List Ge) b.l b.a b.c b.e
  else
   some (.go (c,d,f,h,i,j,k,m,o,a))
 else
  some (.go (c,d,f,h,i,j,k,m,o,a))
def uM (fu:Nat)(r_r03_expression:nQ) (r_r03_unary:sD) (r_r03_target:qI) (D:jy) (B:Int)(C:Int):Option (Ge × jy):=
 (uG fu r_r03_expression r_r03_unary r_r03_target D B C).bind fun E=>E.el (fun E=>
 iA E fun c E=>iA E fun d E=>iA E fun e E=>iA E fun f E=>iA E fun h E=>iA E fun i E=>iA E fun j E=>iA E fun k E=>iA E fun l a=>
 (qj fu r_r03_expression r_r03_unary r_r03_target B C fu c d e f h i j k l a).bind fun E=>E.el (fun E=>
 iA E fun m E=>iA E fun p E=>iA E fun t E=>iA E fun u E=>iA E fun v E=>iA E fun w E=>iA E fun x E=>iA E fun z E=>iA E fun A b=>
 some ((⟨m,p,t,u,v,w⟩:Ge),(⟨x,z,A,b⟩:jy))
 ) (fun o=>some o)
 ) (fun o=>some o)
def sW (fu:Nat)(r_r03_expression:nQ) (r_r03_unary:sD) (r_r03_target:qI) (d:jy) (j:Int):List BA→Nat→Option (Ld (Unit) (Ge × jy))
 | [],_=>some (.go ())
 | h :: i,f=>
 (nk fu d 0 h).bind fun a=>
 if a=true then
  (r_r03_unary (⟨d.l,(wr (d.a+1)),d.c,d.e⟩:jy) (wr (j+1))).bind fun k=>
  iA k fun b c=>
  some (.out ((⟨(wr (4+(f:Int))),0,0,be,be,([b]:List Ge)⟩:Ge),c))
 else
  sW fu r_r03_expression r_r03_unary r_r03_target d j i (f+1)
def zG (fu:Nat)(r_r03_expression:nQ) (r_r03_unary:sD) (r_r03_target:qI) (a:jy) (t:Int):Option (Ge × jy):=
 if a.e≠0 then
  some ((⟨0,0,0,be,be,([]:List Ge)⟩:Ge),a)
 else
  (yl fu a).bind fun m=>
  if (!m)=true then
   (qC fu a 7).bind fun p=>
   some ((⟨0,0,0,be,be,([]:List Ge)⟩:Ge),p)
  else
   if 8 < t then
    (qC fu a 5).bind fun b=>
    some ((⟨0,0,0,be,be,([]:List Ge)⟩:Ge),b)
   else
    (sW fu r_r03_expression r_r03_unary r_r03_target a t ([(⟨#[45]⟩:BA),(⟨#[33]⟩:BA)]:List BA) 0).bind fun v=>v.el (fun _=>
    (qz fu a 0 2).bind fun c=>
    if c=true then
     (ix a.l (wr ((wr (a.a+1)) - 1))).bind fun u=>
     some ((⟨0,u.d,0,be,be,([]:List Ge)⟩:Ge),(⟨a.l,(wr (a.a+1)),a.c,a.e⟩:jy))
    else
     (nk fu a 0 (⟨#[40]⟩:BA)).bind fun d=>
     if d=true then
      (r_r03_expression (⟨a.l,(wr (a.a+1)),a.c,a.e⟩:jy) 1 (wr (t+1))).bind fun v=>
      iA v fun f h=>
      (lY fu h (⟨#[41]⟩:BA)).bind fun i=>
      some (f,i)
     else
      (r_r03_target a t).bind fun v=>
      iA v fun j k=>
      some (j,k)
    ) (fun o=>some o)
def wS (fu:Nat)(r_r03_expression:nQ) (r_r03_unary:sD) (r_r03_target:qI) (b:BA) (a:jy):Option (Ld (Unit) (Ge × jy)):=
 if a.e=0 then
  (nk fu a 0 (⟨#[46]⟩:BA)).bind fun c=>
  if c=true then
   (pY fu (⟨a.l,(wr (a.a+1)),a.c,a.e⟩:jy)).bind fun h=>
   iA h fun d f=>
   some (.out ((⟨2,0,0,b,d,([]:List Ge)⟩:Ge),f))
  else
   some (.go ())
 else
  some (.go ())
def xG (fu:Nat)(r_r03_expression:nQ) (r_r03_unary:sD) (r_r03_target:qI) (i:jy) (j:Int):Option (Ge × jy):=
 (pY fu i).bind fun k=>
 iA k fun b a=>
 (wS fu r_r03_expression r_r03_unary r_r03_target b a).bind fun k=>k.el (fun _=>
 if a.e=0 then
  (nk fu a 0 (⟨#[91]⟩:BA)).bind fun c=>
  if c=true then
   (r_r03_expression (⟨a.l,(wr (a.a+1)),a.c,a.e⟩:jy) 1 (wr (j+1))).bind fun k=>
   iA k fun d f=>
   (lY fu f (⟨#[93]⟩:BA)).bind fun h=>
   some ((⟨3,0,0,b,be,([d]:List Ge)⟩:Ge),h)
  else
   some ((⟨1,0,0,b,be,([]:List Ge)⟩:Ge),a)
 else
  some ((⟨1,0,0,b,be,([]:List Ge)⟩:Ge),a)
 ) (fun o=>some o)
def lS:Nat→(jy→Int→Int→Option (Ge × jy)) × (jy→Int→Option (Ge × jy)) × (jy→Int→Option (Ge × jy))
 | 0=>((fun _ _ _=>none),(fun _ _=>none),(fun _ _=>none))
 | fu+1=>(uM fu ((lS fu).1) ((lS fu).2.1) ((lS fu).2.2),zG fu ((lS fu).1) ((lS fu).2.1) ((lS fu).2.2),xG fu ((lS fu).1) ((lS fu).2.1) ((lS fu).2.2))
def mJ (fu:Nat):=(lS fu).1
def zw (fu:Nat):=(lS fu).2.1
def uS (fu:Nat):=(lS fu).2.2
theorem DI (fu:Nat)(r_r03_expression:nQ) (r_r03_unary:sD) (r_r03_target:qI) (H_r03_expression:qZ r_r03_expression) (H_r03_unary:yu r_r03_unary) (H_r03_target:vz r_r03_target):qZ (uM fu r_r03_expression r_r03_unary r_r03_target):=by
 intro w0 b0 x0 x1 x2 a1 E F R hP z
 unfold uM at z
 have d:=hP.bx
 clear hP
 generalize hG:lT _=G at d ⊢
 refine cf Try.func112 r ?_
 refine ma [(0,Pt a1),(1,V x1),(2,V x2)] ⟨r,r,r,y⟩ fun b3=>?_
 refine q (g (tL d (ko jT) fun w1 b1 d=>?_))
 refine n (q (g (tL d (ko jT) fun w2 b2 d=>?_)))
 refine n (q ?_)
 obtain ⟨Y3,J,z⟩:=bs z
 refine oC (fun f w=>∃ (a3:Int)(a4:Int)(a5:Int)(a6:BA) (a7:BA) (Y:List Ge) (S:OA)(U:Nat)(a0:List kv) (a8:Int)(a9:Int)(W:Int),Has f [(0,Pt a1),(1,V x1),(2,V x2),(6,Pt b1),(7,Pt b2)]∧Bx w0 w b0 G [.box b2 138 #[V a3,V a4,V a5,T a6,T a7,Z S Y U],.box b1 138 #[V 0,V 0,V 0,T be,T be,sn],.box a1 102 #[Z E a0 F,V a8,V a9,V W]] [.l S U Y,.l E F a0]∧Ld.go (a3,a4,a5,a6,a7,Y,a0,a8,a9,W)=Y3) (fun J3 ak=>?_) ?_
 ·unfold uG at J
  refine q (g (s (mi r) (s (kK r r) (n ?_))))
  rcases iv J with ⟨h4,J⟩|⟨h4,J⟩
  ·refine jH (bt h4) (g (s (mp r) (s (mi r) ?_)))
   obtain ⟨v,aa,h5,J⟩:=lV J
   refine sc (ec NV r) (H_r03_unary (d.pr [2] [0,1] [0] r) h5) ?_
   rintro _ w5 ⟨L,M,rfl,hK⟩
   replace d:=d.cn [2] [0,1] hK
   refine lu (nD d 1 [V v.e,V v.d,V v.j,T v.a,T v.c,Z L v.b M] r jT r r) fun w6 d=>?_
   refine n ?_
   exact ak _ _ ⟨v.e,v.d,v.j,v.a,v.c,v.b,L,M,aa.l,aa.a,aa.c,aa.e,⟨r,r,r,r,r,y⟩,(d.ad [1,2,0] [0,1]),sm J⟩
  refine jI (bf h4) (g (s (mp r) (s (mi r) (s (kN r r) (s (mi r) ?_)))))
  obtain ⟨x,ab,h7,J⟩:=lV J
  refine sc (ec BC r) (H_r03_expression (d.pr [2] [0,1] [0] r) h7) ?_
  rintro _ w7 ⟨N,Q,rfl,hK⟩
  replace d:=d.cn [2] [0,1] hK
  refine lu (nD d 1 [V x.e,V x.d,V x.j,T x.a,T x.c,Z N x.b Q] r jT r r) fun w8 d=>?_
  refine n ?_
  exact ak _ _ ⟨x.e,x.d,x.j,x.a,x.c,x.b,N,Q,ab.l,ab.a,ab.c,ab.e,⟨r,r,r,r,r,y⟩,(d.ad [1,2,0] [0,1]),sm J⟩
 clear d
 rintro f w ⟨a3,a4,a5,a6,a7,Y,S,U,a0,a8,a9,W,hf,d,au⟩
 obtain ⟨b3,rfl⟩:=gP _ _ hf
 clear hf
 subst au
 replace z:=gi z
 replace z:=mf (mf (mf z))
 refine q ?_
 obtain ⟨Y9,u,z⟩:=bs z
 refine oC (fun f w=>∃ (j:Int)(m:Int)(o:Int)(p:BA) (t:BA) (h:List Ge) (b:OA)(c:Nat)(D:List kv) (H:Int)(I:Int)(A:Int),Has f [(6,Pt b1),(7,Pt b2)]∧Bx w0 w b0 G [.box b2 138 #[V j,V m,V o,T p,T t,Z b h c],.box b1 138 #[V 0,V 0,V 0,T be,T be,sn],.box a1 102 #[Z E D F,V H,V I,V A]] [.l b c h,.l E F D]∧Ld.go (j,m,o,p,t,h,D,H,I,A)=Y9) (fun J9 al=>?_) ?_
 ·refine nZ (kH (fun b4 f w=>∃ (j:Int)(m:Int)(o:Int)(p:BA) (t:BA) (h:List Ge) (b:OA)(c:Nat)(D:List kv) (H:Int)(I:Int)(A:Int),Has f [(0,Pt a1),(1,V x1),(2,V x2),(6,Pt b1),(7,Pt b2)]∧Bx w0 w b0 G [.box b2 138 #[V j,V m,V o,T p,T t,Z b h c],.box b1 138 #[V 0,V 0,V 0,T be,T be,sn],.box a1 102 #[Z E D F,V H,V I,V A]] [.l b c h,.l E F D]∧qj fu r_r03_expression r_r03_unary r_r03_target x1 x2 b4 j m o p t h D H I A=some Y9) fu ⟨a3,a4,a5,a6,a7,Y,S,U,a0,a8,a9,W,⟨r,r,r,r,r,y⟩,d,u⟩ ?_)
  clear d u
  rintro n9 f w ⟨j,m,o,p,t,h,b,c,D,H,I,A,hf,d,u⟩ K9 aw
  obtain ⟨b3,rfl⟩:=gP _ _ hf
  clear hf
  cases n9 with
  | zero=>exact nn u
  | succ n9=>
   rw [qj] at u
   refine q (q (g (s (mp r) (s (xn r) (s (tO r) (s (CW r (d.bk 2 r) r) (s (kK r r) (s (jZ r) ?_))))))))
   rcases iv u with ⟨ae,u⟩|⟨ae,u⟩
   ·rw [decide_eq_true ae]
    refine jQ r (s (mi r) (jQ r (s (qB r r) (s (jN r r) (n ?_)))))
    rcases iv u with ⟨af,u⟩|⟨af,u⟩
    ·refine jH (bt af) (wk (nZ (q (g (s (mp r) ?_)))))
     obtain ⟨ax,K,ay,u⟩:=lV u
     refine sc (ec RY r) (Kh fu (d.pr [2] [0,1] [1] r) ay) ?_
     rintro _ aG ⟨rfl,hK⟩
     replace d:=d.cn [2] [0,1] hK
     refine s pQ (s (jO r r) (s (jO r r) (s (xi r) (s (xi r) (n (q (q (g (s (mi r) (s (mi r) (s (mI r r) (n ?_))))))))))))
     rcases iv u with ⟨ag,u⟩|⟨ag,u⟩
     ·refine jH (bt ag) (q (g (s (mE [V j,V m,V o,T p,T t,Z b h c] mo jT r (d.bk 1 r)) (lu (nD d 2 [V j,V m,V o,T p,T t,Z b h c] r jT r r) fun aH d=>?_))))
      refine n (kP ?_)
      obtain rfl:=sm u
      replace z:=oi z
      obtain rfl:=sm z
      refine jC r (uN r mo r jT r (d.bk 2 r)) ?_
      exact lw (⟨b,c,r,(d.ad [0] [1,2])⟩)
     refine jI (bf ag) (wk (q (g (s (mp r) (s (xn r) (s (mM r) (s (l3 r (d.bk 0 r) r) (s (kN r r) (s (xn r) (s (mM r) (lu (lW d 0 [V (wr (H+1))] r pJ r r) fun aI d=>?_)))))))))))
     refine n (q (g (s (mp r) (s (mi r) (s (kN r r) (s (mi r) ?_))))))
     obtain ⟨a,X,az,u⟩:=lV u
     refine sc (ec BC r) (H_r03_expression (d.pr [0] [1,2] [2] r) az) ?_
     rintro _ aJ ⟨B,C,rfl,hK⟩
     replace d:=d.cn [0] [1,2] hK
     refine tL d (ko jT) fun aK aL d=>?_
     refine lu (nD d 0 [V a.e,V a.d,V a.j,T a.a,T a.c,Z B a.b C] r jT r r) fun aM d=>?_
     refine n (q (g (s (mi r) (s (mE [V j,V m,V o,T p,T t,Z b h c] mo jT r (d.bk 2 r)) (s (mE [V a.e,V a.d,V a.j,T a.a,T a.c,Z B a.b C] mo jT r (d.bk 0 r)) (qF (jV d [[V j,V m,V o,T p,T t,Z b h c],[V a.e,V a.d,V a.j,T a.a,T a.c,Z B a.b C]] ([(⟨j,m,o,p,t,h⟩:Ge),a]:List Ge) (xz r r) r r (by decide) ⟨(jL.tQ ⟨b,c,r,(d.dl 3 r)⟩),⟨(jL.tQ ⟨B,C,r,(d.dl 0 r)⟩),y⟩⟩) ?_))))))
     rintro _ aN ⟨a2,rfl,d⟩
     refine s (vD r r) (lu (nD d 3 [V K,V 0,V 0,T be,T be,.slice (ad a2) ([(⟨j,m,o,p,t,h⟩:Ge),a]:List Ge).length 2] r jT r r) fun aO d=>?_)
     refine n (q (g (s (mi r) (s (kK r r) (n ?_)))))
     rcases iv u with ⟨ah,u⟩|⟨ah,u⟩
     ·refine jH (bt ah) (q (g (s (mE [V K,V 0,V 0,T be,T be,.slice (ad a2) ([(⟨j,m,o,p,t,h⟩:Ge),a]:List Ge).length 2] mo jT r (d.bk 3 r)) (lu (nD d 4 [V K,V 0,V 0,T be,T be,.slice (ad a2) ([(⟨j,m,o,p,t,h⟩:Ge),a]:List Ge).length 2] r jT r r) fun aP d=>?_))))
      refine n (kP ?_)
      replace d:=d.fz 0 0 r r
      obtain rfl:=sm u
      replace z:=oi z
      obtain rfl:=sm z
      refine jC r (uN r mo r jT r (d.bk 3 r)) ?_
      exact lw (⟨(ad a2),2,r,(d.ad [1] [0,2])⟩)
     refine jI (bf ah) (wk ?_)
     replace d:=d.fz 0 0 r r
     exact aw n9 _ _ (Nat.lt_succ_self _) ⟨K,0,0,be,be,([(⟨j,m,o,p,t,h⟩:Ge),a]:List Ge),(ad a2),2,X.l,X.a,X.c,X.e,⟨r,r,r,r,r,y⟩,(d.ad [2,3,1] [0,2]),u⟩
    refine jI (bf af) (uW ?_)
    exact al _ _ ⟨j,m,o,p,t,h,b,c,D,H,I,A,⟨r,r,y⟩,d,sm u⟩
   rw [decide_eq_false ae]
   refine jB r (jB r (s (jX r r) (n (jI r (uW ?_)))))
   exact al _ _ ⟨j,m,o,p,t,h,b,c,D,H,I,A,⟨r,r,y⟩,d,sm u⟩
 clear d
 rintro f w ⟨j,m,o,p,t,h,b,c,D,H,I,A,hf,d,aA⟩
 obtain ⟨b3,rfl⟩:=gP _ _ hf
 clear hf
 subst aA
 replace z:=gi z
 replace z:=mf (mf (mf z))
 refine q (g (s (mE [V j,V m,V o,T p,T t,Z b h c] mo jT r (d.bk 0 r)) (lu (nD d 1 [V j,V m,V o,T p,T t,Z b h c] r jT r r) fun aQ d=>?_)))
 refine n (kP ?_)
 obtain rfl:=sm z
 refine jC r (uN r mo r jT r (d.bk 1 r)) ?_
 exact lw (⟨b,c,r,(d.arr [2] r)⟩)
theorem Kk (fu:Nat)(r_r03_expression:nQ) (r_r03_unary:sD) (r_r03_target:qI) (H_r03_expression:qZ r_r03_expression) (H_r03_unary:yu r_r03_unary) (H_r03_target:vz r_r03_target):yu (zG fu r_r03_expression r_r03_unary r_r03_target):=by
 intro w0 b4 x x1 I u v R hP j
 unfold zG at j
 have a:=hP.bx
 clear hP
 generalize hG:lT _=G at a ⊢
 refine cf Try.func124 r (ma [(0,Pt I),(1,V x1)] ⟨r,r,y⟩ fun b5=>q (g (tL a (ko jT) fun w1 b1 a=>n (q (q (g (s (mp r) (s (xn r) (s (tO r) (s (CW r (a.bk 1 r) r) (s (mI r r) (n ?_))))))))))))
 rcases iv j with ⟨h2,j⟩|⟨h2,j⟩
 ·refine jH (bt h2) (q (g (s Md (lu (nD a 0 [V 0,V 0,V 0,T be,T be,sn] r jT r r) fun w3 a=>n (kP ?_)))))
  replace a:=a.ku (d:=.l none 0 ([]:List Ge)) oP
  obtain rfl:=sm j
  exact jC r (uN r mo r jT r (a.bk 0 r)) (lw (⟨none,0,r,(a.arr [1] r)⟩))
 refine jI (bf h2) (wk (q (q (g (s (mp r) ?_)))))
 obtain ⟨ar,h5,j⟩:=bs j
 refine sc (ec SH r) (H8 fu (a.pr [1] [0] [0] r) h5) ?_
 rintro _ w5 ⟨rfl,E⟩
 replace a:=a.cn [1] [0] E
 refine s (xc r) (n ?_)
 rcases iv j with ⟨X,j⟩|⟨X,j⟩
 ·refine jH (cb X) (q (g (s (mp r) ?_)))
  obtain ⟨au,h7,j⟩:=bs j
  refine sc (ec DY r) (tX fu (a.pr [0] [1] [1] r) h7) ?_
  rintro _ w7 ⟨rfl,E⟩
  replace a:=a.cn [0] [1] E
  refine n (q (g (s Md (lu (nD a 1 [V 0,V 0,V 0,T be,T be,sn] r jT r r) fun w8 a=>n (kP ?_)))))
  replace a:=a.ku (d:=.l none 0 ([]:List Ge)) oP
  obtain rfl:=sm j
  exact jC r (uN r mo r jT r (a.bk 1 r)) (lw (⟨none,0,r,(a.ad [0] [0,1])⟩))
 replace X:=nt X
 refine jI (cb X) (wk (q (q (g (s (mi r) (s (vG r r) (n ?_)))))))
 rcases iv j with ⟨S,j⟩|⟨S,j⟩
 ·refine jH (bt S) (q (g (s (mp r) ?_)))
  obtain ⟨a8,a9,j⟩:=bs j
  refine sc (ec DY r) (tX fu (a.pr [0] [1] [1] r) a9) ?_
  rintro _ az ⟨rfl,E⟩
  replace a:=a.cn [0] [1] E
  refine n (q (g (s Md (lu (nD a 1 [V 0,V 0,V 0,T be,T be,sn] r jT r r) fun aA a=>n (kP ?_)))))
  replace a:=a.ku (d:=.l none 0 ([]:List Ge)) oP
  obtain rfl:=sm j
  exact jC r (uN r mo r jT r (a.bk 1 r)) (lw (⟨none,0,r,(a.ad [0] [0,1])⟩))
 refine jI (bf S) (wk (q (q (g (qF (jV a [[T (⟨#[45]⟩:BA)],[T (⟨#[33]⟩:BA)]] ([(⟨#[45]⟩:BA),(⟨#[33]⟩:BA)]:List BA) (wF r r) r r (by decide) ⟨r,⟨r,y⟩⟩) ?_)))))
 rintro _ aB ⟨U,rfl,a⟩
 refine s (lg kL r) (s (mi r) (n ?_))
 have av:=(a.vw 0 0 r r).bd
 obtain ⟨Y,c,j⟩:=bs j
 refine oC (fun f w=>Has f [(0,Pt I),(1,V x1),(4,Pt b1)]∧Bx w0 w b4 G [O w0.heap.size (ad U) 2 9 BA [[T (⟨#[45]⟩:BA)],[T (⟨#[33]⟩:BA)]],.box I 102 #[Z u x.l v,V x.a,V x.c,V x.e],.box b1 138 #[V 0,V 0,V 0,T be,T be,sn]] [.els [[T (⟨#[45]⟩:BA)],[T (⟨#[33]⟩:BA)]] ([(⟨#[45]⟩:BA),(⟨#[33]⟩:BA)]:List BA),.l u v x.l]∧Ld.go ()=Y) (fun aC a0=>?_) ?_
 ·refine nZ (kH (fun b6 f w=>∃ (B:Nat),b6=([(⟨#[45]⟩:BA),(⟨#[33]⟩:BA)]:List BA).length - B∧B≤([(⟨#[45]⟩:BA),(⟨#[33]⟩:BA)]:List BA).length∧Has f [(27,V (B:Int)),(0,Pt I),(1,V x1),(4,Pt b1),(25,.slice (ad U) ([(⟨#[45]⟩:BA),(⟨#[33]⟩:BA)]:List BA).length 2),(26,V ((([(⟨#[45]⟩:BA),(⟨#[33]⟩:BA)]:List BA).length:Nat):Int))]∧Bx w0 w b4 G [O w0.heap.size (ad U) 2 9 BA [[T (⟨#[45]⟩:BA)],[T (⟨#[33]⟩:BA)]],.box I 102 #[Z u x.l v,V x.a,V x.c,V x.e],.box b1 138 #[V 0,V 0,V 0,T be,T be,sn]] [.els [[T (⟨#[45]⟩:BA)],[T (⟨#[33]⟩:BA)]] ([(⟨#[45]⟩:BA),(⟨#[33]⟩:BA)]:List BA),.l u v x.l]∧sW fu r_r03_expression r_r03_unary r_r03_target x x1 (([(⟨#[45]⟩:BA),(⟨#[33]⟩:BA)]:List BA).drop B) B=some Y) (([(⟨#[45]⟩:BA),(⟨#[33]⟩:BA)]:List BA).length) ⟨0,r,Nat.zero_le _,⟨r,r,r,r,r,r,y⟩,(a.dp [0,2]),c⟩ ?_)
  clear a c
  rintro b6 f w ⟨B,rfl,aw,hf,a,c⟩ aD a1
  obtain ⟨b5,rfl⟩:=gP _ _ hf
  clear hf
  rcases Nat.lt_or_ge B ([(⟨#[45]⟩:BA),(⟨#[33]⟩:BA)]:List BA).length with Q | Q
  ·obtain ⟨aa,K⟩:=lL (l:=([(⟨#[45]⟩:BA),(⟨#[33]⟩:BA)]:List BA)) Q
   rw [mQ K,sW] at c
   refine q (g (s (qK r r (by omega)) (n (q (jH r (wk (q (nZ (q (g (s (mi r) (s (kZ kL pV r r r (a.vw 0 0 r r) K) (s (kz rH r r ((vo (ds:=[T aa]) (a.vw 0 0 r r) K (fun _ h=>h)) 0 _ r)) (s (xi r) (s (mZ r) (n (q (g (s (mp r) (s (lc r) ?_))))))))))))))))))))
   obtain ⟨ab,ac,c⟩:=bs c
   refine sc (ec wK r) (nS fu (a.pr [1] [0,2] [1] r) ac) ?_
   rintro _ aE ⟨rfl,E⟩
   replace a:=a.cn [1] [0,2] E
   refine n ?_
   rcases iv c with ⟨L,c⟩|⟨L,c⟩
   ·refine jH (cb L) (q (g (s (mp r) (s (xn r) (s (mM r) (s (l3 r (a.bk 0 r) r) (s (kN r r) (s (xn r) (s (mM r) (lu (lW a 0 [V (wr (x.a+1))] r pJ r r) fun aF a=>n (q (g (s (mi r) (s (kN r r) (s (mp r) (s (mi r) (s (kN r r) ?_)))))))))))))))))
    obtain ⟨t,ae,af,c⟩:=lV c
    refine sc (ec NV r) (H_r03_unary (a.pr [0] [1,2] [2] r) af) ?_
    rintro _ aG ⟨C,D,rfl,E⟩
    replace a:=a.cn [0] [1,2] E
    refine qF (jV a [[V t.e,V t.d,V t.j,T t.a,T t.c,Z C t.b D]] ([t]:List Ge) (kX r) r r (by decide) ⟨(jL.tQ ⟨C,D,r,(a.dl 0 r)⟩),y⟩) ?_
    rintro _ aH ⟨W,rfl,a⟩
    refine s (vD r r) (lu (nD a 3 [V (wr (4+(B:Int))),V 0,V 0,T be,T be,.slice (ad W) ([t]:List Ge).length 1] r jT r r) fun aI a=>n (kP ?_))
    replace a:=a.fz 0 0 r r
    obtain rfl:=sm c
    replace j:=oi j
    obtain rfl:=sm j
    exact jC r (uN r mo r jT r (a.bk 2 r)) (lw (⟨(ad W),1,r,(a.ad [0] [0,2])⟩))
   replace L:=nt L
   exact jI (cb L) (wk (g (s (mg r r (by omega) (by omega)) (s (mi r) (n (a1 (([(⟨#[45]⟩:BA),(⟨#[33]⟩:BA)]:List BA).length - (B+1)) _ _ (by omega) ⟨B+1,r,by omega,⟨r,r,r,r,r,r,y⟩,(a.ad [1,0,2] [1,2]),c⟩))))))
  obtain rfl:B=([(⟨#[45]⟩:BA),(⟨#[33]⟩:BA)]:List BA).length:=by omega
  rw [lH,sW] at c
  exact q (g (s (qL r r (by omega)) (n (q (jI r (uW (a0 _ _ ⟨⟨r,r,r,y⟩,a,sm c⟩)))))))
 clear a
 rintro f w ⟨hf,a,a2⟩
 obtain ⟨b5,rfl⟩:=gP _ _ hf
 clear hf
 subst a2
 replace j:=gi j
 refine q (q (g (s (mp r) ?_)))
 obtain ⟨ag,ah,j⟩:=bs j
 refine sc (ec D6 r) (uq fu (a.pr [1] [0,2] [1] r) ah) ?_
 rintro _ aJ ⟨rfl,E⟩
 replace a:=a.cn [1] [0,2] E
 refine n ?_
 rcases iv j with ⟨M,j⟩|⟨M,j⟩
 ·refine jH (cb M) (q (g (s (mp r) (s (xn r) (s (mM r) (s (l3 r (a.bk 0 r) r) (s (kN r r) (s (xn r) (s (mM r) (lu (lW a 0 [V (wr (x.a+1))] r pJ r r) fun aK a=>n (q (oJ a [0] [2] [] (by kernel_rfl) ?_))))))))))))
  replace a:=a.drew
  have F:=(a.ad [0] [2])
  refine pF 0 r (mp r) F (pF 1 r (xn r) F (pF 2 r (zO r) F (uF 3 r (fun hS=>NN r (hS.bk 0 r) r) F (pF 4 r (mp r) F (pF 5 r (xn r) F (pF 6 r (mM r) F (uF 7 r (fun hS=>l3 r (hS.bk 0 r) r) F (pF 8 r (xU r r) F ?_))))))))
  obtain ⟨J,H,j⟩:=bs j
  obtain ⟨aL,a3,H⟩:=kG H
  refine pF 9 r (kZ Du qO r r a3 (a.dl 2 r) H) F (pF 10 r (O7 r) F (tU 11 r (fun _ hS=>kz EU r r ((vo (ds:=[V J.e,V J.c,T J.a,V J.d]) (hS.dl 0 r) H (fun _ h=>h)) 3 _ r)) (sF F) (pF 12 r (IR r r) F (hO 13 (os r r (nD a 2 [V 0,V J.d,V 0,T be,T be,sn] r jT r r) fun aM a=>?_)))))
  have F:=(a.ad [0] [2])
  refine ⟨(sF F),(hD (kP ?_))⟩
  replace a:=a.ku (d:=.l none 0 ([]:List Ge)) oP
  obtain rfl:=sm j
  exact jC r (uN r mo r jT r (a.bk 2 r)) (lw (⟨none,0,r,(a.ad [0] [0,3])⟩))
 replace M:=nt M
 refine jI (cb M) (wk (q (q (g (s (mp r) ?_)))))
 obtain ⟨ai,aj,j⟩:=bs j
 refine sc (ec wK r) (nS fu (a.pr [0] [1,2] [2] r) aj) ?_
 rintro _ aN ⟨rfl,E⟩
 replace a:=a.cn [0] [1,2] E
 refine n ?_
 rcases iv j with ⟨N,j⟩|⟨N,j⟩
 ·refine jH (cb N) (q (g (s (mp r) (s (xn r) (s (mM r) (s (l3 r (a.bk 0 r) r) (s (kN r r) (s (xn r) (s (mM r) (lu (lW a 0 [V (wr (x.a+1))] r pJ r r) fun aO a=>n (q (g (s (mp r) (s (mi r) (s (kN r r) ?_)))))))))))))))
  obtain ⟨b,ak,al,j⟩:=lV j
  refine sc (ec BC r) (H_r03_expression (a.pr [0] [1,2] [3] r) al) ?_
  rintro _ aP ⟨o,p,rfl,E⟩
  replace a:=a.cn [0] [1,2] E
  refine tL a (ko jT) fun aQ aR a=>lu (nD a 0 [V b.e,V b.d,V b.j,T b.a,T b.c,Z o b.b p] r jT r r) fun aS a=>n (q (g (s (mp r) ?_)))
  obtain ⟨am,an,j⟩:=bs j
  refine sc (ec xA r) (mF fu (a.pr [1] [0,2,3] [1] r) an) ?_
  rintro _ aT ⟨rfl,E⟩
  replace a:=a.cn [1] [0,2,3] E
  refine n (q (g (s (mE [V b.e,V b.d,V b.j,T b.a,T b.c,Z o b.b p] mo jT r (a.bk 1 r)) (lu (nD a 3 [V b.e,V b.d,V b.j,T b.a,T b.c,Z o b.b p] r jT r r) fun aU a=>n (kP ?_)))))
  obtain rfl:=sm j
  exact jC r (uN r mo r jT r (a.bk 3 r)) (lw (⟨o,p,r,(a.ad [0] [1,0])⟩))
 replace N:=nt N
 refine jI (cb N) (wk (q (g (s (mp r) (s (mi r) ?_)))))
 obtain ⟨m,ao,ap,j⟩:=lV j
 refine sc (ec OU r) (H_r03_target (a.pr [0] [1,2] [3] r) ap) ?_
 rintro _ aV ⟨z,A,rfl,E⟩
 replace a:=a.cn [0] [1,2] E
 refine lu (nD a 2 [V m.e,V m.d,V m.j,T m.a,T m.c,Z z m.b A] r jT r r) fun aW a=>n (kP ?_)
 obtain rfl:=sm j
 exact jC r (uN r mo r jT r (a.bk 2 r)) (lw (⟨z,A,r,(a.ad [0] [0,1])⟩))
theorem Ip (fu:Nat)(r_r03_expression:nQ) (r_r03_unary:sD) (r_r03_target:qI) (H_r03_expression:qZ r_r03_expression) (H_r03_unary:yu r_r03_unary) (H_r03_target:vz r_r03_target):vz (xG fu r_r03_expression r_r03_unary r_r03_target):=by
 intro w0 ap F S z t u R U o
 unfold xG at o
 have b:=U.bx
 clear U
 generalize hG:lT _=G at b ⊢
 refine cf Try.func128 r (ma [(0,Pt z),(1,V S)] ⟨r,r,y⟩ fun aq=>q (g (tL b (ko jT) fun w1 W b=>n (q (g (s (mp r) ?_))))))
 obtain ⟨p,c,h2,o⟩:=lV o
 refine sc (ec CY r) (sw fu (b.pr [1] [0] [0] r) h2) ?_
 rintro _ w2 ⟨rfl,v⟩
 replace b:=b.cn [1] [0] v
 refine s (mZ r) (n (q ?_))
 obtain ⟨Y3,m,o⟩:=bs o
 refine oC (fun f w=>Has f [(0,Pt z),(1,V S),(4,Pt W),(5,T p)]∧Bx w0 w ap G [.box z 102 #[Z t c.l u,V c.a,V c.c,V c.e],.box W 138 #[V 0,V 0,V 0,T be,T be,sn]] [.l t u c.l]∧Ld.go ()=Y3) (fun J3 D=>?_) ?_
 ·unfold wS at m
  refine q (g (s (mp r) (s (xn r) (s (tO r) (s (CW r (b.bk 0 r) r) (s (kK r r) (s (jZ r) ?_)))))))
  rcases iv m with ⟨H,m⟩|⟨H,m⟩
  ·rw [decide_eq_true H]
   refine jQ r (s (mp r) ?_)
   obtain ⟨X,h5,m⟩:=bs m
   refine jQ r (sc (ec wK r) (nS fu (b.pr [0] [1] [0] r) h5) ?_)
   rintro _ w5 ⟨rfl,v⟩
   replace b:=b.cn [0] [1] v
   refine s (jN r r) (n ?_)
   rcases iv m with ⟨E,m⟩|⟨E,m⟩
   ·refine jH (cb E) (q (g (s (mp r) (s (xn r) (s (mM r) (s (l3 r (b.bk 0 r) r) (s (kN r r) (s (xn r) (s (mM r) (lu (lW b 0 [V (wr (c.a+1))] r pJ r r) fun w7 b=>n (q (g (s (lc r) (s (mp r) ?_))))))))))))))
    obtain ⟨A,Y,h8,m⟩:=lV m
    refine sc (ec CY r) (sw fu (b.pr [0] [1] [1] r) h8) ?_
    rintro _ w8 ⟨rfl,v⟩
    replace b:=b.cn [0] [1] v
    refine s (vK r r r) (lu (nD b 1 [V 2,V 0,V 0,T p,T A,sn] r jT r r) fun w9 b=>n (kP ?_))
    replace b:=b.ku (d:=.l none 0 ([]:List Ge)) oP
    obtain rfl:=sm m
    replace o:=oi o
    obtain rfl:=sm o
    exact jC r (uN r mo r jT r (b.bk 1 r)) (lw (⟨none,0,r,(b.ad [0] [0,1])⟩))
   replace E:=nt E
   exact jI (cb E) (wk (D _ _ ⟨⟨r,r,r,r,y⟩,(b.dp [1]),sm m⟩))
  rw [decide_eq_false H]
  exact jB r (jB r (s (jX r r) (n (jI r (wk (D _ _ ⟨⟨r,r,r,r,y⟩,(b.dp [0]),sm m⟩))))))
 clear b
 rintro f w ⟨hf,b,I⟩
 obtain ⟨aq,rfl⟩:=gP _ _ hf
 clear hf
 subst I
 replace o:=gi o
 refine q (q (g (s (mp r) (s (xn r) (s (tO r) (s (CW r (b.bk 0 r) r) (s (kK r r) (s (jZ r) ?_))))))))
 rcases iv o with ⟨B,o⟩|⟨B,o⟩
 ·rw [decide_eq_true B]
  refine jQ r (s (mp r) ?_)
  obtain ⟨J,K,o⟩:=bs o
  refine jQ r (sc (ec wK r) (nS fu (b.pr [0] [1] [0] r) K) ?_)
  rintro _ a5 ⟨rfl,v⟩
  replace b:=b.cn [0] [1] v
  refine s (jN r r) (n ?_)
  rcases iv o with ⟨x,o⟩|⟨x,o⟩
  ·refine jH (cb x) (q (g (s (mp r) (s (xn r) (s (mM r) (s (l3 r (b.bk 0 r) r) (s (kN r r) (s (xn r) (s (mM r) (lu (lW b 0 [V (wr (c.a+1))] r pJ r r) fun a6 b=>n (q (g (s (mp r) (s (mi r) (s (kN r r) ?_)))))))))))))))
   obtain ⟨a,L,M,o⟩:=lV o
   refine sc (ec BC r) (H_r03_expression (b.pr [0] [1] [1] r) M) ?_
   rintro _ a7 ⟨h,j,rfl,v⟩
   replace b:=b.cn [0] [1] v
   refine tL b (ko jT) fun a8 a9 b=>lu (nD b 0 [V a.e,V a.d,V a.j,T a.a,T a.c,Z h a.b j] r jT r r) fun aa b=>n (q (g (s (mp r) ?_)))
   obtain ⟨N,Q,o⟩:=bs o
   refine sc (ec xA r) (mF fu (b.pr [1] [0,2] [1] r) Q) ?_
   rintro _ ab ⟨rfl,v⟩
   replace b:=b.cn [1] [0,2] v
   refine n (q (g (s (lc r) (s (mE [V a.e,V a.d,V a.j,T a.a,T a.c,Z h a.b j] mo jT r (b.bk 1 r)) (qF (jV b [[V a.e,V a.d,V a.j,T a.a,T a.c,Z h a.b j]] ([a]:List Ge) (kX r) r r (by decide) ⟨(jL.tQ ⟨h,j,r,(b.dl 1 r)⟩),y⟩) ?_)))))
   rintro _ ac ⟨C,rfl,b⟩
   refine s (Cn r r r) (lu (nD b 3 [V 3,V 0,V 0,T p,T be,.slice (ad C) ([a]:List Ge).length 1] r jT r r) fun ae b=>n (kP ?_))
   replace b:=b.fz 0 0 r r
   obtain rfl:=sm o
   exact jC r (uN r mo r jT r (b.bk 2 r)) (lw (⟨(ad C),1,r,(b.ad [0] [0,1])⟩))
  replace x:=nt x
  refine jI (cb x) (wk (q (g (s (lc r) (s (EH r r) (lu (nD b 1 [V 1,V 0,V 0,T p,T be,sn] r jT r r) fun af b=>n (kP ?_)))))))
  replace b:=b.ku (d:=.l none 0 ([]:List Ge)) oP
  obtain rfl:=sm o
  exact jC r (uN r mo r jT r (b.bk 1 r)) (lw (⟨none,0,r,(b.ad [0] [0,2])⟩))
 rw [decide_eq_false B]
 refine jB r (jB r (s (jX r r) (n (jI r (wk (q (g (s (lc r) (s (EH r r) (lu (nD b 1 [V 1,V 0,V 0,T p,T be,sn] r jT r r) fun ag b=>n (kP ?_)))))))))))
 replace b:=b.ku (d:=.l none 0 ([]:List Ge)) oP
 obtain rfl:=sm o
 exact jC r (uN r mo r jT r (b.bk 1 r)) (lw (⟨none,0,r,(b.arr [0] r)⟩))
theorem Ad (fu:Nat):qZ (mJ fu)∧yu (zw fu)∧vz (uS fu):=by
 induction fu with
 | zero=>exact ⟨by intro a b;intros;exact nn (by assumption),by intro a b;intros;exact nn (by assumption),by intro a b;intros;exact nn (by assumption)⟩
 | succ fu ih=>exact ⟨DI fu (mJ fu) (zw fu) (uS fu) ih.1 ih.2.1 ih.2.2,Kk fu (mJ fu) (zw fu) (uS fu) ih.1 ih.2.1 ih.2.2,Ip fu (mJ fu) (zw fu) (uS fu) ih.1 ih.2.1 ih.2.2⟩
theorem ug (fu:Nat):qZ (mJ fu):=(Ad fu).1
theorem Ia (fu:Nat):vz (uS fu):=(Ad fu).2.2
def ED (m:jy→Option ((List Ge) × jy)):Prop:=∀ {k:World} {p:Nat→Prop} {i:jy} {j:Nat} {a:Option Addr} {b:Nat} {R:(List Ge) × jy},Pre k p [.box j 102 #[Z a i.l b,V i.a,V i.c,V i.e]] [.l a b i.l]→m i=some R→
 Calls Try.prog 127 #[Pt j] k (rf fun v w=>iA R fun o c=>∃ (d:OA)(f:Nat)(h:LV),v=Z d o f∧Bx k w p (lT [.box j 102 #[Z a i.l b,V i.a,V i.c,V i.e]]) [O k.heap.size d f 138 Ge h,.box j 102 #[Z a c.l b,V c.a,V c.c,V c.e]] [.els h o,.l a b c.l])
def qy (fu:Nat):Nat→(List kv)→Int→Int→Int→(List Ge)→Option (Ld (List kv × Int × Int × Int × List Ge) ((List Ge) × jy))
 | 0,_,_,_,_,_=>none
 | k+1,b,c,d,a,h=>
 if a=0 then
  (nk fu (⟨b,c,d,a⟩:jy) 0 (⟨#[44]⟩:BA)).bind fun i=>
  if i=true then
   (mJ fu (⟨b,(wr (c+1)),d,a⟩:jy) 1 0).bind fun o=>
   iA o fun j f=>
   (app h ([j]:List Ge)).bind fun m=>
   qy fu k f.l f.a f.c f.e m
  else
   some (.go (b,c,d,a,h))
 else
  some (.go (b,c,d,a,h))
def uV (fu:Nat)(a:jy):Option (Ld (List Ge × List kv × Int × Int × Int) ((List Ge) × jy)):=
 if a.e=0 then
  (nk fu a 0 (⟨#[41]⟩:BA)).bind fun j=>
  if (!j)=true then
   (mJ fu a 1 0).bind fun p=>
   iA p fun k b=>
   (app ([]:List Ge) ([k]:List Ge)).bind fun m=>
   (qy fu fu b.l b.a b.c b.e m).bind fun p=>p.el (fun p=>
   iA p fun c p=>iA p fun d p=>iA p fun f p=>iA p fun h i=>
   some (.go (i,c,d,f,h))
   ) (fun o=>some (.out o))
  else
   some (.go (([]:List Ge),a.l,a.a,a.c,a.e))
 else
  some (.go (([]:List Ge),a.l,a.a,a.c,a.e))
def ve (fu:Nat)(i:jy):Option ((List Ge) × jy):=
 (lY fu i (⟨#[40]⟩:BA)).bind fun b=>
 (uV fu b).bind fun j=>j.el (fun j=>
 iA j fun c j=>iA j fun d j=>iA j fun e j=>iA j fun f h=>
 (lY fu (⟨d,e,f,h⟩:jy) (⟨#[41]⟩:BA)).bind fun a=>
 some (c,a)
 ) (fun o=>some o)
theorem EN (fu:Nat):ED (ve fu):=by
 intro w0 aR x0 K v x R hP J
 unfold ve at J
 have c:=hP.bx
 clear hP
 generalize hG:lT _=G at c ⊢
 refine cf Try.func127 r (ma [(0,Pt K)] ⟨r,y⟩ fun aS=>q (g (s (nJ r) (n (q (g (s (nJ r) (n (q (g (s (mp r) ?_)))))))))))
 obtain ⟨A,h1,J⟩:=bs J
 refine sc (ec xA r) (mF fu (c.pr [0] [] [0] r) h1) ?_
 rintro _ w1 ⟨rfl,U⟩
 replace c:=c.cn [0] [] U
 refine n (q ?_)
 replace c:=c.BQ Ge 138
 obtain ⟨Y3,b,J⟩:=bs J
 refine oC (fun f w=>∃ (N:List Ge) (E:OA)(F:Nat)(H:LV)(Q:List kv) (W:Int)(X:Int)(Y:Int),Has f [(0,Pt K),(3,Z E N F)]∧Bx w0 w aR G [O w0.heap.size E F 138 Ge H,.box K 102 #[Z v Q x,V W,V X,V Y]] [.l v x Q,.els H N]∧Ld.go (N,Q,W,X,Y)=Y3) (fun J3 a2=>?_) ?_
 ·unfold uV at b
  refine q (g (s (mp r) (s (xn r) (s (tO r) (s (CW r (c.bk 1 r) r) (s (kK r r) (s (jZ r) ?_)))))))
  rcases iv b with ⟨h4,b⟩|⟨h4,b⟩
  ·rw [decide_eq_true h4]
   refine jQ r (s (mp r) ?_)
   obtain ⟨aq,h5,b⟩:=bs b
   refine jQ r (sc (ec wK r) (nS fu (c.pr [1] [0] [1] r) h5) ?_)
   rintro _ w5 ⟨rfl,U⟩
   replace c:=c.cn [1] [0] U
   refine jQ r (s (xc r) (s (jN r r) (n ?_)))
   rcases iv b with ⟨h6,b⟩|⟨h6,b⟩
   ·refine jH (cb h6) (q (g (s (mD r) (s (mp r) ?_))))
    obtain ⟨B,S,h7,b⟩:=lV b
    refine sc (ec BC r) (ug fu (c.pr [0] [1] [2] r) h7) ?_
    rintro _ w7 ⟨L,M,rfl,U⟩
    replace c:=c.cn [0] [1] U
    refine qF (jV c [[V B.e,V B.d,V B.j,T B.a,T B.c,Z L B.b M]] ([B]:List Ge) (kX r) r r (by decide) ⟨(jL.tQ ⟨L,M,r,(c.dl 0 r)⟩),y⟩) ?_
    rintro _ w8 ⟨b8,rfl,c⟩
    obtain ⟨r9,ae,b⟩:=bs b
    refine qF (kS c 2 4 r r qJ jT r (by decide) (by decide) (Nat.le_refl _) r r (c.AJ 0 0 r r) ae) ?_
    rintro _ w9 ⟨A9,C9,Q9,rfl,c⟩
    refine s (nJ r) (n ?_)
    obtain ⟨a7,a,b⟩:=bs b
    refine oC (fun f w=>∃ (d:List kv) (o:Int)(t:Int)(u:Int)(p:List Ge) (h:OA)(j:Nat)(m:LV),Has f [(0,Pt K),(3,Z h p j)]∧Bx w0 w aR G [.box K 102 #[Z v d x,V o,V t,V u],O w0.heap.size h j 138 Ge m] [.l v x d,.els m p]∧Ld.go (d,o,t,u,p)=a7) (fun aB a1=>?_) ?_
    ·refine nZ (kH (fun aT f w=>∃ (d:List kv) (o:Int)(t:Int)(u:Int)(p:List Ge) (h:OA)(j:Nat)(m:LV),Has f [(0,Pt K),(3,Z h p j)]∧Bx w0 w aR G [.box K 102 #[Z v d x,V o,V t,V u],O w0.heap.size h j 138 Ge m] [.l v x d,.els m p]∧qy fu aT d o t u p=some a7) fu ⟨S.l,S.a,S.c,S.e,r9,A9,C9,Q9,⟨r,r,y⟩,(c.ad [1,2] [2,4]),a⟩ ?_)
     clear c a
     rintro a3 f w ⟨d,o,t,u,p,h,j,m,hf,c,a⟩ aC a8
     obtain ⟨aS,rfl⟩:=gP _ _ hf
     clear hf
     cases a3 with
     | zero=>exact nn a
     | succ a3=>
      rw [qy] at a
      refine q (q (g (s (mp r) (s (xn r) (s (tO r) (s (CW r (c.bk 0 r) r) (s (kK r r) (s (jZ r) ?_))))))))
      rcases iv a with ⟨a4,a⟩|⟨a4,a⟩
      ·rw [decide_eq_true a4]
       refine jQ r (s (mp r) ?_)
       obtain ⟨af,ag,a⟩:=bs a
       refine jQ r (sc (ec wK r) (nS fu (c.pr [0] [1] [0] r) ag) ?_)
       rintro _ aD ⟨rfl,U⟩
       replace c:=c.cn [0] [1] U
       refine s (jN r r) (n ?_)
       rcases iv a with ⟨a0,a⟩|⟨a0,a⟩
       ·refine jH (cb a0) (wk (nZ (q (g (s (mp r) (s (xn r) (s (mM r) (s (l3 r (c.bk 0 r) r) (s (kN r r) (s (xn r) (s (mM r) (lu (lW c 0 [V (wr (o+1))] r pJ r r) fun aE c=>n (g (s (mD r) (s (mp r) ?_)))))))))))))))
        obtain ⟨z,I,ah,a⟩:=lV a
        refine sc (ec BC r) (ug fu (c.pr [0] [1] [1] r) ah) ?_
        rintro _ aF ⟨C,D,rfl,U⟩
        replace c:=c.cn [0] [1] U
        refine qF (jV c [[V z.e,V z.d,V z.j,T z.a,T z.c,Z C z.b D]] ([z]:List Ge) (kX r) r r (by decide) ⟨(jL.tQ ⟨C,D,r,(c.dl 0 r)⟩),y⟩) ?_
        rintro _ aG ⟨aH,rfl,c⟩
        obtain ⟨ai,a9,a⟩:=bs a
        refine qF (kS c 2 5 r r qJ jT r (by decide) (by decide) (Nat.le_refl _) r r (c.AJ 0 0 r r) a9) ?_
        rintro _ aI ⟨aj,ak,al,rfl,c⟩
        exact s (nJ r) (n (a8 a3 _ _ (Nat.lt_succ_self _) ⟨I.l,I.a,I.c,I.e,ai,aj,ak,al,⟨r,r,y⟩,(c.ad [1,2] [2,5]),a⟩))
       replace a0:=nt a0
       exact jI (cb a0) (uW (a1 _ _ ⟨d,o,t,u,p,h,j,m,⟨r,r,y⟩,(c.dp [1,2]),sm a⟩))
      rw [decide_eq_false a4]
      exact jB r (jB r (s (jX r r) (n (jI r (uW (a1 _ _ ⟨d,o,t,u,p,h,j,m,⟨r,r,y⟩,c,sm a⟩))))))
    clear c
    rintro f w ⟨d,o,t,u,p,h,j,m,hf,c,aa⟩
    obtain ⟨aS,rfl⟩:=gP _ _ hf
    clear hf
    subst aa
    replace b:=gi b
    replace b:=pi (mf b)
    exact a2 _ _ ⟨p,h,j,m,d,o,t,u,⟨r,r,y⟩,(c.arr [1,0] r),sm b⟩
   replace h6:=nt h6
   exact jI (cb h6) (wk (a2 _ _ ⟨([]:List Ge),none,0,[],A.l,A.a,A.c,A.e,⟨r,r,y⟩,(c.ad [1,0] [2,1]),sm b⟩))
  rw [decide_eq_false h4]
  exact jB r (jB r (jB r (s (jX r r) (n (jI r (wk (a2 _ _ ⟨([]:List Ge),none,0,[],A.l,A.a,A.c,A.e,⟨r,r,y⟩,(c.dp [1,0]),sm b⟩)))))))
 clear c
 rintro f w ⟨N,E,F,H,Q,W,X,Y,hf,c,am⟩
 obtain ⟨aS,rfl⟩:=gP _ _ hf
 clear hf
 subst am
 replace J:=gi J
 replace J:=pi (mf J)
 refine q (g (s (mp r) ?_))
 obtain ⟨an,ao,J⟩:=bs J
 refine sc (ec xA r) (mF fu (c.pr [1] [0] [0] r) ao) ?_
 rintro _ aJ ⟨rfl,U⟩
 replace c:=c.cn [1] [0] U
 refine n (q (g (s (mD r) (s (nJ r) (n (kP ?_))))))
 obtain rfl:=sm J
 exact jC r (kT r) (lw (⟨E,F,H,r,(c.ad [1,0] [2,0])⟩))
def Jk (m:jy→Gs→Option (jy × Gs)):Prop:=∀ {B:World} {C:Nat→Prop} {x:jy} {b:Gs} {z:Nat} {c:Option Addr} {d:Nat} {A:Nat} {f:Option Addr} {h:Nat} {i:Option Addr} {j:Nat} {k:Option Addr} {o:Nat} {p:Option Addr} {t:Nat} {R:jy × Gs},Pre B C [.box z 102 #[Z c x.l d,V x.a,V x.c,V x.e],.box A 111 #[V b.e,V b.c,V b.n,T b.a,T b.g,V b.m,V b.j,Z f b.d h,T b.k,V b.h,Z i b.b j,Z k b.f o,Z p b.i t]] [.l c d x.l,.l f h b.d,.l i j b.b,.l k o b.f,.l p t b.i]→m x b=some R→
 Calls Try.prog 111 #[Pt z,Pt A] B (rf fun v w=>iA R fun u a=>v=.tuple #[]∧Bx B w C (lT [.box z 102 #[Z c x.l d,V x.a,V x.c,V x.e],.box A 111 #[V b.e,V b.c,V b.n,T b.a,T b.g,V b.m,V b.j,Z f b.d h,T b.k,V b.h,Z i b.b j,Z k b.f o,Z p b.i t]]) [.box z 102 #[Z c u.l d,V u.a,V u.c,V u.e],.box A 111 #[V a.e,V a.c,V a.n,T a.a,T a.g,V a.m,V a.j,Z f a.d h,T a.k,V a.h,Z i a.b j,Z k a.f o,Z p a.i t]] [.l c d u.l,.l f h a.d,.l i j a.b,.l k o a.f,.l p t a.i])
def xI (fu:Nat)(a:kv):Option (Ld (Bool) (jy × Gs)):=
 if a.d < 1 then
  some (.go true)
 else
  some (.go (decide (8 < a.d)))
def zA (fu:Nat)(b:jy) (a:Gs):Option (jy × Gs):=
 if b.e≠0 then
  some (b,a)
 else
  (nk fu b 0 (⟨#[105,110,116]⟩:BA)).bind fun k=>
  if (!k)=true then
   (pY fu b).bind fun u=>
   iA u fun m p=>
   some (p,(⟨a.e,a.c,a.n,a.a,m,a.m,a.j,a.d,a.k,a.h,a.b,a.f,a.i⟩:Gs))
  else
   (nk fu (⟨b.l,(wr (b.a+1)),b.c,b.e⟩:jy) 0 (⟨#[91]⟩:BA)).bind fun t=>
   if (!t)=true then
    some ((⟨b.l,(wr (b.a+1)),b.c,b.e⟩:jy),a)
   else
    (qz fu (⟨b.l,(wr ((wr (b.a+1))+1)),b.c,b.e⟩:jy) 0 2).bind fun c=>
    if (!c)=true then
     (qC fu (⟨b.l,(wr ((wr (b.a+1))+1)),b.c,b.e⟩:jy) 7).bind fun d=>
     some (d,a)
    else
     (ix b.l (wr ((wr (b.a+1))+1))).bind fun f=>
     (xI fu f).bind fun u=>u.el (fun h=>
     if h=true then
      (qC fu (⟨b.l,(wr ((wr (b.a+1))+1)),b.c,b.e⟩:jy) 5).bind fun i=>
      some (i,(⟨a.e,a.c,a.n,a.a,a.g,f.d,a.j,a.d,a.k,a.h,a.b,a.f,a.i⟩:Gs))
     else
      (lY fu (⟨b.l,(wr ((wr ((wr (b.a+1))+1))+1)),b.c,b.e⟩:jy) (⟨#[93]⟩:BA)).bind fun j=>
      some (j,(⟨a.e,a.c,a.n,a.a,a.g,f.d,a.j,a.d,a.k,a.h,a.b,a.f,a.i⟩:Gs))
     ) (fun o=>some o)
theorem JE (fu:Nat):Jk (zA fu):=by
 intro w0 az m b K d j N o p t u v x z A R hP c
 unfold zA at c
 have a:=hP.bx
 clear hP
 generalize hG:lT _=G at a ⊢
 refine cf Try.func111 r (ma [(0,Pt K),(1,Pt N)] ⟨r,r,y⟩ fun aA=>q (q (g (s (mp r) (s (xn r) (s (tO r) (s (CW r (a.bk 0 r) r) (s (mI r r) (n ?_)))))))))
 rcases iv c with ⟨Y,c⟩|⟨Y,c⟩
 ·refine jH (bt Y) (kP ?_)
  obtain rfl:=sm c
  exact zV (P:=Try.prog) (fn:=Try.f111) r (lw (⟨r,a⟩))
 refine jI (bf Y) (wk (q (q (g (s (mp r) ?_)))))
 obtain ⟨aa,h2,c⟩:=bs c
 refine sc (ec wK r) (nS fu (a.pr [0] [1] [0] r) h2) ?_
 rintro _ w2 ⟨rfl,H⟩
 replace a:=a.cn [0] [1] H
 refine s (xc r) (n ?_)
 rcases iv c with ⟨S,c⟩|⟨S,c⟩
 ·refine jH (cb S) (q (g (s (mp r) (s (mp r) ?_))))
  obtain ⟨L,ab,h4,c⟩:=lV c
  refine sc (ec CY r) (sw fu (a.pr [0] [1] [1] r) h4) ?_
  rintro _ w4 ⟨rfl,H⟩
  replace a:=a.cn [0] [1] H
  refine s (xn r) (s (BH r) (lu (lW a 1 [T L] r pV r r) fun w5 a=>n (kP ?_)))
  obtain rfl:=sm c
  exact zV (P:=Try.prog) (fn:=Try.f111) r (lw (⟨r,(a.dp [0,3,4,5,6])⟩))
 replace S:=nt S
 refine jI (cb S) (wk (q (g (s (mp r) (s (xn r) (s (mM r) (s (l3 r (a.bk 0 r) r) (s (kN r r) (s (xn r) (s (mM r) (lu (lW a 0 [V (wr (m.a+1))] r pJ r r) fun w6 a=>n (q (q (g (s (mp r) ?_)))))))))))))))
 obtain ⟨ac,h7,c⟩:=bs c
 refine sc (ec wK r) (nS fu (a.pr [0] [1] [1] r) h7) ?_
 rintro _ w7 ⟨rfl,H⟩
 replace a:=a.cn [0] [1] H
 refine s (xc r) (n ?_)
 rcases iv c with ⟨U,c⟩|⟨U,c⟩
 ·refine jH (cb U) (kP ?_)
  obtain rfl:=sm c
  exact zV (P:=Try.prog) (fn:=Try.f111) r (lw (⟨r,(a.dp [2,3,4,5,6])⟩))
 replace U:=nt U
 refine jI (cb U) (wk (q (g (s (mp r) (s (xn r) (s (mM r) (s (l3 r (a.bk 0 r) r) (s (kN r r) (s (xn r) (s (mM r) (lu (lW a 0 [V (wr ((wr (m.a+1))+1))] r pJ r r) fun w9 a=>n (q (q (g (s (mp r) ?_)))))))))))))))
 obtain ⟨a0,a1,c⟩:=bs c
 refine sc (ec D6 r) (uq fu (a.pr [0] [1] [2] r) a1) ?_
 rintro _ ai ⟨rfl,H⟩
 replace a:=a.cn [0] [1] H
 refine s (xc r) (n ?_)
 rcases iv c with ⟨I,c⟩|⟨I,c⟩
 ·refine jH (cb I) (q (g (s (mp r) ?_)))
  obtain ⟨a2,a3,c⟩:=bs c
  refine sc (ec DY r) (tX fu (a.pr [0] [1] [3] r) a3) ?_
  rintro _ aj ⟨rfl,H⟩
  replace a:=a.cn [0] [1] H
  refine n (kP ?_)
  obtain rfl:=sm c
  exact zV (P:=Try.prog) (fn:=Try.f111) r (lw (⟨r,(a.dp [0,5,6,7,8])⟩))
 replace I:=nt I
 refine jI (cb I) (wk (q (oJ a [0] [3] [] (by kernel_rfl) ?_)))
 replace a:=a.drew
 have D:=(a.ad [0] [3])
 refine pF 0 r (mp r) D (pF 1 r (mp r) D (pF 2 r (xn r) D (pF 3 r (zO r) D (uF 4 r (fun hS=>NN r (hS.bk 0 r) r) D (pF 5 r (mp r) D (pF 6 r (xn r) D (pF 7 r (mM r) D (uF 8 r (fun hS=>l3 r (hS.bk 0 r) r) D ?_))))))))
 obtain ⟨C,F,c⟩:=bs c
 obtain ⟨ak,W,F⟩:=kG F
 refine pF 9 r (kZ Du qO r r W (a.dl 3 r) F) D (pF 10 r (O7 r) D (tU 11 r (fun _ hS=>kz EU r r ((vo (ds:=[V C.e,V C.c,T C.a,V C.d]) (hS.dl 0 r) F (fun _ h=>h)) 3 _ r)) (sF D) (pF 12 r (xn r) D (pF 13 r (zN r) D (hO 14 (os r r (lW a 1 [V C.d] r pJ r r) fun al a=>?_))))))
 have D:=(a.ad [0] [3])
 refine ⟨(sF D),(hD (q (q ?_)))⟩
 obtain ⟨a4,B,c⟩:=bs c
 refine oC (fun f w=>∃ (E:Bool),Has f [(0,Pt K),(64,.bool E)]∧Bx w0 w az G [.box K 102 #[Z d m.l j,V (wr ((wr (m.a+1))+1)),V m.c,V m.e],.box N 111 #[V b.e,V b.c,V b.n,T b.a,T b.g,V C.d,V b.j,Z o b.d p,T b.k,V b.h,Z t b.b u,Z v b.f x,Z z b.i A]] [.l d j m.l,.l o p b.d,.l t u b.b,.l v x b.f,.l z A b.i]∧Ld.go E=a4) (fun am M=>?_) ?_
 ·unfold xI at B
  refine g (s (mp r) (s (xn r) (s (zN r) (s (l3 r (a.bk 1 r) r) (s (qB r r) (s (jZ r) ?_))))))
  rcases iv B with ⟨Q,B⟩|⟨Q,B⟩
  ·rw [decide_eq_true Q]
   exact jB r (jB r (jB r (jB r (jB r (s (jN r r) (n (M _ _ ⟨true,⟨r,r,y⟩,(a.dp [3,4,5,6,7]),sm B⟩)))))))
  rw [decide_eq_false Q]
  exact jQ r (s (mp r) (jQ r (s (xn r) (jQ r (s (zN r) (jQ r (s (l3 r (a.bk 1 r) r) (jQ r (s (vG r r) (s (jX r r) (n (M _ _ ⟨(decide (8 < C.d)),⟨r,r,y⟩,(a.dp [3,4,5,6,7]),sm B⟩))))))))))))
 clear a
 rintro f w ⟨E,hf,a,X⟩
 obtain ⟨aA,rfl⟩:=gP _ _ hf
 clear hf
 subst X
 replace c:=gi c
 rcases iv c with ⟨J,c⟩|⟨J,c⟩
 ·refine jH (cb J) (q (g (s (mp r) ?_)))
  obtain ⟨a5,a6,c⟩:=bs c
  refine sc (ec DY r) (tX fu (a.pr [0] [1] [0] r) a6) ?_
  rintro _ an ⟨rfl,H⟩
  replace a:=a.cn [0] [1] H
  refine n (kP ?_)
  obtain rfl:=sm c
  exact zV (P:=Try.prog) (fn:=Try.f111) r (lw (⟨r,(a.dp [0,2,3,4,5])⟩))
 replace J:=nt J
 refine jI (cb J) (wk (q (g (s (mp r) (s (xn r) (s (mM r) (s (l3 r (a.bk 0 r) r) (s (kN r r) (s (xn r) (s (mM r) (lu (lW a 0 [V (wr ((wr ((wr (m.a+1))+1))+1))] r pJ r r) fun ao a=>n (g (s (mp r) ?_)))))))))))))
 obtain ⟨a7,a8,c⟩:=bs c
 refine sc (ec xA r) (mF fu (a.pr [0] [1] [0] r) a8) ?_
 rintro _ ap ⟨rfl,H⟩
 replace a:=a.cn [0] [1] H
 refine n ?_
 obtain rfl:=sm c
 exact zV (P:=Try.prog) (fn:=Try.f111) r (lw (⟨r,(a.dp [0,2,3,4,5])⟩))
def JL (m:jy→Gs→Bool→Option (jy × Gs)):Prop:=∀ {D:World} {F:Nat→Prop} {A:jy} {b:Gs} {E:Bool} {B:Nat} {c:Option Addr} {d:Nat} {C:Nat} {f:Option Addr} {h:Nat} {p:Option Addr} {t:Nat} {i:Option Addr} {j:Nat} {k:Option Addr} {o:Nat} {R:jy × Gs},Pre D F [.box B 102 #[Z c A.l d,V A.a,V A.c,V A.e],.box C 111 #[V b.e,V b.c,V b.n,T b.a,T b.g,V b.m,V b.j,Z f b.d h,T b.k,V b.h,Z p b.b t,Z i b.f j,Z k b.i o]] [.l c d A.l,.l f h b.d,.l p t b.b,.l i j b.f,.l k o b.i]→m A b E=some R→
 Calls Try.prog 113 #[Pt B,Pt C,.bool E] D (rf fun v w=>iA R fun z a=>∃ (u:OA)(x:Nat),v=.tuple #[]∧Bx D w F (lT [.box B 102 #[Z c A.l d,V A.a,V A.c,V A.e],.box C 111 #[V b.e,V b.c,V b.n,T b.a,T b.g,V b.m,V b.j,Z f b.d h,T b.k,V b.h,Z p b.b t,Z i b.f j,Z k b.i o]]) [.box B 102 #[Z c z.l d,V z.a,V z.c,V z.e],.box C 111 #[V a.e,V a.c,V a.n,T a.a,T a.g,V a.m,V a.j,Z f a.d h,T a.k,V a.h,Z u a.b x,Z i a.f j,Z k a.i o]] [.l c d z.l,.l f h a.d,.l u x a.b,.l i j a.f,.l k o a.i])
def yj (fu:Nat)(i:jy) (a:Gs) (j:Bool):Option (Ld (Unit) (jy × Gs)):=
 if i.e=0 then
  if j=true then
   (uT fu i).bind fun b=>
   if b=true then
    (pY fu i).bind fun k=>
    iA k fun c d=>
    (ve fu d).bind fun k=>
    iA k fun f h=>
    some (.out (h,(⟨a.e,a.c,a.n,a.a,a.g,a.m,a.j,a.d,c,a.h,f,a.f,a.i⟩:Gs)))
   else
    some (.go ())
  else
   some (.go ())
 else
  some (.go ())
def ul (fu:Nat)(d:jy) (a:Gs) (e:Bool):Option (jy × Gs):=
 (yj fu d a e).bind fun f=>f.el (fun _=>
 (mJ fu d 1 0).bind fun f=>
 iA f fun b c=>
 some (c,(⟨a.e,a.c,a.n,a.a,a.g,a.m,a.j,a.d,a.k,a.h,([b]:List Ge),a.f,a.i⟩:Gs))
 ) (fun o=>some o)
theorem yz (fu:Nat):JL (ul fu):=by
 intro w0 am H a x2 I C D J h j A B m o p t R hP E
 unfold ul at E
 have c:=hP.bx
 clear hP
 generalize hG:lT _=G at c ⊢
 refine cf Try.func113 r (ma [(0,Pt I),(1,Pt J),(2,.bool x2)] ⟨r,r,r,y⟩ fun an=>q ?_)
 obtain ⟨Y1,b,E⟩:=bs E
 refine oC (fun f w=>Has f [(0,Pt I),(1,Pt J)]∧Bx w0 w am G [.box I 102 #[Z C H.l D,V H.a,V H.c,V H.e],.box J 111 #[V a.e,V a.c,V a.n,T a.a,T a.g,V a.m,V a.j,Z h a.d j,T a.k,V a.h,Z A a.b B,Z m a.f o,Z p a.i t]] [.l C D H.l,.l h j a.d,.l A B a.b,.l m o a.f,.l p t a.i]∧Ld.go ()=Y1) (fun J1 L=>?_) ?_
 ·unfold yj at b
  refine q (g (s (mp r) (s (xn r) (s (tO r) (s (CW r (c.bk 0 r) r) (s (kK r r) (s (jZ r) ?_)))))))
  rcases iv b with ⟨W,b⟩|⟨W,b⟩
  ·rw [decide_eq_true W]
   refine jQ r (s (jZ r) (s (jN r r) (s (jZ r) ?_)))
   rcases iv b with ⟨Q,b⟩|⟨Q,b⟩
   ·rw [Q]
    refine jQ r (s (mp r) ?_)
    obtain ⟨a4,h4,b⟩:=bs b
    refine jQ r (sc (ec N8 r) (EQ fu (c.pr [0] [1] [0] r) h4) ?_)
    rintro _ w4 ⟨rfl,M⟩
    replace c:=c.cn [0] [1] M
    refine s (jN r r) (n ?_)
    rcases iv b with ⟨S,b⟩|⟨S,b⟩
    ·refine jH (cb S) (q (g (s (mp r) (s (mp r) ?_))))
     obtain ⟨F,a5,h6,b⟩:=lV b
     refine sc (ec CY r) (sw fu (c.pr [0] [1] [1] r) h6) ?_
     rintro _ w6 ⟨rfl,M⟩
     replace c:=c.cn [0] [1] M
     refine s (xn r) (s (Ai r) (lu (lW c 1 [T F] r pV r r) fun w7 c=>n (q (g (s (mp r) (s (mp r) ?_))))))
     obtain ⟨K,a6,h8,b⟩:=lV b
     refine sc (ec Su r) (EN fu (c.pr [0] [1] [0] r) h8) ?_
     rintro _ w8 ⟨u,v,U,rfl,M⟩
     have X:=c.rX.size
     replace c:=c.cn [0] [1] M
     replace c:=c.rb 0 w0.heap.size r X
     refine s (xn r) (s (qD r) (lu (lW c 2 [Z u K v] r uk r r) fun w9 c=>n (kP ?_)))
     replace c:=c.fz 0 0 r r
     obtain rfl:=sm b
     replace E:=oi E
     obtain rfl:=sm E
     exact zV (P:=Try.prog) (fn:=Try.f113) r (lw (⟨u,v,r,(c.dp [1,5,0,7,8])⟩))
    replace S:=nt S
    exact jI (cb S) (wk (L _ _ ⟨⟨r,r,y⟩,(c.dp [1,2,3,4,5]),sm b⟩))
   replace Q:=nt Q
   rw [Q]
   exact jB r (jB r (s (jX r r) (n (jI r (wk (L _ _ ⟨⟨r,r,y⟩,c,sm b⟩))))))
  rw [decide_eq_false W]
  exact jB r (s (jX r r) (s (jZ r) (jB r (jB r (s (jX r r) (n (jI r (wk (L _ _ ⟨⟨r,r,y⟩,c,sm b⟩)))))))))
 clear c
 rintro f w ⟨hf,c,Y⟩
 obtain ⟨an,rfl⟩:=gP _ _ hf
 clear hf
 subst Y
 replace E:=gi E
 refine g (s (mp r) (s (mp r) ?_))
 obtain ⟨d,a0,a1,E⟩:=lV E
 refine sc (ec BC r) (ug fu (c.pr [0] [1] [0] r) a1) ?_
 rintro _ ac ⟨x,z,rfl,M⟩
 replace c:=c.cn [0] [1] M
 refine qF (jV c [[V d.e,V d.d,V d.j,T d.a,T d.c,Z x d.b z]] ([d]:List Ge) (kX r) r r (by decide) ⟨(jL.tQ ⟨x,z,r,(c.dl 0 r)⟩),y⟩) ?_
 rintro _ ae ⟨N,rfl,c⟩
 refine s (xn r) (s (qD r) (lu (lW c 2 [.slice (ad N) ([d]:List Ge).length 1] r uk r r) fun af c=>n ?_))
 replace c:=c.fz 0 0 r r
 obtain rfl:=sm E
 exact zV (P:=Try.prog) (fn:=Try.f113) r (lw (⟨(ad N),1,r,(c.dp [2,4,0,6,7])⟩))
def Ik (m:jy→Gs→Option (jy × Gs)):Prop:=∀ {F:World} {G:Nat→Prop} {C:jy} {b:Gs} {D:Nat} {c:Option Addr} {d:Nat} {E:Nat} {k:Option Addr} {o:Nat} {p:Option Addr} {t:Nat} {f:Option Addr} {h:Nat} {i:Option Addr} {j:Nat} {R:jy × Gs},Pre F G [.box D 102 #[Z c C.l d,V C.a,V C.c,V C.e],.box E 111 #[V b.e,V b.c,V b.n,T b.a,T b.g,V b.m,V b.j,Z k b.d o,T b.k,V b.h,Z p b.b t,Z f b.f h,Z i b.i j]] [.l c d C.l,.l k o b.d,.l p t b.b,.l f h b.f,.l i j b.i]→m C b=some R→
 Calls Try.prog 114 #[Pt D,Pt E] F (rf fun v w=>iA R fun B a=>∃ (u:OA)(x:Nat)(z:OA)(A:Nat),v=.tuple #[]∧Bx F w G (lT [.box D 102 #[Z c C.l d,V C.a,V C.c,V C.e],.box E 111 #[V b.e,V b.c,V b.n,T b.a,T b.g,V b.m,V b.j,Z k b.d o,T b.k,V b.h,Z p b.b t,Z f b.f h,Z i b.i j]]) [.box D 102 #[Z c B.l d,V B.a,V B.c,V B.e],.box E 111 #[V a.e,V a.c,V a.n,T a.a,T a.g,V a.m,V a.j,Z u a.d x,T a.k,V a.h,Z z a.b A,Z f a.f h,Z i a.i j]] [.l c d B.l,.l u x a.d,.l z A a.b,.l f h a.f,.l i j a.i])
def yx (fu:Nat)(k:jy) (b:Gs):Option (jy × Gs):=
 (uT fu k).bind fun d=>
 if d=true then
  (ul fu k (⟨3,b.c,b.n,b.a,b.g,b.m,b.j,b.d,b.k,b.h,b.b,b.f,b.i⟩:Gs) true).bind fun l=>
  iA l fun e f=>
  some (e,f)
 else
  (uS fu k 0).bind fun l=>
  iA l fun h i=>
  (lY fu i (⟨#[61]⟩:BA)).bind fun j=>
  (ul fu j (⟨3,b.c,b.n,b.a,b.g,b.m,b.j,([h]:List Ge),b.k,b.h,b.b,b.f,b.i⟩:Gs) true).bind fun l=>
  iA l fun c a=>
  if a.k=(⟨#[]⟩:BA) then
   some (c,(⟨2,a.c,a.n,a.a,a.g,a.m,a.j,a.d,a.k,a.h,a.b,a.f,a.i⟩:Gs))
  else
   some (c,a)
theorem Ii (fu:Nat):Ik (yx fu):=by
 intro w0 ag M c I E F J w x z A m o p t R S j
 unfold yx at j
 have b:=S.bx
 clear S
 generalize hG:lT _=G at b ⊢
 refine cf Try.func114 r (ma [(0,Pt I),(1,Pt J)] ⟨r,r,y⟩ fun ah=>q (g (s (mp r) (s (xn r) (s (uJ r) (lu (lW b 1 [V 3] r pJ r r) fun w1 b=>n (q (q (g (s (mp r) ?_))))))))))
 obtain ⟨U,h2,j⟩:=bs j
 refine sc (ec N8 r) (EQ fu (b.pr [0] [1] [0] r) h2) ?_
 rintro _ w2 ⟨rfl,D⟩
 replace b:=b.cn [0] [1] D
 refine n ?_
 rcases iv j with ⟨K,j⟩|⟨K,j⟩
 ·refine jH (cb K) (q (g (s (mp r) (s (mp r) ?_))))
  obtain ⟨W,X,h4,j⟩:=lV j
  refine sc (ec GQ r) (yz fu (b.pr [0,1] [] [1,2,3,4,5] r) h4) ?_
  rintro _ w4 ⟨B,C,rfl,D⟩
  replace b:=b.cn [0,1] [] D
  refine n (kP ?_)
  obtain rfl:=sm j
  exact zV (P:=Try.prog) (fn:=Try.f114) r (lw (⟨w,x,B,C,r,(b.dp [0,1,2,3,4])⟩))
 replace K:=nt K
 refine jI (cb K) (wk (q (g (s (mp r) (s (mp r) ?_)))))
 obtain ⟨h,Y,h5,j⟩:=lV j
 refine sc (ec OU r) (Ia fu (b.pr [0] [1] [1] r) h5) ?_
 rintro _ w5 ⟨u,v,rfl,D⟩
 replace b:=b.cn [0] [1] D
 refine qF (jV b [[V h.e,V h.d,V h.j,T h.a,T h.c,Z u h.b v]] ([h]:List Ge) (kX r) r r (by decide) ⟨(jL.tQ ⟨u,v,r,(b.dl 0 r)⟩),y⟩) ?_
 rintro _ w6 ⟨L,rfl,b⟩
 refine s (xn r) (s (uA r) (lu (lW b 2 [.slice (ad L) ([h]:List Ge).length 1] r uk r r) fun w7 b=>n (q (g (s (mp r) ?_)))))
 obtain ⟨a0,h8,j⟩:=bs j
 refine sc (ec xA r) (mF fu (b.pr [1] [0,2] [2] r) h8) ?_
 rintro _ w8 ⟨rfl,D⟩
 replace b:=b.cn [1] [0,2] D
 refine n (q (g (s (mp r) (s (mp r) ?_))))
 replace b:=b.fz 1 1 r r
 obtain ⟨N,a,Q,j⟩:=lV j
 refine sc (ec GQ r) (yz fu (b.pr [0,1] [] [1,0,7,8,9] r) Q) ?_
 rintro _ a5 ⟨d,f,rfl,D⟩
 replace b:=b.cn [0,1] [] D
 refine n (q (g (s (mp r) (s (xn r) (s (Ai r) (s (l9 r (b.bk 1 r) r) (s (rT r r) (n ?_))))))))
 rcases iv j with ⟨H,j⟩|⟨H,j⟩
 ·refine jH (bt H) (g (s (mp r) (s (xn r) (s (uJ r) (lu (lW b 1 [V 2] r pJ r r) fun a6 b=>n ?_)))))
  obtain rfl:=sm j
  exact zV (P:=Try.prog) (fn:=Try.f114) r (lw (⟨(ad L),1,d,f,r,(b.dp [0,1,2,3,4])⟩))
 refine jI (bf H) (wk ?_)
 obtain rfl:=sm j
 exact zV (P:=Try.prog) (fn:=Try.f114) r (lw (⟨(ad L),1,d,f,r,(b.dp [0,1,2,3,4])⟩))
abbrev vR:=jy→Int→Option ((List jM) × Int × jy)
abbrev rD:=jy→Int→Option (jM × jy)
def xV (m:jy→Int→Option ((List Gs) × Int × jy)):Prop:=∀ {k:World} {u:Nat→Prop} {i:jy} {o:Int} {j:Nat} {a:Option Addr} {b:Nat} {R:(List Gs) × Int × jy},Pre k u [.box j 102 #[Z a i.l b,V i.a,V i.c,V i.e]] [.l a b i.l]→m i o=some R→
 Calls Try.prog 66 #[Pt j,V o] k (rf fun v w=>iA R fun p R=>iA R fun t c=>∃ (d:OA)(f:Nat)(h:LV),v=.tuple #[Z d p f,V t]∧Bx k w u (lT [.box j 102 #[Z a i.l b,V i.a,V i.c,V i.e]]) [O k.heap.size d f 111 Gs h,.box j 102 #[Z a c.l b,V c.a,V c.c,V c.e]] [.els h p,.l a b c.l])
def wm (m:jy→Int→Option (Gs × jy)):Prop:=∀ {z:World} {B:Nat→Prop} {u:jy} {A:Int} {x:Nat} {a:Option Addr} {b:Nat} {R:Gs × jy},Pre z B [.box x 102 #[Z a u.l b,V u.a,V u.c,V u.e]] [.l a b u.l]→m u A=some R→
 Calls Try.prog 94 #[Pt x,V A] z (rf fun v w=>iA R fun c d=>∃ (f:OA)(h:Nat)(i:OA)(j:Nat)(k:OA)(o:Nat)(p:OA)(t:Nat),v=.agg #[V c.e,V c.c,V c.n,T c.a,T c.g,V c.m,V c.j,Z f c.d h,T c.k,V c.h,Z i c.b j,Z k c.f o,Z p c.i t]∧Bx z w B (lT [.box x 102 #[Z a u.l b,V u.a,V u.c,V u.e]]) [.box x 102 #[Z a d.l b,V d.a,V d.c,V d.e]] [.l f h c.d,.l i j c.b,.l k o c.f,.l p t c.i,.l a b d.l])
def qN (fu:Nat)(r_r03_block:vR) (r_r03_statement:rD) (m:Int):Nat→(List Gs)→(List kv)→Int→Int→Int→Option (Ld (List Gs × List kv × Int × Int × Int) ((List Gs) × Int × jy))
 | 0,_,_,_,_,_=>none
 | t+1,i,b,c,d,a=>
 if a=0 then
  (nk fu (⟨b,c,d,a⟩:jy) 0 (⟨#[125]⟩:BA)).bind fun o=>
  if (!o)=true then
   (xZ fu (⟨b,c,d,a⟩:jy)).bind fun p=>
   if (!p)=true then
    (qC fu (⟨b,c,d,a⟩:jy) 7).bind fun j=>
    qN fu r_r03_block r_r03_statement m t i j.l j.a j.c j.e
   else
    if 8 < m then
     (qC fu (⟨b,c,d,a⟩:jy) 5).bind fun f=>
     qN fu r_r03_block r_r03_statement m t i f.l f.a f.c f.e
    else
     (r_r03_statement (⟨b,c,d,a⟩:jy) m).bind fun v=>
     iA v fun k h=>
     (app i ([k]:List Gs)).bind fun u=>
     qN fu r_r03_block r_r03_statement m t u h.l h.a h.c h.e
  else
   some (.go (i,b,c,d,a))
 else
  some (.go (i,b,c,d,a))
def yf (fu:Nat)(r_r03_block:vR) (r_r03_statement:rD) (a:List kv) (b:Int)(c:Int):Option (Ld (Int) ((List Gs) × Int × jy)):=
 if c=0 then
  (ix a b).bind fun d=>
  some (.go d.c)
 else
  some (.go 0)
def zH (fu:Nat)(r_r03_block:vR) (r_r03_statement:rD) (k:jy) (m:Int):Option ((List Gs) × Int × jy):=
 (lY fu k (⟨#[123]⟩:BA)).bind fun a=>
 (qN fu r_r03_block r_r03_statement m fu ([]:List Gs) a.l a.a a.c a.e).bind fun p=>p.el (fun p=>
 iA p fun i p=>iA p fun b p=>iA p fun c p=>iA p fun j d=>
 (yf fu r_r03_block r_r03_statement b c d).bind fun p=>p.el (fun f=>
 (lY fu (⟨b,c,j,d⟩:jy) (⟨#[125]⟩:BA)).bind fun h=>
 some (i,f,h)
 ) (fun o=>some o)
 ) (fun o=>some o)
def uR (fu:Nat)(r_r03_block:vR) (r_r03_statement:rD) (b:jy) (c:kv):Option (Ld (BA × Int) (Gs × jy)):=
 (qz fu b 0 3).bind fun a=>
 if a=true then
  some (.go (c.a,(wr (b.a+1))))
 else
  some (.go ((⟨#[]⟩:BA),b.a))
def uX (fu:Nat)(r_r03_block:vR) (r_r03_statement:rD) (b:jy) (x1:Int):Option (Gs × jy):=
 (ix b.l b.a).bind fun i=>
 (uR fu r_r03_block r_r03_statement b i).bind fun a7=>a7.el (fun a7=>
 iA a7 fun d c=>
 if d=(⟨#[118,97,114]⟩:BA) then
  (pY fu (⟨b.l,c,b.c,b.e⟩:jy)).bind fun a7=>
  iA a7 fun t u=>
  (lY fu u (⟨#[58]⟩:BA)).bind fun v=>
  (zA fu v (⟨1,i.c,0,t,be,0,0,([]:List Ge),be,0,([]:List Ge),([]:List Gs),([]:List Gs)⟩:Gs)).bind fun a7=>
  iA a7 fun w x=>
  (lY fu w (⟨#[59]⟩:BA)).bind fun z=>
  some (x,z)
 else
  if d=(⟨#[105,102]⟩:BA) then
   (mJ fu (⟨b.l,c,b.c,b.e⟩:jy) 1 0).bind fun a7=>
   iA a7 fun f A=>
   (r_r03_block A (wr (x1+1))).bind fun a7=>
   iA a7 fun h a7=>iA a7 fun a2 a=>
   if a.e=0 then
    (nk fu a 0 (⟨#[101,108,115,101]⟩:BA)).bind fun B=>
    if B=true then
     (r_r03_block (⟨a.l,(wr (a.a+1)),a.c,a.e⟩:jy) (wr (x1+1))).bind fun a7=>
     iA a7 fun C a7=>iA a7 fun a3 D=>
     some ((⟨4,i.c,0,be,be,0,0,([]:List Ge),be,0,([f]:List Ge),h,C⟩:Gs),D)
    else
     some ((⟨4,i.c,0,be,be,0,0,([]:List Ge),be,0,([f]:List Ge),h,([]:List Gs)⟩:Gs),a)
   else
    some ((⟨4,i.c,0,be,be,0,0,([]:List Ge),be,0,([f]:List Ge),h,([]:List Gs)⟩:Gs),a)
  else
   if d=(⟨#[119,104,105,108,101]⟩:BA) then
    (mJ fu (⟨b.l,c,b.c,b.e⟩:jy) 1 0).bind fun a7=>
    iA a7 fun E F=>
    (r_r03_block F (wr (x1+1))).bind fun a7=>
    iA a7 fun G a7=>iA a7 fun a4 H=>
    some ((⟨5,i.c,0,be,be,0,0,([]:List Ge),be,0,([E]:List Ge),G,([]:List Gs)⟩:Gs),H)
   else
    if d=(⟨#[116,114,121]⟩:BA) then
     (r_r03_block (⟨b.l,c,b.c,b.e⟩:jy) (wr (x1+1))).bind fun a7=>
     iA a7 fun I a7=>iA a7 fun a5 J=>
     (lY fu J (⟨#[99,97,116,99,104]⟩:BA)).bind fun K=>
     (pY fu K).bind fun a7=>
     iA a7 fun L M=>
     (r_r03_block M (wr (x1+1))).bind fun a7=>
     iA a7 fun N a7=>iA a7 fun a6 P=>
     some ((⟨8,i.c,0,L,be,0,0,([]:List Ge),be,0,([]:List Ge),I,N⟩:Gs),P)
    else
     if d=(⟨#[114,101,116,117,114,110]⟩:BA) then
      (ul fu (⟨b.l,c,b.c,b.e⟩:jy) (⟨6,i.c,0,be,be,0,0,([]:List Ge),be,0,([]:List Ge),([]:List Gs),([]:List Gs)⟩:Gs) true).bind fun a7=>
      iA a7 fun Q R=>
      (lY fu Q (⟨#[59]⟩:BA)).bind fun S=>
      some (R,S)
     else
      if d=(⟨#[116,104,114,111,119]⟩:BA) then
       (ul fu (⟨b.l,c,b.c,b.e⟩:jy) (⟨7,i.c,0,be,be,0,0,([]:List Ge),be,0,([]:List Ge),([]:List Gs),([]:List Gs)⟩:Gs) false).bind fun a7=>
       iA a7 fun U W=>
       (lY fu U (⟨#[59]⟩:BA)).bind fun X=>
       some (W,X)
      else
       if d=(⟨#[112,114,105,110,116]⟩:BA) then
        (ul fu (⟨b.l,c,b.c,b.e⟩:jy) (⟨9,i.c,0,be,be,0,0,([]:List Ge),be,0,([]:List Ge),([]:List Gs),([]:List Gs)⟩:Gs) false).bind fun a7=>
        iA a7 fun Y a0=>
        (lY fu Y (⟨#[59]⟩:BA)).bind fun j=>
        some (a0,j)
       else
        (yx fu (⟨b.l,c,b.c,b.e⟩:jy) (⟨0,i.c,0,be,be,0,0,([]:List Ge),be,0,([]:List Ge),([]:List Gs),([]:List Gs)⟩:Gs)).bind fun a7=>
        iA a7 fun k m=>
        (lY fu k (⟨#[59]⟩:BA)).bind fun p=>
        some (m,p)
 ) (fun o=>some o)
def vC:Nat→(jy→Int→Option ((List Gs) × Int × jy)) × (jy→Int→Option (Gs × jy))
 | 0=>((fun _ _=>none),(fun _ _=>none))
 | fu+1=>(zH fu ((vC fu).1) ((vC fu).2),uX fu ((vC fu).1) ((vC fu).2))
def xy (fu:Nat):=(vC fu).1
def wY (fu:Nat):=(vC fu).2
theorem Jt (fu:Nat)(r_r03_block:vR) (r_r03_statement:rD) (H_r03_block:xV r_r03_block) (H_r03_statement:wm r_r03_statement):xV (zH fu r_r03_block r_r03_statement):=by
 intro w0 aQ x0 x1 N x z R hP B
 unfold zH at B
 have b:=hP.bx
 clear hP
 generalize hG:lT _=G at b ⊢
 refine cf Try.func66 r (ma [(0,Pt N),(1,V x1)] ⟨r,r,y⟩ fun aR=>q (g (s (nJ r) (s (xi r) (n (q (g (s (nJ r) (n (q (g (s (mp r) ?_))))))))))))
 obtain ⟨S,h1,B⟩:=bs B
 refine sc (ec xA r) (mF fu (b.pr [0] [] [0] r) h1) ?_
 rintro _ w1 ⟨rfl,X⟩
 replace b:=b.cn [0] [] X
 refine n (q ?_)
 replace b:=b.BQ Gs 111
 obtain ⟨Y2,a,B⟩:=bs B
 refine oC (fun f w=>∃ (o:List Gs) (c:OA)(d:Nat)(j:LV)(p:List kv) (t:Int)(u:Int)(v:Int),Has f [(0,Pt N),(6,Z c o d)]∧Bx w0 w aQ G [O w0.heap.size c d 111 Gs j,.box N 102 #[Z x p z,V t,V u,V v]] [.l x z p,.els j o]∧Ld.go (o,p,t,u,v)=Y2) (fun J2 a6=>?_) ?_
 ·refine nZ (kH (fun aS f w=>∃ (o:List Gs) (c:OA)(d:Nat)(j:LV)(p:List kv) (t:Int)(u:Int)(v:Int),Has f [(0,Pt N),(1,V x1),(6,Z c o d)]∧Bx w0 w aQ G [O w0.heap.size c d 111 Gs j,.box N 102 #[Z x p z,V t,V u,V v]] [.l x z p,.els j o]∧qN fu r_r03_block r_r03_statement x1 aS o p t u v=some Y2) fu ⟨([]:List Gs),none,0,[],S.l,S.a,S.c,S.e,⟨r,r,r,y⟩,(b.dp [1,0]),a⟩ ?_)
  clear b a
  rintro n2 f w ⟨o,c,d,j,p,t,u,v,hf,b,a⟩ K2 a2
  obtain ⟨aR,rfl⟩:=gP _ _ hf
  clear hf
  cases n2 with
  | zero=>exact nn a
  | succ n2=>
   rw [qN] at a
   refine q (q (g (s (mp r) (s (xn r) (s (tO r) (s (CW r (b.bk 1 r) r) (s (kK r r) (s (jZ r) ?_))))))))
   rcases iv a with ⟨h4,a⟩|⟨h4,a⟩
   ·rw [decide_eq_true h4]
    refine jQ r (s (mp r) ?_)
    obtain ⟨av,h5,a⟩:=bs a
    refine jQ r (sc (ec wK r) (nS fu (b.pr [1] [0] [0] r) h5) ?_)
    rintro _ w5 ⟨rfl,X⟩
    replace b:=b.cn [1] [0] X
    refine jQ r (s (xc r) (s (jN r r) (n ?_)))
    rcases iv a with ⟨h6,a⟩|⟨h6,a⟩
    ·refine jH (cb h6) (wk (nZ (q (g (s (mp r) ?_)))))
     obtain ⟨aw,h7,a⟩:=bs a
     refine sc (ec T9 r) (Ic fu (b.pr [0] [1] [1] r) h7) ?_
     rintro _ w7 ⟨rfl,X⟩
     replace b:=b.cn [0] [1] X
     refine s (xc r) (n ?_)
     rcases iv a with ⟨h8,a⟩|⟨h8,a⟩
     ·refine jH (cb h8) (g (s (mp r) ?_))
      obtain ⟨U,h9,a⟩:=bs a
      refine sc (ec DY r) (tX fu (b.pr [0] [1] [2] r) h9) ?_
      rintro _ w9 ⟨rfl,X⟩
      replace b:=b.cn [0] [1] X
      exact n (a2 n2 _ _ (Nat.lt_succ_self _) ⟨o,c,d,j,U.l,U.a,U.c,U.e,⟨r,r,r,y⟩,(b.ad [1,0] [0,4]),a⟩)
     replace h8:=nt h8
     refine jI (cb h8) (q (g (s (mi r) (s (vG r r) (n ?_)))))
     rcases iv a with ⟨a3,a⟩|⟨a3,a⟩
     ·refine jH (bt a3) (g (s (mp r) ?_))
      obtain ⟨L,ah,a⟩:=bs a
      refine sc (ec DY r) (tX fu (b.pr [0] [1] [2] r) ah) ?_
      rintro _ aB ⟨rfl,X⟩
      replace b:=b.cn [0] [1] X
      exact n (a2 n2 _ _ (Nat.lt_succ_self _) ⟨o,c,d,j,L.l,L.a,L.c,L.e,⟨r,r,r,y⟩,(b.ad [1,0] [0,4]),a⟩)
     refine jI (bf a3) (g (s (mD r) (s (mp r) (s (mi r) ?_))))
     obtain ⟨m,M,ai,a⟩:=lV a
     refine sc (ec Uj r) (H_r03_statement (b.pr [0] [1] [2] r) ai) ?_
     rintro _ aC ⟨C,D,E,F,H,I,J,K,rfl,X⟩
     replace b:=b.cn [0] [1] X
     refine qF (jV b [[V m.e,V m.c,V m.n,T m.a,T m.g,V m.m,V m.j,Z C m.d D,T m.k,V m.h,Z E m.b F,Z H m.f I,Z J m.i K]] ([m]:List Gs) (tH r) r r (by decide) ⟨(jM.tQ ⟨C,D,E,F,H,I,J,K,r,(b.dl 0 r),(b.dl 1 r),(b.dl 2 r),(b.dl 3 r)⟩),y⟩) ?_
     rintro _ aD ⟨aE,rfl,b⟩
     obtain ⟨aj,aa,a⟩:=bs a
     refine qF (kS b 2 9 r r yH jP r (by decide) (by decide) (Nat.le_refl _) r r (b.AJ 0 0 r r) aa) ?_
     rintro _ aF ⟨ak,al,am,rfl,b⟩
     exact s (nJ r) (n (a2 n2 _ _ (Nat.lt_succ_self _) ⟨aj,ak,al,am,M.l,M.a,M.c,M.e,⟨r,r,r,y⟩,(b.ad [2,1] [5,9]),a⟩))
    replace h6:=nt h6
    exact jI (cb h6) (uW (a6 _ _ ⟨o,c,d,j,p,t,u,v,⟨r,r,y⟩,(b.ad [1,0] [1,2]),sm a⟩))
   rw [decide_eq_false h4]
   exact jB r (jB r (jB r (s (jX r r) (n (jI r (uW (a6 _ _ ⟨o,c,d,j,p,t,u,v,⟨r,r,y⟩,b,sm a⟩)))))))
 clear b
 rintro f w ⟨o,c,d,j,p,t,u,v,hf,b,an⟩
 obtain ⟨aR,rfl⟩:=gP _ _ hf
 clear hf
 subst an
 replace B:=gi B
 replace B:=pi (mf B)
 refine q (g (s (xi r) (n (q ?_))))
 obtain ⟨ao,A,B⟩:=bs B
 refine oC (fun f w=>∃ (Q:Int),Has f [(0,Pt N),(6,Z c o d),(7,V Q)]∧Bx w0 w aQ G [O w0.heap.size c d 111 Gs j,.box N 102 #[Z x p z,V t,V u,V v]] [.l x z p,.els j o]∧Ld.go Q=ao) (fun aG a1=>?_) ?_
 ·unfold yf at A
  refine q (g (s (mp r) (s (xn r) (s (tO r) (s (CW r (b.bk 1 r) r) (s (kK r r) (n ?_)))))))
  rcases iv A with ⟨a4,A⟩|⟨a4,A⟩
  ·refine jH (bt a4) (oJ b [1] [0] [] (by kernel_rfl) ?_)
   replace b:=b.drew
   have Y:=(b.ad [1] [0])
   refine pF 0 r (mp r) Y (pF 1 r (xn r) Y (pF 2 r (zO r) Y (uF 3 r (fun hS=>NN r (hS.bk 0 r) r) Y (pF 4 r (mp r) Y (pF 5 r (xn r) Y (pF 6 r (mM r) Y (uF 7 r (fun hS=>l3 r (hS.bk 0 r) r) Y ?_)))))))
   obtain ⟨a0,W,A⟩:=bs A
   obtain ⟨aH,ab,W⟩:=kG W
   exact pF 8 r (kZ Du qO r r ab (b.dl 0 r) W) Y (pF 9 r (Kn r) Y (tU 10 r (fun _ hS=>kz EU r r ((vo (ds:=[V a0.e,V a0.c,T a0.a,V a0.d]) (hS.dl 0 r) W (fun _ h=>h)) 1 _ r)) (sF Y) (pF 11 r (xi r) Y (hD (a1 _ _ ⟨a0.c,⟨r,r,r,y⟩,b,sm A⟩)))))
  exact jI (bf a4) (wk (a1 _ _ ⟨0,⟨r,r,r,y⟩,b,sm A⟩))
 clear b
 rintro f w ⟨Q,hf,b,ac⟩
 obtain ⟨aR,rfl⟩:=gP _ _ hf
 clear hf
 subst ac
 replace B:=gi B
 refine q (g (s (mp r) ?_))
 obtain ⟨ap,aq,B⟩:=bs B
 refine sc (ec xA r) (mF fu (b.pr [1] [0] [0] r) aq) ?_
 rintro _ aI ⟨rfl,X⟩
 replace b:=b.cn [1] [0] X
 refine n (q (g (s (mD r) (s (mi r) (s (nJ r) (s (xi r) (n (kP ?_))))))))
 obtain rfl:=sm B
 exact rO r (kT r) (kT r) (lw (lw (⟨c,d,j,r,(b.ad [1,0] [2,0])⟩)))
theorem Ej (fu:Nat)(r_r03_block:vR) (r_r03_statement:rD) (H_r03_block:xV r_r03_block) (H_r03_statement:wm r_r03_statement):wm (uX fu r_r03_block r_r03_statement):=by
 intro w0 cN x0 x1 ap a5 a6 R hP p
 unfold uX at p
 have a:=hP.bx
 clear hP
 generalize hG:lT _=G at a ⊢
 refine cf Try.func94 r ?_
 refine ma [(0,Pt ap),(1,V x1)] ⟨r,r,y⟩ fun cO=>?_
 refine q (g (tL a (ko jP) fun w1 b1 a=>?_))
 refine n (q (oJ a [1] [0] [] (by kernel_rfl) ?_))
 replace a:=a.drew
 have hs:=(a.arr [1] r)
 refine pF 0 r (mp r) hs (pF 1 r (xn r) hs (pF 2 r (zO r) hs (uF 3 r (fun hS=>NN r (hS.bk 0 r) r) hs (pF 4 r (mp r) hs (pF 5 r (xn r) hs (pF 6 r (mM r) hs (uF 7 r (fun hS=>l3 r (hS.bk 0 r) r) hs ?_)))))))
 obtain ⟨Q,ak,p⟩:=bs p
 obtain ⟨k2,aG,ak⟩:=kG ak
 refine pF 8 r (kZ Du qO r r aG (a.dl 0 r) ak) hs (pF 9 r (Kn r) hs (tU 10 r (fun _ hS=>kz EU r r ((vo (ds:=[V Q.e,V Q.c,T Q.a,V Q.d]) (hS.dl 0 r) ak (fun _ h=>h)) 1 _ r)) (sF hs) (pF 11 r (Qx r) hs ?_)))
 refine hO 12 (oo r r (rM a (ko jP)) ?_)
 rintro _ w3 ⟨b3,rfl,a⟩
 have hs:=(a.arr [2] r)
 refine ⟨(sF hs),?_⟩
 refine hO 13 (os r r (nD a 0 [V 0,V Q.c,V 0,T be,T be,V 0,V 0,sn,T be,V 0,sn,sn,sn] r jP r r) fun w4 a=>?_)
 have hs:=(a.arr [2] r)
 refine ⟨(sF hs),?_⟩
 refine hD (q (g (s (mZ r) (n (q ?_)))))
 obtain ⟨Y5,ah,p⟩:=bs p
 refine oC (fun f w=>∃ (al:BA) (am:Int),Has f [(0,Pt ap),(1,V x1),(4,Pt b1),(5,Pt b3),(6,T al)]∧Bx w0 w cN G [.box b3 111 #[V 0,V Q.c,V 0,T be,T be,V 0,V 0,sn,T be,V 0,sn,sn,sn],.box b1 111 #[V 0,V 0,V 0,T be,T be,V 0,V 0,sn,T be,V 0,sn,sn,sn],.box ap 102 #[Z a5 x0.l a6,V am,V x0.c,V x0.e]] [.l a5 a6 x0.l]∧Ld.go (al,am)=Y5) (fun J5 aH=>?_) ?_
 ·unfold uR at ah
  refine q (g (s (mp r) ?_))
  obtain ⟨bK,h6,ah⟩:=bs ah
  refine sc (ec D6 r) (uq fu (a.pr [2] [0,1] [0] r) h6) ?_
  rintro _ w6 ⟨rfl,J⟩
  replace a:=a.cn [2] [0,1] J
  refine n ?_
  rcases iv ah with ⟨h7,ah⟩|⟨h7,ah⟩
  ·refine jH (cb h7) (q (oJ a [0] [1] [] (by kernel_rfl) ?_))
   replace a:=a.drew
   have hs:=(a.ad [0] [1])
   refine pF 0 r (mp r) hs (pF 1 r (xn r) hs (pF 2 r (zO r) hs (uF 3 r (fun hS=>NN r (hS.bk 0 r) r) hs (pF 4 r (mp r) hs (pF 5 r (xn r) hs (pF 6 r (mM r) hs (uF 7 r (fun hS=>l3 r (hS.bk 0 r) r) hs (pF 8 r (kZ Du qO r r aG (a.dl 1 r) ak) hs (pF 9 r (JM r) hs (tU 10 r (fun _ hS=>kz rH r r ((vo (ds:=[V Q.e,V Q.c,T Q.a,V Q.d]) (hS.dl 0 r) ak (fun _ h=>h)) 2 _ r)) (sF hs) (pF 11 r (mZ r) hs (hD (g ?_)))))))))))))
   refine s (mp r) (s (xn r) (s (mM r) (s (l3 r (a.bk 0 r) r) (s (kN r r) (s (xn r) (s (mM r) (lu (lW a 0 [V (wr (x0.a+1))] r pJ r r) fun w8 a=>?_)))))))
   refine n ?_
   exact aH _ _ ⟨Q.a,(wr (x0.a+1)),⟨r,r,r,r,r,y⟩,(a.ad [1,2,0] [1]),sm ah⟩
  replace h7:=nt h7
  refine jI (cb h7) (wk ?_)
  exact aH _ _ ⟨(⟨#[]⟩:BA),x0.a,⟨r,r,r,r,r,y⟩,(a.ad [1,2,0] [1]),sm ah⟩
 clear a
 rintro f w ⟨al,am,hf,a,aP⟩
 obtain ⟨cO,rfl⟩:=gP _ _ hf
 clear hf
 subst aP
 replace p:=gi p
 replace p:=pi p
 refine q (q (g (s (lc r) (n (nZ (q (g (s (rT r r) (s (jU r) (n ?_))))))))))
 rcases iv p with ⟨h9,p⟩|⟨h9,p⟩
 ·refine jH (bt h9) (q (g (s (mp r) ?_)))
  obtain ⟨an,aR,aS,p⟩:=lV p
  refine sc (ec CY r) (sw fu (a.pr [2] [0,1] [0] r) aS) ?_
  rintro _ bS ⟨rfl,J⟩
  replace a:=a.cn [2] [0,1] J
  refine s (uJ r) (lu (lW a 1 [V 1] r pJ r r) fun bT a=>?_)
  refine s (xu r) (lu (lW a 1 [T an] r pV r r) fun bU a=>?_)
  refine n (q (g (s (mp r) ?_)))
  obtain ⟨aT,aU,p⟩:=bs p
  refine sc (ec xA r) (mF fu (a.pr [0] [1,2] [0] r) aU) ?_
  rintro _ bV ⟨rfl,J⟩
  replace a:=a.cn [0] [1,2] J
  refine n (q (g (s (mp r) ?_)))
  replace a:=a.ku (d:=.l none 0 ([]:List Ge)) oP
  replace a:=a.ku (d:=.l none 0 ([]:List Ge)) oP
  replace a:=a.ku (d:=.l none 0 ([]:List Gs)) oP
  replace a:=a.ku (d:=.l none 0 ([]:List Gs)) oP
  obtain ⟨aV,c,aW,p⟩:=lV p
  refine sc (ec Rm r) (JE fu (a.pr [0,1] [2] [4,3,2,1,0] r) aW) ?_
  rintro _ bW ⟨rfl,J⟩
  replace a:=a.cn [0,1] [2] J
  refine n (g (s (mp r) ?_))
  obtain ⟨aX,aY,p⟩:=bs p
  refine sc (ec xA r) (mF fu (a.pr [0] [1,2] [0] r) aY) ?_
  rintro _ bX ⟨rfl,J⟩
  replace a:=a.cn [0] [1,2] J
  refine n (q (g (s (mE [V c.e,V c.c,V c.n,T c.a,T c.g,V c.m,V c.j,Z none c.d 0,T c.k,V c.h,Z none c.b 0,Z none c.f 0,Z none c.i 0] lG jP r (a.bk 1 r)) (lu (nD a 2 [V c.e,V c.c,V c.n,T c.a,T c.g,V c.m,V c.j,Z none c.d 0,T c.k,V c.h,Z none c.b 0,Z none c.f 0,Z none c.i 0] r jP r r) fun bY a=>?_))))
  refine n (kP ?_)
  obtain rfl:=sm p
  refine jC r (uN r lG r jP r (a.bk 2 r)) ?_
  exact lw (⟨none,0,none,0,none,0,none,0,r,(a.ad [0] [2,3,4,5,0])⟩)
 refine jI (bf h9) (q (g (s (rT r r) (s (jU r) (n ?_)))))
 rcases iv p with ⟨ar,p⟩|⟨ar,p⟩
 ·refine jH (bt ar) (q (g (s (mp r) ?_)))
  obtain ⟨v,aZ,b0,p⟩:=lV p
  refine sc (ec BC r) (ug fu (a.pr [2] [0,1] [0] r) b0) ?_
  rintro _ bZ ⟨ab,ac,rfl,J⟩
  replace a:=a.cn [2] [0,1] J
  refine qF (jV a [[V v.e,V v.d,V v.j,T v.a,T v.c,Z ab v.b ac]] ([v]:List Ge) (kX r) r r (by decide) ⟨(jL.tQ ⟨ab,ac,r,(a.dl 0 r)⟩),y⟩) ?_
  rintro _ c0 ⟨a1,rfl,a⟩
  refine s (uJ r) (lu (lW a 2 [V 4] r pJ r r) fun c1 a=>?_)
  refine s (qD r) (lu (lW a 2 [.slice (ad a1) ([v]:List Ge).length 1] r uk r r) fun c2 a=>?_)
  refine n (q (g (s (mp r) (s (mi r) (s (kN r r) ?_)))))
  obtain ⟨B,b2,a7,b4,p⟩:=qG p
  refine sc (ec IV r) (H_r03_block (a.pr [1] [0,2,3] [2] r) b4) ?_
  rintro _ c3 ⟨t,u,aB,rfl,J⟩
  have ag:=a.rX.size
  replace a:=a.cn [1] [0,2,3] J
  replace a:=a.rb 0 w0.heap.size r ag
  refine s pQ (s (jO r r) (s (jO r r) (s (uo r) (lu (lW a 3 [Z t B u] r yG r r) fun c4 a=>?_))))
  refine n (q (g (s (mp r) (s (xn r) (s (tO r) (s (CW r (a.bk 1 r) r) (s (kK r r) (s (jZ r) ?_))))))))
  rcases iv p with ⟨au,p⟩|⟨au,p⟩
  ·rw [decide_eq_true au]
   refine jQ r (s (mp r) ?_)
   obtain ⟨b5,b6,p⟩:=bs p
   refine jQ r ?_
   refine sc (ec wK r) (nS fu (a.pr [1] [0,2,3,4] [1] r) b6) ?_
   rintro _ c5 ⟨rfl,J⟩
   replace a:=a.cn [1] [0,2,3,4] J
   refine s (jN r r) (n ?_)
   rcases iv p with ⟨ao,p⟩|⟨ao,p⟩
   ·refine jH (cb ao) (q (g (s (mp r) (s (xn r) (s (mM r) (s (l3 r (a.bk 0 r) r) (s (kN r r) (s (xn r) (s (mM r) (lu (lW a 0 [V (wr (a7.a+1))] r pJ r r) fun c6 a=>?_))))))))))
    refine n (g (s (mp r) (s (mi r) (s (kN r r) ?_))))
    obtain ⟨a8,b7,b8,b9,p⟩:=qG p
    refine sc (ec IV r) (H_r03_block (a.pr [0] [1,2,3,4] [2] r) b9) ?_
    rintro _ c7 ⟨C,D,aC,rfl,J⟩
    have ag:=a.rX.size
    replace a:=a.cn [0] [1,2,3,4] J
    replace a:=a.rb 0 w0.heap.size r ag
    refine s pQ (s (jO r r) (s (jO r r) (s (tZ r) (lu (lW a 4 [Z C a8 D] r yG r r) fun c8 a=>?_))))
    refine n (q (g (s (mE [V 4,V Q.c,V 0,T be,T be,V 0,V 0,sn,T be,V 0,.slice (ad a1) ([v]:List Ge).length 1,Z t B u,Z C a8 D] lG jP r (a.bk 4 r)) (lu (nD a 5 [V 4,V Q.c,V 0,T be,T be,V 0,V 0,sn,T be,V 0,.slice (ad a1) ([v]:List Ge).length 1,Z t B u,Z C a8 D] r jP r r) fun c9 a=>?_))))
    refine n (kP ?_)
    replace a:=a.fz 3 5 r r
    replace a:=a.fz 2 4 r r
    replace a:=a.fz 0 2 r r
    replace a:=a.ku (d:=.l none 0 ([]:List Ge)) oP
    obtain rfl:=sm p
    refine jC r (uN r lG r jP r (a.bk 2 r)) ?_
    exact lw (⟨none,0,(ad a1),1,t,u,C,D,r,(a.ad [0] [0,3,2,1,4])⟩)
   replace ao:=nt ao
   refine jI (cb ao) (wk (q (g (s (mE [V 4,V Q.c,V 0,T be,T be,V 0,V 0,sn,T be,V 0,.slice (ad a1) ([v]:List Ge).length 1,Z t B u,sn] lG jP r (a.bk 3 r)) (lu (nD a 4 [V 4,V Q.c,V 0,T be,T be,V 0,V 0,sn,T be,V 0,.slice (ad a1) ([v]:List Ge).length 1,Z t B u,sn] r jP r r) fun cc a=>?_)))))
   refine n (kP ?_)
   replace a:=a.fz 2 3 r r
   replace a:=a.fz 1 2 r r
   replace a:=a.ku (d:=.l none 0 ([]:List Ge)) oP
   replace a:=a.ku (d:=.l none 0 ([]:List Gs)) oP
   obtain rfl:=sm p
   refine jC r (uN r lG r jP r (a.bk 2 r)) ?_
   exact lw (⟨none,0,(ad a1),1,t,u,none,0,r,(a.ad [0] [1,3,2,0,5])⟩)
  rw [decide_eq_false au]
  refine jB r (jB r (s (jX r r) (n (jI r (wk (q (g (s (mE [V 4,V Q.c,V 0,T be,T be,V 0,V 0,sn,T be,V 0,.slice (ad a1) ([v]:List Ge).length 1,Z t B u,sn] lG jP r (a.bk 3 r)) (lu (nD a 4 [V 4,V Q.c,V 0,T be,T be,V 0,V 0,sn,T be,V 0,.slice (ad a1) ([v]:List Ge).length 1,Z t B u,sn] r jP r r) fun cd a=>?_)))))))))
  refine n (kP ?_)
  replace a:=a.fz 2 2 r r
  replace a:=a.fz 0 1 r r
  replace a:=a.ku (d:=.l none 0 ([]:List Ge)) oP
  replace a:=a.ku (d:=.l none 0 ([]:List Gs)) oP
  obtain rfl:=sm p
  refine jC r (uN r lG r jP r (a.bk 2 r)) ?_
  exact lw (⟨none,0,(ad a1),1,t,u,none,0,r,(a.ad [0] [1,3,2,0,4])⟩)
 refine jI (bf ar) (q (g (s (rT r r) (s (jU r) (n ?_)))))
 rcases iv p with ⟨av,p⟩|⟨av,p⟩
 ·refine jH (bt av) (q (g (s (mp r) ?_)))
  obtain ⟨A,ba,bb,p⟩:=lV p
  refine sc (ec BC r) (ug fu (a.pr [2] [0,1] [0] r) bb) ?_
  rintro _ ce ⟨ae,af,rfl,J⟩
  replace a:=a.cn [2] [0,1] J
  refine qF (jV a [[V A.e,V A.d,V A.j,T A.a,T A.c,Z ae A.b af]] ([A]:List Ge) (kX r) r r (by decide) ⟨(jL.tQ ⟨ae,af,r,(a.dl 0 r)⟩),y⟩) ?_
  rintro _ cg ⟨aj,rfl,a⟩
  refine s (uJ r) (lu (lW a 2 [V 5] r pJ r r) fun ch a=>?_)
  refine s (qD r) (lu (lW a 2 [.slice (ad aj) ([A]:List Ge).length 1] r uk r r) fun ci a=>?_)
  refine n (g (s (mp r) (s (mi r) (s (kN r r) ?_))))
  obtain ⟨a9,bc,bd,bg,p⟩:=qG p
  refine sc (ec IV r) (H_r03_block (a.pr [1] [0,2,3] [2] r) bg) ?_
  rintro _ cj ⟨E,F,aD,rfl,J⟩
  have ag:=a.rX.size
  replace a:=a.cn [1] [0,2,3] J
  replace a:=a.rb 0 w0.heap.size r ag
  refine s pQ (s (jO r r) (s (jO r r) (s (uo r) (lu (lW a 3 [Z E a9 F] r yG r r) fun ck a=>?_))))
  refine n (q (g (s (mE [V 5,V Q.c,V 0,T be,T be,V 0,V 0,sn,T be,V 0,.slice (ad aj) ([A]:List Ge).length 1,Z E a9 F,sn] lG jP r (a.bk 3 r)) (lu (nD a 4 [V 5,V Q.c,V 0,T be,T be,V 0,V 0,sn,T be,V 0,.slice (ad aj) ([A]:List Ge).length 1,Z E a9 F,sn] r jP r r) fun cm a=>?_))))
  refine n (kP ?_)
  replace a:=a.fz 2 2 r r
  replace a:=a.fz 0 1 r r
  replace a:=a.ku (d:=.l none 0 ([]:List Ge)) oP
  replace a:=a.ku (d:=.l none 0 ([]:List Gs)) oP
  obtain rfl:=sm p
  refine jC r (uN r lG r jP r (a.bk 2 r)) ?_
  exact lw (⟨none,0,(ad aj),1,E,F,none,0,r,(a.ad [0] [1,3,2,0,4])⟩)
 refine jI (bf av) (q (g (s (rT r r) (s (jU r) (n ?_)))))
 rcases iv p with ⟨aw,p⟩|⟨aw,p⟩
 ·refine jH (bt aw) (q (g (s (uJ r) (lu (lW a 0 [V 8] r pJ r r) fun cn a=>?_))))
  refine n (q (g (s (mp r) (s (mi r) (s (kN r r) ?_)))))
  obtain ⟨a2,bh,bi,bj,p⟩:=qG p
  refine sc (ec IV r) (H_r03_block (a.pr [2] [0,1] [0] r) bj) ?_
  rintro _ co ⟨x,z,aE,rfl,J⟩
  have ag:=a.rX.size
  replace a:=a.cn [2] [0,1] J
  replace a:=a.rb 0 w0.heap.size r ag
  refine s pQ (s (jO r r) (s (jO r r) (s (uo r) (lu (lW a 2 [Z x a2 z] r yG r r) fun Tj a=>?_))))
  refine n (q (g (s (mp r) ?_)))
  obtain ⟨bl,bm,p⟩:=bs p
  refine sc (ec xA r) (mF fu (a.pr [1] [0,2,3] [1] r) bm) ?_
  rintro _ cp ⟨rfl,J⟩
  replace a:=a.cn [1] [0,2,3] J
  refine n (q (g (s (mp r) ?_)))
  obtain ⟨a4,bn,bo,p⟩:=lV p
  refine sc (ec CY r) (sw fu (a.pr [0] [1,2,3] [0] r) bo) ?_
  rintro _ cq ⟨rfl,J⟩
  replace a:=a.cn [0] [1,2,3] J
  refine s (xu r) (lu (lW a 2 [T a4] r pV r r) fun cr a=>?_)
  refine n (g (s (mp r) (s (mi r) (s (kN r r) ?_))))
  obtain ⟨aa,bp,bq,br,p⟩:=qG p
  refine sc (ec IV r) (H_r03_block (a.pr [0] [1,2,3] [0] r) br) ?_
  rintro _ ct ⟨H,I,aF,rfl,J⟩
  have ag:=a.rX.size
  replace a:=a.cn [0] [1,2,3] J
  replace a:=a.rb 0 w0.heap.size r ag
  refine s pQ (s (jO r r) (s (jO r r) (s (tZ r) (lu (lW a 3 [Z H aa I] r yG r r) fun cu a=>?_))))
  refine n (q (g (s (mE [V 8,V Q.c,V 0,T a4,T be,V 0,V 0,sn,T be,V 0,sn,Z x a2 z,Z H aa I] lG jP r (a.bk 3 r)) (lu (nD a 4 [V 8,V Q.c,V 0,T a4,T be,V 0,V 0,sn,T be,V 0,sn,Z x a2 z,Z H aa I] r jP r r) fun cv a=>?_))))
  refine n (kP ?_)
  replace a:=a.fz 2 4 r r
  replace a:=a.fz 0 1 r r
  replace a:=a.ku (d:=.l none 0 ([]:List Ge)) oP
  replace a:=a.ku (d:=.l none 0 ([]:List Ge)) oP
  obtain rfl:=sm p
  refine jC r (uN r lG r jP r (a.bk 2 r)) ?_
  exact lw (⟨none,0,none,0,x,z,H,I,r,(a.ad [0] [1,0,3,2,4])⟩)
 refine jI (bf aw) (q (g (s (rT r r) (s (jU r) (n ?_)))))
 rcases iv p with ⟨ax,p⟩|⟨ax,p⟩
 ·refine jH (bt ax) (q (g (s (uJ r) (lu (lW a 0 [V 6] r pJ r r) fun cw a=>?_))))
  refine n (q (g (s (mp r) ?_)))
  replace a:=a.ku (d:=.l none 0 ([]:List Ge)) oP
  replace a:=a.ku (d:=.l none 0 ([]:List Ge)) oP
  replace a:=a.ku (d:=.l none 0 ([]:List Gs)) oP
  replace a:=a.ku (d:=.l none 0 ([]:List Gs)) oP
  obtain ⟨bu,j,bv,p⟩:=lV p
  refine sc (ec GQ r) (yz fu (a.pr [2,0] [1] [4,3,2,1,0] r) bv) ?_
  rintro _ cx ⟨S,U,rfl,J⟩
  replace a:=a.cn [2,0] [1] J
  refine n (g (s (mp r) ?_))
  obtain ⟨bw,bz,p⟩:=bs p
  refine sc (ec xA r) (mF fu (a.pr [0] [1,2] [0] r) bz) ?_
  rintro _ cy ⟨rfl,J⟩
  replace a:=a.cn [0] [1,2] J
  refine n (q (g (s (mE [V j.e,V j.c,V j.n,T j.a,T j.g,V j.m,V j.j,Z none j.d 0,T j.k,V j.h,Z S j.b U,Z none j.f 0,Z none j.i 0] lG jP r (a.bk 1 r)) (lu (nD a 2 [V j.e,V j.c,V j.n,T j.a,T j.g,V j.m,V j.j,Z none j.d 0,T j.k,V j.h,Z S j.b U,Z none j.f 0,Z none j.i 0] r jP r r) fun cz a=>?_))))
  refine n (kP ?_)
  obtain rfl:=sm p
  refine jC r (uN r lG r jP r (a.bk 2 r)) ?_
  exact lw (⟨none,0,S,U,none,0,none,0,r,(a.ad [0] [2,3,4,5,0])⟩)
 refine jI (bf ax) (q (g (s (rT r r) (s (jU r) (n ?_)))))
 rcases iv p with ⟨ay,p⟩|⟨ay,p⟩
 ·refine jH (bt ay) (q (g (s (uJ r) (lu (lW a 0 [V 7] r pJ r r) fun cA a=>?_))))
  refine n (q (g (s (mp r) ?_)))
  replace a:=a.ku (d:=.l none 0 ([]:List Ge)) oP
  replace a:=a.ku (d:=.l none 0 ([]:List Ge)) oP
  replace a:=a.ku (d:=.l none 0 ([]:List Gs)) oP
  replace a:=a.ku (d:=.l none 0 ([]:List Gs)) oP
  obtain ⟨bA,m,bB,p⟩:=lV p
  refine sc (ec GQ r) (yz fu (a.pr [2,0] [1] [4,3,2,1,0] r) bB) ?_
  rintro _ cB ⟨W,X,rfl,J⟩
  replace a:=a.cn [2,0] [1] J
  refine n (g (s (mp r) ?_))
  obtain ⟨bC,bD,p⟩:=bs p
  refine sc (ec xA r) (mF fu (a.pr [0] [1,2] [0] r) bD) ?_
  rintro _ cC ⟨rfl,J⟩
  replace a:=a.cn [0] [1,2] J
  refine n (q (g (s (mE [V m.e,V m.c,V m.n,T m.a,T m.g,V m.m,V m.j,Z none m.d 0,T m.k,V m.h,Z W m.b X,Z none m.f 0,Z none m.i 0] lG jP r (a.bk 1 r)) (lu (nD a 2 [V m.e,V m.c,V m.n,T m.a,T m.g,V m.m,V m.j,Z none m.d 0,T m.k,V m.h,Z W m.b X,Z none m.f 0,Z none m.i 0] r jP r r) fun cD a=>?_))))
  refine n (kP ?_)
  obtain rfl:=sm p
  refine jC r (uN r lG r jP r (a.bk 2 r)) ?_
  exact lw (⟨none,0,W,X,none,0,none,0,r,(a.ad [0] [2,3,4,5,0])⟩)
 refine jI (bf ay) (q (g (s (rT r r) (s (jU r) (n ?_)))))
 rcases iv p with ⟨az,p⟩|⟨az,p⟩
 ·refine jH (bt az) (q (g (s (uJ r) (lu (lW a 0 [V 9] r pJ r r) fun cE a=>?_))))
  refine n (q (g (s (mp r) ?_)))
  replace a:=a.ku (d:=.l none 0 ([]:List Ge)) oP
  replace a:=a.ku (d:=.l none 0 ([]:List Ge)) oP
  replace a:=a.ku (d:=.l none 0 ([]:List Gs)) oP
  replace a:=a.ku (d:=.l none 0 ([]:List Gs)) oP
  obtain ⟨bE,o,bF,p⟩:=lV p
  refine sc (ec GQ r) (yz fu (a.pr [2,0] [1] [4,3,2,1,0] r) bF) ?_
  rintro _ cF ⟨Y,a0,rfl,J⟩
  replace a:=a.cn [2,0] [1] J
  refine n (g (s (mp r) ?_))
  obtain ⟨aM,aJ,p⟩:=bs p
  refine sc (ec xA r) (mF fu (a.pr [0] [1,2] [0] r) aJ) ?_
  rintro _ bL ⟨rfl,J⟩
  replace a:=a.cn [0] [1,2] J
  refine n (q (g (s (mE [V o.e,V o.c,V o.n,T o.a,T o.g,V o.m,V o.j,Z none o.d 0,T o.k,V o.h,Z Y o.b a0,Z none o.f 0,Z none o.i 0] lG jP r (a.bk 1 r)) (lu (nD a 2 [V o.e,V o.c,V o.n,T o.a,T o.g,V o.m,V o.j,Z none o.d 0,T o.k,V o.h,Z Y o.b a0,Z none o.f 0,Z none o.i 0] r jP r r) fun bM a=>?_))))
  refine n (kP ?_)
  obtain rfl:=sm p
  refine jC r (uN r lG r jP r (a.bk 2 r)) ?_
  exact lw (⟨none,0,Y,a0,none,0,none,0,r,(a.ad [0] [2,3,4,5,0])⟩)
 refine jI (bf az) (q (g (s (mp r) ?_)))
 replace a:=a.ku (d:=.l none 0 ([]:List Ge)) oP
 replace a:=a.ku (d:=.l none 0 ([]:List Ge)) oP
 replace a:=a.ku (d:=.l none 0 ([]:List Gs)) oP
 replace a:=a.ku (d:=.l none 0 ([]:List Gs)) oP
 obtain ⟨aN,b,aK,p⟩:=lV p
 refine sc (ec Rz r) (Ii fu (a.pr [2,0] [1] [4,3,2,1,0] r) aK) ?_
 rintro _ bN ⟨K,L,M,N,rfl,J⟩
 replace a:=a.cn [2,0] [1] J
 refine n (g (s (mp r) ?_))
 obtain ⟨aO,aL,p⟩:=bs p
 refine sc (ec xA r) (mF fu (a.pr [0] [1,2] [0] r) aL) ?_
 rintro _ bO ⟨rfl,J⟩
 replace a:=a.cn [0] [1,2] J
 refine n (q (g (s (mE [V b.e,V b.c,V b.n,T b.a,T b.g,V b.m,V b.j,Z K b.d L,T b.k,V b.h,Z M b.b N,Z none b.f 0,Z none b.i 0] lG jP r (a.bk 1 r)) (lu (nD a 2 [V b.e,V b.c,V b.n,T b.a,T b.g,V b.m,V b.j,Z K b.d L,T b.k,V b.h,Z M b.b N,Z none b.f 0,Z none b.i 0] r jP r r) fun bP a=>?_))))
 refine n (kP ?_)
 obtain rfl:=sm p
 refine jC r (uN r lG r jP r (a.bk 2 r)) ?_
 exact lw (⟨K,L,M,N,none,0,none,0,r,(a.ad [0] [2,3,4,5,0])⟩)
theorem Im (fu:Nat):xV (xy fu)∧wm (wY fu):=by
 induction fu with
 | zero=>exact ⟨by intro a b;intros;exact nn (by assumption),by intro a b;intros;exact nn (by assumption)⟩
 | succ fu ih=>exact ⟨Jt fu (xy fu) (wY fu) ih.1 ih.2,Ej fu (xy fu) (wY fu) ih.1 ih.2⟩
theorem JC (fu:Nat):xV (xy fu):=(Im fu).1
def Gh (m:jy→Option (jJ × jy)):Prop:=∀ {p:World} {t:Nat→Prop} {j:jy} {k:Nat} {a:Option Addr} {b:Nat} {R:jJ × jy},Pre p t [.box k 102 #[Z a j.l b,V j.a,V j.c,V j.e]] [.l a b j.l]→m j=some R→
 Calls Try.prog 45 #[Pt k] p (rf fun v w=>iA R fun o c=>∃ (d:OA)(f:Nat)(h:OA)(i:Nat),v=.agg #[Z d o.a f,Z h o.b i]∧Bx p w t (lT [.box k 102 #[Z a j.l b,V j.a,V j.c,V j.e]]) [.box k 102 #[Z a c.l b,V c.a,V c.c,V c.e]] [.l d f o.a,.l h i o.b,.l a b c.l])
def sG (fu:Nat):Nat→(List Gr)→(List kv)→Int→Int→Int→Option (Ld (List Gr × List kv × Int × Int × Int) (jJ × jy))
 | 0,_,_,_,_,_=>none
 | u+1,h,c,d,f,b=>
 if b=0 then
  (nk fu (⟨c,d,f,b⟩:jy) 0 (⟨#[114,101,99,111,114,100]⟩:BA)).bind fun m=>
  if m=true then
   (pY fu (⟨c,(wr (d+1)),f,b⟩:jy)).bind fun v=>
   iA v fun o p=>
   (lY fu p (⟨#[123]⟩:BA)).bind fun i=>
   (xD fu i).bind fun v=>
   iA v fun j k=>
   (lY fu k (⟨#[125]⟩:BA)).bind fun a=>
   (app h ([(⟨o,j⟩:Gr)]:List Gr)).bind fun t=>
   sG fu u t a.l a.a a.c a.e
  else
   some (.go (h,c,d,f,b))
 else
  some (.go (h,c,d,f,b))
def wy (fu:Nat)(a:jy):Option (Ld (List BA × List kv × Int × Int × Int) (jJ × jy)):=
 if a.e=0 then
  (nk fu a 0 (⟨#[41]⟩:BA)).bind fun c=>
  if (!c)=true then
   (xD fu a).bind fun f=>
   iA f fun d b=>
   some (.go (d,b.l,b.a,b.c,b.e))
  else
   some (.go (([]:List BA),a.l,a.a,a.c,a.e))
 else
  some (.go (([]:List BA),a.l,a.a,a.c,a.e))
def sM (fu:Nat):Nat→(List Gn)→(List kv)→Int→Int→Int→Option (Ld (List Gn × List kv × Int × Int × Int) (jJ × jy))
 | 0,_,_,_,_,_=>none
 | B+1,h,a,b,d,c=>
 if c=0 then
  (nk fu (⟨a,b,d,c⟩:jy) 0 (⟨#[102,117,110,99]⟩:BA)).bind fun i=>
  if i=true then
   (ix a b).bind fun C=>
   (pY fu (⟨a,(wr (b+1)),d,c⟩:jy)).bind fun F=>
   iA F fun j k=>
   (lY fu k (⟨#[40]⟩:BA)).bind fun m=>
   (wy fu m).bind fun F=>F.el (fun F=>
   iA F fun p F=>iA F fun t F=>iA F fun u F=>iA F fun v w=>
   (lY fu (⟨t,u,v,w⟩:jy) (⟨#[41]⟩:BA)).bind fun x=>
   (xy fu x 1).bind fun F=>
   iA F fun z F=>iA F fun A f=>
   (app z ([(⟨10,A,0,be,be,0,0,([]:List Ge),be,0,([]:List Ge),([]:List Gs),([]:List Gs)⟩:Gs)]:List Gs)).bind fun D=>
   (app h ([(⟨j,C.c,p,D⟩:Gn)]:List Gn)).bind fun E=>
   sM fu B E f.l f.a f.c f.e
   ) (fun o=>some (.out o))
  else
   some (.go (h,a,b,d,c))
 else
  some (.go (h,a,b,d,c))
def wH (fu:Nat)(u:jy):Option (jJ × jy):=
 (sG fu fu ([]:List Gr) u.l u.a u.c u.e).bind fun v=>v.el (fun v=>
 iA v fun h v=>iA v fun k v=>iA v fun m v=>iA v fun p t=>
 (sM fu fu ([]:List Gn) k m p t).bind fun v=>v.el (fun v=>
 iA v fun f v=>iA v fun b v=>iA v fun c v=>iA v fun d a=>
 if a=0 then
  (qz fu (⟨b,c,d,a⟩:jy) 0 0).bind fun i=>
  if (!i)=true then
   (qC fu (⟨b,c,d,a⟩:jy) 7).bind fun j=>
   some ((⟨h,f⟩:jJ),j)
  else
   some ((⟨h,f⟩:jJ),(⟨b,c,d,a⟩:jy))
 else
  some ((⟨h,f⟩:jJ),(⟨b,c,d,a⟩:jy))
 ) (fun o=>some o)
 ) (fun o=>some o)
theorem Gf (fu:Nat):Gh (wH fu):=by
 intro w0 cw x0 a2 x z R hP L
 unfold wH at L
 have a:=hP.bx
 clear hP
 generalize hG:lT _=G at a ⊢
 refine cf Try.func45 r ?_
 refine ma [(0,Pt a2)] ⟨r,y⟩ fun cx=>?_
 refine q (g (tL a (ko uI) fun w1 b1 a=>?_))
 refine n (q (g (tL a (ko uI) fun w2 b2 a=>?_)))
 refine n (q ?_)
 replace a:=a.BQ Gr 127
 obtain ⟨Y3,u,L⟩:=bs L
 refine oC (fun f w=>∃ (p:List Gr) (j:OA)(m:Nat)(t:LV)(F:List kv) (M:Int)(N:Int)(Q:Int),Has f [(0,Pt a2),(2,Pt b1),(3,Pt b2)]∧Bx w0 w cw G [O w0.heap.size j m 127 Gr t,.box b2 26 #[Z j p m,sn],.box b1 26 #[sn,sn],.box a2 102 #[Z x F z,V M,V N,V Q]] [.l x z F,.els t p]∧Ld.go (p,F,M,N,Q)=Y3) (fun J3 aM=>?_) ?_
 ·refine nZ (kH (fun cy f w=>∃ (p:List Gr) (j:OA)(m:Nat)(t:LV)(F:List kv) (M:Int)(N:Int)(Q:Int),Has f [(0,Pt a2),(2,Pt b1),(3,Pt b2)]∧Bx w0 w cw G [O w0.heap.size j m 127 Gr t,.box b2 26 #[Z j p m,sn],.box b1 26 #[sn,sn],.box a2 102 #[Z x F z,V M,V N,V Q]] [.l x z F,.els t p]∧sG fu cy p F M N Q=some Y3) fu ⟨([]:List Gr),none,0,[],x0.l,x0.a,x0.c,x0.e,⟨r,r,r,y⟩,(a.dp [1,0]),u⟩ ?_)
  clear a u
  rintro n3 f w ⟨p,j,m,t,F,M,N,Q,hf,a,u⟩ K3 aZ
  obtain ⟨cx,rfl⟩:=gP _ _ hf
  clear hf
  cases n3 with
  | zero=>exact nn u
  | succ n3=>
   rw [sG] at u
   refine q (q (g (s (mp r) (s (xn r) (s (tO r) (s (CW r (a.bk 3 r) r) (s (kK r r) (s (jZ r) ?_))))))))
   rcases iv u with ⟨h5,u⟩|⟨h5,u⟩
   ·rw [decide_eq_true h5]
    refine jQ r (s (mp r) ?_)
    obtain ⟨bB,h6,u⟩:=bs u
    refine jQ r ?_
    refine sc (ec wK r) (nS fu (a.pr [3] [0,1,2] [0] r) h6) ?_
    rintro _ w6 ⟨rfl,X⟩
    replace a:=a.cn [3] [0,1,2] X
    refine s (jN r r) (n ?_)
    rcases iv u with ⟨h7,u⟩|⟨h7,u⟩
    ·refine jH (cb h7) (wk (nZ (q (g (s (mp r) (s (xn r) (s (mM r) (s (l3 r (a.bk 0 r) r) (s (kN r r) (s (xn r) (s (mM r) (lu (lW a 0 [V (wr (M+1))] r pJ r r) fun w8 a=>?_))))))))))))
     refine n (q (g (s (mp r) ?_)))
     obtain ⟨a4,bC,h9,u⟩:=lV u
     refine sc (ec CY r) (sw fu (a.pr [0] [1,2,3] [1] r) h9) ?_
     rintro _ w9 ⟨rfl,X⟩
     replace a:=a.cn [0] [1,2,3] X
     refine s (PY r) (tL a (ko tu) fun bF bG a=>?_)
     refine lu (nD a 0 [T a4,sn] r tu r r) fun bH a=>?_
     refine n (q (g (s (mp r) ?_)))
     obtain ⟨b3,b4,u⟩:=bs u
     refine sc (ec xA r) (mF fu (a.pr [1] [0,2,3,4] [0] r) b4) ?_
     rintro _ bI ⟨rfl,X⟩
     replace a:=a.cn [1] [0,2,3,4] X
     refine n (q (g (s (mp r) ?_)))
     obtain ⟨a3,b5,b6,u⟩:=lV u
     refine sc (ec Ra r) (DD fu (a.pr [0] [1,2,3,4] [0] r) b6) ?_
     rintro _ bJ ⟨H,I,aI,rfl,X⟩
     have aj:=a.rX.size
     replace a:=a.cn [0] [1,2,3,4] X
     replace a:=a.rb 0 w0.heap.size r aj
     refine s (wC r) (lu (lW a 2 [Z H a3 I] r pO r r) fun bK a=>?_)
     refine n (q (g (s (mp r) ?_)))
     obtain ⟨a5,b7,u⟩:=bs u
     refine sc (ec xA r) (mF fu (a.pr [1] [0,2,3,4,5] [1] r) b7) ?_
     rintro _ bL ⟨rfl,X⟩
     replace a:=a.cn [1] [0,2,3,4,5] X
     refine n (g (s (wE r) (s (JP r (a.bk 4 r) r) (s (mE [T a4,Z H a3 I] Jj tu r (a.bk 2 r)) ?_))))
     replace a:=a.fz 1 1 r r
     refine qF (jV a [[T a4,Z H a3 I]] ([(⟨a4,a3⟩:Gr)]:List Gr) (Gb r) r r (by decide) ⟨(kD.tQ ⟨H,I,r,(a.dl 0 r)⟩),y⟩) ?_
     rintro _ bM ⟨bN,rfl,a⟩
     obtain ⟨ay,aO,u⟩:=bs u
     refine qF (kS a 3 8 r r AC tu r (by decide) (by decide) (Nat.le_refl _) r r (a.AJ 0 0 r r) aO) ?_
     rintro _ bO ⟨az,aA,b8,rfl,a⟩
     refine s (wE r) (lu (lW a 4 [Z az ay aA] r RI r r) fun bP a=>?_)
     refine n ?_
     exact aZ n3 _ _ (Nat.lt_succ_self _) ⟨ay,az,aA,b8,a5.l,a5.a,a5.c,a5.e,⟨r,r,r,y⟩,(a.ad [3,4,5,1] [2,8]),u⟩
    replace h7:=nt h7
    refine jI (cb h7) (uW ?_)
    exact aM _ _ ⟨p,j,m,t,F,M,N,Q,⟨r,r,r,y⟩,(a.ad [1,2,3,0] [1,2]),sm u⟩
   rw [decide_eq_false h5]
   refine jB r (jB r (s (jX r r) (n (jI r (uW ?_)))))
   exact aM _ _ ⟨p,j,m,t,F,M,N,Q,⟨r,r,r,y⟩,a,sm u⟩
 clear a
 rintro f w ⟨p,j,m,t,F,M,N,Q,hf,a,b9⟩
 obtain ⟨cx,rfl⟩:=gP _ _ hf
 clear hf
 subst b9
 replace L:=gi L
 replace L:=pi (mf L)
 refine q ?_
 replace a:=a.BQ Gn 82
 obtain ⟨aP,b,L⟩:=bs L
 refine oC (fun f w=>∃ (o:List Gn) (c:OA)(d:Nat)(v:LV)(A:List kv) (C:Int)(D:Int)(E:Int),Has f [(0,Pt a2),(2,Pt b1),(3,Pt b2)]∧Bx w0 w cw G [O w0.heap.size c d 82 Gn v,O w0.heap.size j m 127 Gr t,.box b2 26 #[Z j p m,Z c o d],.box b1 26 #[sn,sn],.box a2 102 #[Z x A z,V C,V D,V E]] [.l x z A,.els v o,.els t p]∧Ld.go (o,A,C,D,E)=aP) (fun bQ ax=>?_) ?_
 ·refine nZ (kH (fun cy f w=>∃ (o:List Gn) (c:OA)(d:Nat)(v:LV)(A:List kv) (C:Int)(D:Int)(E:Int),Has f [(0,Pt a2),(2,Pt b1),(3,Pt b2)]∧Bx w0 w cw G [O w0.heap.size c d 82 Gn v,O w0.heap.size j m 127 Gr t,.box b2 26 #[Z j p m,Z c o d],.box b1 26 #[sn,sn],.box a2 102 #[Z x A z,V C,V D,V E]] [.l x z A,.els v o,.els t p]∧sM fu cy o A C D E=some aP) fu ⟨([]:List Gn),none,0,[],F,M,N,Q,⟨r,r,r,y⟩,(a.dp [1,0,2]),b⟩ ?_)
  clear a b
  rintro aB f w ⟨o,c,d,v,A,C,D,E,hf,a,b⟩ bR aQ
  obtain ⟨cx,rfl⟩:=gP _ _ hf
  clear hf
  cases aB with
  | zero=>exact nn b
  | succ aB=>
   rw [sM] at b
   refine q (q (g (s (mp r) (s (xn r) (s (tO r) (s (CW r (a.bk 4 r) r) (s (kK r r) (s (jZ r) ?_))))))))
   rcases iv b with ⟨aC,b⟩|⟨aC,b⟩
   ·rw [decide_eq_true aC]
    refine jQ r (s (mp r) ?_)
    obtain ⟨ba,bb,b⟩:=bs b
    refine jQ r ?_
    refine sc (ec wK r) (nS fu (a.pr [4] [0,1,2,3] [0] r) bb) ?_
    rintro _ bS ⟨rfl,X⟩
    replace a:=a.cn [4] [0,1,2,3] X
    refine s (jN r r) (n ?_)
    rcases iv b with ⟨ak,b⟩|⟨ak,b⟩
    ·refine jH (cb ak) (wk (nZ (q (oJ a [0] [1] [] (by kernel_rfl) ?_))))
     replace a:=a.drew
     have hs:=(a.ad [0] [1])
     refine pF 0 r (mp r) hs (pF 1 r (xn r) hs (pF 2 r (zO r) hs (uF 3 r (fun hS=>NN r (hS.bk 0 r) r) hs (pF 4 r (mp r) hs (pF 5 r (xn r) hs (pF 6 r (mM r) hs (uF 7 r (fun hS=>l3 r (hS.bk 0 r) r) hs ?_)))))))
     obtain ⟨Y,ah,b⟩:=bs b
     obtain ⟨bT,aR,ah⟩:=kG ah
     refine pF 8 r (kZ Du qO r r aR (a.dl 1 r) ah) hs (pF 9 r (Kn r) hs (tU 10 r (fun _ hS=>kz EU r r ((vo (ds:=[V Y.e,V Y.c,T Y.a,V Y.d]) (hS.dl 0 r) ah (fun _ h=>h)) 1 _ r)) (sF hs) (pF 11 r (Sa r) hs ?_)))
     refine hO 12 (oo r r (rM a (ko mX)) ?_)
     rintro _ bU ⟨aS,rfl,a⟩
     have hs:=(a.ad [1] [1])
     refine ⟨(sF hs),?_⟩
     refine hO 13 (os r r (nD a 0 [T be,V Y.c,sn,sn] r mX r r) fun bV a=>?_)
     have hs:=(a.ad [1] [1])
     refine ⟨(sF hs),?_⟩
     refine hD (q (g (s (mp r) (s (xn r) (s (mM r) (s (l3 r (a.bk 1 r) r) (s (kN r r) (s (xn r) (s (mM r) (lu (lW a 1 [V (wr (C+1))] r pJ r r) fun bW a=>?_))))))))))
     refine n (q (g (s (mp r) ?_)))
     obtain ⟨S,bc,bd,b⟩:=lV b
     refine sc (ec CY r) (sw fu (a.pr [1] [0,2,3,4,5] [1] r) bd) ?_
     rintro _ bX ⟨rfl,X⟩
     replace a:=a.cn [1] [0,2,3,4,5] X
     refine s (CP r) (lu (lW a 1 [T S] r pV r r) fun bY a=>?_)
     refine n (q (g (s (mp r) ?_)))
     obtain ⟨U,bg,b⟩:=bs b
     refine sc (ec xA r) (mF fu (a.pr [0] [1,2,3,4,5] [0] r) bg) ?_
     rintro _ bZ ⟨rfl,X⟩
     replace a:=a.cn [0] [1,2,3,4,5] X
     refine n (q ?_)
     replace a:=a.BQ BA 9
     obtain ⟨bh,B,b⟩:=bs b
     refine oC (fun f w=>∃ (W:List BA) (J:OA)(K:Nat)(a6:LV)(a7:List kv) (ac:Int)(ae:Int)(af:Int),Has f [(0,Pt a2),(2,Pt b1),(3,Pt b2),(5,Pt aS)]∧Bx w0 w cw G [O w0.heap.size J K 9 BA a6,.box a2 102 #[Z x a7 z,V ac,V ae,V af],.box aS 82 #[T S,V Y.c,Z J W K,sn],O w0.heap.size c d 82 Gn v,O w0.heap.size j m 127 Gr t,.box b2 26 #[Z j p m,Z c o d],.box b1 26 #[sn,sn]] [.l x z a7,.els a6 W,.els v o,.els t p]∧Ld.go (W,a7,ac,ae,af)=bh) (fun c0 al=>?_) ?_
     ·unfold wy at B
      refine q (g (s (mp r) (s (xn r) (s (tO r) (s (CW r (a.bk 1 r) r) (s (kK r r) (s (jZ r) ?_)))))))
      rcases iv B with ⟨aD,B⟩|⟨aD,B⟩
      ·rw [decide_eq_true aD]
       refine jQ r (s (mp r) ?_)
       obtain ⟨bi,bj,B⟩:=bs B
       refine jQ r ?_
       refine sc (ec wK r) (nS fu (a.pr [1] [0,2,3,4,5,6] [1] r) bj) ?_
       rintro _ c1 ⟨rfl,X⟩
       replace a:=a.cn [1] [0,2,3,4,5,6] X
       refine jQ r (s (xc r) (s (jN r r) (n ?_)))
       rcases iv B with ⟨am,B⟩|⟨am,B⟩
       ·refine jH (cb am) (g (s (mp r) ?_))
        obtain ⟨ag,a8,bl,B⟩:=lV B
        refine sc (ec Ra r) (DD fu (a.pr [0] [1,2,3,4,5,6] [2] r) bl) ?_
        rintro _ c2 ⟨a0,a1,ai,rfl,X⟩
        have aj:=a.rX.size
        replace a:=a.cn [0] [1,2,3,4,5,6] X
        replace a:=a.rb 0 w0.heap.size r aj
        refine s (zD r) (lu (lW a 3 [Z a0 ag a1] r pO r r) fun c3 a=>?_)
        refine n ?_
        exact al _ _ ⟨ag,a0,a1,ai,a8.l,a8.a,a8.c,a8.e,⟨r,r,r,r,y⟩,(a.ad [0,1,3,4,5,6,7] [1,0,8,9]),sm B⟩
       replace am:=nt am
       refine jI (cb am) (wk ?_)
       exact al _ _ ⟨([]:List BA),none,0,[],U.l,U.a,U.c,U.e,⟨r,r,r,r,y⟩,(a.ad [1,0,2,3,4,5,6] [2,1,6,7]),sm B⟩
      rw [decide_eq_false aD]
      refine jB r (jB r (jB r (s (jX r r) (n (jI r (wk ?_))))))
      exact al _ _ ⟨([]:List BA),none,0,[],U.l,U.a,U.c,U.e,⟨r,r,r,r,y⟩,(a.dp [1,0,5,6]),sm B⟩
     clear a
     rintro f w ⟨W,J,K,a6,a7,ac,ae,af,hf,a,aT⟩
     obtain ⟨cx,rfl⟩:=gP _ _ hf
     clear hf
     subst aT
     replace b:=gi b
     replace b:=pi (mf b)
     refine q (g (s (mp r) ?_))
     obtain ⟨bm,bn,b⟩:=bs b
     refine sc (ec xA r) (mF fu (a.pr [1] [0,2,3,4,5,6] [0] r) bn) ?_
     rintro _ c4 ⟨rfl,X⟩
     replace a:=a.cn [1] [0,2,3,4,5,6] X
     refine n (q (g (s (mp r) ?_)))
     obtain ⟨bo,an,a9,bp,b⟩:=qG b
     refine sc (ec IV r) (JC fu (a.pr [0] [1,2,3,4,5,6] [0] r) bp) ?_
     rintro _ c5 ⟨aJ,aK,aL,rfl,X⟩
     have aj:=a.rX.size
     replace a:=a.cn [0] [1,2,3,4,5,6] X
     replace a:=a.rb 0 w0.heap.size r aj
     refine s pQ (s (jO r r) (s (jO r r) (s (nJ r) (s (xi r) (n (q (g (s (mD r) (s (mi r) (s (NJ r r) (qF (jV a [[V 10,V an,V 0,T be,T be,V 0,V 0,sn,T be,V 0,sn,sn,sn]] ([(⟨10,an,0,be,be,0,0,([]:List Ge),be,0,([]:List Ge),([]:List Gs),([]:List Gs)⟩:Gs)]:List Gs) (tH r) r r (by decide) ⟨(jM.tQ ⟨none,0,none,0,none,0,none,0,r,oP,oP,oP,oP⟩),y⟩) ?_)))))))))))
     rintro _ c6 ⟨c7,rfl,a⟩
     obtain ⟨ao,aU,b⟩:=bs b
     refine qF (kS a 1 1 r r yH jP r (by decide) (by decide) (Nat.le_refl _) r r (a.AJ 0 0 r r) aU) ?_
     rintro _ c8 ⟨ap,aq,c9,rfl,a⟩
     refine s (Av r) (lu (lW a 4 [Z ap ao aq] r yG r r) fun cc a=>?_)
     refine n (g (s (vS r) (s (Iq r (a.bk 7 r) r) (s (mE [T S,V Y.c,Z J W K,Z ap ao aq] Bv mX r (a.bk 4 r)) ?_))))
     replace a:=a.fz 3 5 r r
     replace a:=a.fz 1 2 r r
     refine qF (jV a [[T S,V Y.c,Z J W K,Z ap ao aq]] ([(⟨S,Y.c,W,ao⟩:Gn)]:List Gn) (Gx r) r r (by decide) ⟨(kC.tQ ⟨J,K,ap,aq,r,(a.dl 1 r),(a.dl 0 r)⟩),y⟩) ?_
     rintro _ cd ⟨ce,rfl,a⟩
     obtain ⟨aE,aV,b⟩:=bs b
     refine qF (kS a 4 7 r r yR mX r (by decide) (by decide) (Nat.le_refl _) r r (a.AJ 0 0 r r) aV) ?_
     rintro _ cg ⟨aF,aG,bq,rfl,a⟩
     refine s (vS r) (lu (lW a 6 [Z aF aE aG] r Qs r r) fun ch a=>?_)
     refine n ?_
     exact aQ aB _ _ (Nat.lt_succ_self _) ⟨aE,aF,aG,bq,a9.l,a9.a,a9.c,a9.e,⟨r,r,r,y⟩,(a.ad [4,5,6,7,2] [4,7,8]),b⟩
    replace ak:=nt ak
    refine jI (cb ak) (uW ?_)
    exact ax _ _ ⟨o,c,d,v,A,C,D,E,⟨r,r,r,y⟩,(a.ad [1,2,3,4,0] [1,2,3]),sm b⟩
   rw [decide_eq_false aC]
   refine jB r (jB r (s (jX r r) (n (jI r (uW ?_)))))
   exact ax _ _ ⟨o,c,d,v,A,C,D,E,⟨r,r,r,y⟩,a,sm b⟩
 clear a
 rintro f w ⟨o,c,d,v,A,C,D,E,hf,a,aW⟩
 obtain ⟨cx,rfl⟩:=gP _ _ hf
 clear hf
 subst aW
 replace L:=gi L
 replace L:=pi (mf L)
 refine q (q (g (s (mp r) (s (xn r) (s (tO r) (s (CW r (a.bk 4 r) r) (s (kK r r) (s (jZ r) ?_))))))))
 rcases iv L with ⟨aH,L⟩|⟨aH,L⟩
 ·rw [decide_eq_true aH]
  refine jQ r (s (mp r) ?_)
  obtain ⟨br,bu,L⟩:=bs L
  refine jQ r ?_
  refine sc (ec D6 r) (uq fu (a.pr [4] [0,1,2,3] [0] r) bu) ?_
  rintro _ ci ⟨rfl,X⟩
  replace a:=a.cn [4] [0,1,2,3] X
  refine jQ r (s (xc r) (s (jN r r) (n ?_)))
  rcases iv L with ⟨ar,L⟩|⟨ar,L⟩
  ·refine jH (cb ar) (g (s (mp r) ?_))
   obtain ⟨bv,bw,L⟩:=bs L
   refine sc (ec DY r) (tX fu (a.pr [0] [1,2,3,4] [1] r) bw) ?_
   rintro _ cj ⟨rfl,X⟩
   replace a:=a.cn [0] [1,2,3,4] X
   refine n (q (g (s (mE [Z j p m,Z c o d] BJ uI r (a.bk 3 r)) (lu (nD a 4 [Z j p m,Z c o d] r uI r r) fun ck a=>?_))))
   refine n (kP ?_)
   replace a:=a.fz 2 4 r r
   replace a:=a.fz 1 4 r r
   obtain rfl:=sm L
   refine jC r (uN r BJ r uI r (a.bk 2 r)) ?_
   exact lw (⟨j,m,c,d,r,(a.ad [0] [1,0,2])⟩)
  replace ar:=nt ar
  refine jI (cb ar) (wk (q (g (s (mE [Z j p m,Z c o d] BJ uI r (a.bk 3 r)) (lu (nD a 4 [Z j p m,Z c o d] r uI r r) fun cm a=>?_)))))
  refine n (kP ?_)
  replace a:=a.fz 2 3 r r
  replace a:=a.fz 1 3 r r
  obtain rfl:=sm L
  refine jC r (uN r BJ r uI r (a.bk 2 r)) ?_
  exact lw (⟨j,m,c,d,r,(a.ad [0] [1,0,3])⟩)
 rw [decide_eq_false aH]
 refine jB r (jB r (jB r (s (jX r r) (n (jI r (wk (q (g (s (mE [Z j p m,Z c o d] BJ uI r (a.bk 2 r)) (lu (nD a 3 [Z j p m,Z c o d] r uI r r) fun cn a=>?_))))))))))
 refine n (kP ?_)
 replace a:=a.fz 1 2 r r
 replace a:=a.fz 0 2 r r
 obtain rfl:=sm L
 refine jC r (uN r BJ r uI r (a.bk 1 r)) ?_
 exact lw (⟨j,m,c,d,r,(a.ad [2] [1,0,2])⟩)
def Jp (m:BA→Option (jJ × Int × Int)):Prop:=∀ {f:World} {k:Nat→Prop} {h:BA}  {R:jJ × Int × Int},Pre f k [] []→m h=some R→
 Calls Try.prog 32 #[T h] f (rf fun v w=>iA R fun e R=>iA R fun i j=>∃ (a:OA)(b:Nat)(c:OA)(d:Nat),v=.tuple #[.agg #[Z a e.a b,Z c e.b d],V i,V j]∧Bx f w k (lT []) [] [.l a b e.a,.l c d e.b])
def xw (fu:Nat)(h:BA):Option (jJ × Int × Int):=
 (Az fu h).bind fun i=>
 iA i fun c i=>iA i fun d b=>
 if b≠0 then
  some ((⟨([]:List Gr),([]:List Gn)⟩:jJ),d,b)
 else
  (wH fu (⟨c,0,0,0⟩:jy)).bind fun i=>
  iA i fun f a=>
  if a.e≠0 then
   some ((⟨([]:List Gr),([]:List Gn)⟩:jJ),a.c,a.e)
  else
   some (f,0,0)
theorem DU (fu:Nat):Jp (xw fu):=by
 intro E a3 F R z j
 unfold xw at j
 have a:=z.bx
 clear z
 generalize Q:lT _=G at a ⊢
 refine cf Try.func32 r (ma [(0,T F)] ⟨r,y⟩ fun a4=>q (g (tL a (ko uI) fun S U a=>s (xi r) (s (xi r) (n (q (g (s (lc r) ?_))))))))
 obtain ⟨A,B,C,H,j⟩:=qG j
 refine sc (ec TN r) (LA fu (a.pr [] [0] [] r) H) ?_
 rintro _ W ⟨p,t,u,rfl,v⟩
 have w:=a.rX.size
 replace a:=a.cn [] [0] v
 replace a:=a.rb 0 E.heap.size r w
 refine s pQ (s (jO r r) (s (jO r r) (s (jO r r) (s (nJ r) (s (xi r) (s (xi r) (n (q (q (g (s (mi r) (s (mI r r) (n ?_)))))))))))))
 rcases iv j with ⟨x,j⟩|⟨x,j⟩
 ·refine jH (bt x) (q (g (s Rf (s (mi r) (s (mi r) (lu (nD a 1 [sn,sn] r uI r r) fun X a=>s (xi r) (s (xi r) (n (kP ?_)))))))))
  replace a:=a.ku (d:=.l none 0 ([]:List Gr)) oP
  replace a:=a.ku (d:=.l none 0 ([]:List Gn)) oP
  obtain rfl:=sm j
  exact yJ r (uN r BJ r uI r (a.bk 1 r)) (kT r) (kT r) (lw (lw (⟨none,0,none,0,r,(a.ad [] [1,0])⟩)))
 refine jI (bf x) (wk (q (g (s (mD r) (s (PM r) (tL a (yI r) fun Y b7 a=>s (PD r) (n (q (g (s (mp r) ?_))))))))))
 replace a:=a.fz 1 0 r r
 obtain ⟨h,D,I,j⟩:=lV j
 refine sc (ec TB r) (Gf fu (a.pr [0] [1] [0] r) I) ?_
 rintro _ w9 ⟨b,c,e,f,rfl,v⟩
 replace a:=a.cn [0] [1] v
 refine tL a (ko uI) fun J K a=>lu (nD a 0 [Z b h.a c,Z e h.b f] r uI r r) fun L a=>n (q (q (g (s (mp r) (s (xn r) (s (tO r) (s (CW r (a.bk 1 r) r) (s (mI r r) (n ?_)))))))))
 rcases iv j with ⟨o,j⟩|⟨o,j⟩
 ·refine jH (bt o) (q (oJ a [1] [] [] (by kernel_rfl) ?_))
  replace a:=a.drew
  have m:=(a.ad [1] [])
  refine pF 0 r (Rf) m (pF 1 r (mp r) m (pF 2 r (xn r) m (pF 3 r (Pi r) m (uF 4 r (fun hS=>l3 r (hS.bk 0 r) r) m (pF 5 r (mp r) m (pF 6 r (xn r) m (pF 7 r (tO r) m (uF 8 r (fun hS=>CW r (hS.bk 0 r) r) m (hO 9 (os r r (nD a 2 [sn,sn] r uI r r) fun M a=>?_))))))))))
  have m:=(a.ad [1] [])
  refine ⟨(sF m),(pF 10 r (xi r) m (pF 11 r (xi r) m (hD (kP ?_))))⟩
  replace a:=a.ku (d:=.l none 0 ([]:List Gr)) oP
  replace a:=a.ku (d:=.l none 0 ([]:List Gn)) oP
  obtain rfl:=sm j
  exact yJ r (uN r BJ r uI r (a.bk 2 r)) (kT r) (kT r) (lw (lw (⟨none,0,none,0,r,(a.ad [] [1,0])⟩)))
 refine jI (bf o) (wk (q (g (s (mE [Z b h.a c,Z e h.b f] BJ uI r (a.bk 0 r)) (lu (nD a 2 [Z b h.a c,Z e h.b f] r uI r r) fun N a=>s (xi r) (s (xi r) (n (kP ?_))))))))
 obtain rfl:=sm j
 exact yJ r (uN r BJ r uI r (a.bk 2 r)) (kT r) (kT r) (lw (lw (⟨b,c,e,f,r,(a.ad [] [0,1])⟩)))
end
end Go.Proofs.Ytfglbdkfnphjgaa
