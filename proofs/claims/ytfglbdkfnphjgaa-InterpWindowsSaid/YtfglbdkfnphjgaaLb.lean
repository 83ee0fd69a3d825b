/- Contracts, printed by gen3.py. -/
import Derived.Test.YtfglbdkfnphjgaaZ5
import Derived.Test.YtfglbdkfnphjgaaLa
set_option linter.unusedVariables false
set_option maxHeartbeats 12800000
set_option linter.unusedSimpArgs false
set_option maxRecDepth 4000
namespace Go.Proofs.Ytfglbdkfnphjgaa
open Go.RowKit Go.Fw
noncomputable section
def Ky (m:fV→Int→Option (fV)):Prop:=∀ {h:World} {j:Nat→Prop} {d:fV} {i:Int} {f:Nat} {a:Option Addr} {b:Nat} {c:fV},Pre h j [.box f 102 #[Z a d.l b,V d.a,V d.c,V d.e]] [.l a b d.l]→m d i=some c→
 Calls Try.prog 68 #[Pt f,V i] h (qx fun v w=>v=.tuple #[]∧Bx h w j (lK [.box f 102 #[Z a d.l b,V d.a,V d.c,V d.e]]) [.box f 102 #[Z a c.l b,V c.a,V c.c,V c.e]] [.l a b c.l])
def oP (fu:Nat)(a:fV) (b:Int):Option (fV):=
 if a.e=0 then
  (ix a.l a.a).bind fun c=>
  some (⟨a.l,a.a,c.f,b⟩:fV)
 else
  some a
theorem qX (fu:Nat):Ky (oP fu):=by
 intro A F j u t d f z x o
 unfold oP at o
 have b:=x.bx
 clear x
 generalize B:lK _=G at b ⊢
 refine cf Try.func68 r (lJ [(0,Pt t),(1,V u)] ⟨r,r,y⟩ fun H=>q (g (s (mp r) (s (xn r) (s (qP r) (s (Bf r (b.bk 0 r) r) (s (kF r r) (n ?_))))))))
 rcases iv o with ⟨v,o⟩|⟨v,o⟩
 ·refine jK (bt v) (KI b [] [0] [0] [0] [16,19] (by kernel_rfl) ?_)
  replace b:=b.drew
  have a:=(b.arr [] r)
  have c:=b
  refine pL 0 r (mp r) a c (pL 1 r (mp r) a c (pL 2 r (mi r) a c (pL 3 r (mp r) a c (pL 4 r (xn r) a c (pL 5 r (yY r) a c (tS 1 6 r (fun _ hS=>OQ r (hS.bk 0 r) r) (ng a c) (pL 7 r (mp r) a c (pL 8 r (xn r) a c (pL 9 r (lW r) a c (tS 1 10 r (fun _ hS=>l3 r (hS.bk 0 r) r) (ng a c) ?_))))))))))
  obtain ⟨p,m,o⟩:=bs o
  obtain ⟨C,w,m⟩:=kH m
  refine pL 11 r (kV Ct pG r r w (b.dl 0 r) m) a c (pL 12 r (Il r) a c (tU 13 r (fun _ hS=>jM EK r r ((uG (ds:=[V p.e,V p.f,T p.a,V p.c]) (hS.dl 0 r) m (fun _ h=>h)) 1 _ r)) (ng a c) (pL 14 r (xn r) a c (pL 15 r (qP r) a c (hO 16 (os r r (t_n b 0 [V u] r KO r r) fun D b=>?_))))))
  have a:=(b.arr [] r)
  refine ⟨(sy 16 a),(tP 17 r (fun _=>xn r) (sy 16 a) (tP 18 r (fun _=>P9 r) (sy 16 a) (hO 19 (os r r (t_n b 0 [V p.f] r mK r r) fun E b=>?_))))⟩
  have a:=(b.arr [] r)
  refine ⟨(sy 16 a),(hD ?_)⟩
  obtain rfl:=sm o
  exact zi (P:=Try.prog) (fn:=Try.f68) r ⟨r,b⟩
 refine jD (bf v) (wk ?_)
 obtain rfl:=sm o
 exact zi (P:=Try.prog) (fn:=Try.f68) r ⟨r,b⟩
def N9 (m:fV→Int→BA→Option (Bool)):Prop:=∀ {f:World} {k:Nat→Prop} {c:fV} {h:Int} {i:BA} {d:Nat} {a:Option Addr} {b:Nat} {j:Bool},Pre f k [.box d 102 #[Z a c.l b,V c.a,V c.c,V c.e]] [.l a b c.l]→m c h i=some j→
 Calls Try.prog 62 #[Pt d,V h,T i] f (qx fun v w=>v=.bool j∧Bx f w k (lK [.box d 102 #[Z a c.l b,V c.a,V c.c,V c.e]]) [.box d 102 #[Z a c.l b,V c.a,V c.c,V c.e]] [.l a b c.l])
def mg (fu:Nat)(a:fV) (c:Int)(d:BA):Option (Bool):=
 if (a.l.length:Int)≤(wr (a.a+c)) then
  some false
 else
  (ix a.l (wr (a.a+c))).bind fun b=>
  if b.e=3 then
   some (decide (b.a=d))
  else
   if b.e=4 then
    some (decide (b.a=d))
   else
    some false
theorem mU (fu:Nat):N9 (mg fu):=by
 intro B J p z A o j m C x c
 unfold mg at c
 have b:=x.bx
 clear x
 generalize D:lK _=G at b ⊢
 refine cf Try.func62 r (lJ [(0,Pt o),(1,V z),(2,T A)] ⟨r,r,r,y⟩ fun K=>q (g (s (jZ r) (n (q (q (oK b [0] [] [] (by kernel_rfl) ?_)))))))
 replace b:=b.drew
 have a:=(b.dp [])
 refine pF 0 r (mp r) a (pF 1 r (xn r) a (pF 2 r (lW r) a (uF 3 r (fun hS=>l3 r (hS.bk 0 r) r) a (pF 4 r (mi r) a (pF 5 r (kE r r) a (pF 6 r (mp r) a (pF 7 r (xn r) a (pF 8 r (yY r) a (uF 9 r (fun hS=>OQ r (hS.bk 0 r) r) a (pF 10 r (lu Ct r) a (pF 11 r (BM r r) a (hD ?_))))))))))))
 rcases iv c with ⟨t,c⟩|⟨t,c⟩
 ·refine jK (bt t) (q (g (s (jZ r) (n (kS ?_)))))
  obtain rfl:=sm c
  exact jB r (kW r) ⟨r,b⟩
 refine jD (bf t) (wk (q (oK b [0] [0] [] (by kernel_rfl) ?_)))
 replace b:=b.drew
 have a:=b
 refine pF 0 r (mp r) a (pF 1 r (xn r) a (pF 2 r (yY r) a (uF 3 r (fun hS=>OQ r (hS.bk 0 r) r) a (pF 4 r (mp r) a (pF 5 r (xn r) a (pF 6 r (lW r) a (uF 7 r (fun hS=>l3 r (hS.bk 0 r) r) a (pF 8 r (mi r) a (pF 9 r (kE r r) a ?_)))))))))
 obtain ⟨d,f,c⟩:=bs c
 obtain ⟨E,u,f⟩:=kH f
 refine pF 10 r (kV Ct pG r r u (b.dl 0 r) f) a (uF 11 r (fun hS=>Xq [V d.e,V d.f,T d.a,V d.c] BN pG r (hS.dl 0 r) f) a (hO 12 (oo r r (nG b (jW pG)) ?_)))
 rintro _ F ⟨H,rfl,b⟩
 have a:=(b.arr [1] r)
 refine ⟨(sF a),(hO 13 (os r r (nR b 0 [V d.e,V d.f,T d.a,V d.c] r pG r r) fun I b=>?_))⟩
 have a:=(b.arr [1] r)
 refine ⟨(sF a),(hD (q (g (s (Md r) (s (l3 r (b.bk 0 r) r) (s (kF r r) (s (kM r) ?_)))))))⟩
 rcases iv c with ⟨v,c⟩|⟨v,c⟩
 ·rw [decide_eq_true v]
  refine jH r (jH r (jH r (s (kC r r) (s (kM r) (ko r (s (Jr r) (ko r (s (l9 r (b.bk 0 r) r) (ko r (s (kZ r) (ko r (s (rA r r) (s (kC r r) (s (jZ r) (n (kS ?_))))))))))))))))
  obtain rfl:=sm c
  exact jB r (kW r) ⟨r,(b.arr [1] r)⟩
 rw [decide_eq_false v]
 refine ko r (s (Md r) (ko r (s (l3 r (b.bk 0 r) r) (ko r (s (kF r r) (s (jY r r) (s (kM r) ?_)))))))
 rcases iv c with ⟨w,c⟩|⟨w,c⟩
 ·rw [decide_eq_true w]
  refine ko r (s (Jr r) (ko r (s (l9 r (b.bk 0 r) r) (ko r (s (kZ r) (ko r (s (rA r r) (s (kC r r) (s (jZ r) (n (kS ?_)))))))))))
  obtain rfl:=sm c
  exact jB r (kW r) ⟨r,(b.arr [1] r)⟩
 rw [decide_eq_false w]
 refine jH r (jH r (jH r (jH r (s (jY r r) (s (jZ r) (n (kS ?_)))))))
 obtain rfl:=sm c
 exact jB r (kW r) ⟨r,(b.arr [1] r)⟩
def Km (m:fV→Int→Int→Option (Bool)):Prop:=∀ {f:World} {k:Nat→Prop} {c:fV} {h:Int} {i:Int} {d:Nat} {a:Option Addr} {b:Nat} {j:Bool},Pre f k [.box d 102 #[Z a c.l b,V c.a,V c.c,V c.e]] [.l a b c.l]→m c h i=some j→
 Calls Try.prog 67 #[Pt d,V h,V i] f (qx fun v w=>v=.bool j∧Bx f w k (lK [.box d 102 #[Z a c.l b,V c.a,V c.c,V c.e]]) [.box d 102 #[Z a c.l b,V c.a,V c.c,V c.e]] [.l a b c.l])
def oM (fu:Nat)(a:fV) (b:Int)(c:Int):Option (Bool):=
 if (wr (a.a+b)) < (a.l.length:Int) then
  (ix a.l (wr (a.a+b))).bind fun d=>
  some (decide (d.e=c))
 else
  some false
theorem qR (fu:Nat):Km (oM fu):=by
 intro z D o w x m f j A v d
 unfold oM at d
 have b:=v.bx
 clear v
 generalize B:lK _=G at b ⊢
 refine cf Try.func67 r (lJ [(0,Pt m),(1,V w),(2,V x)] ⟨r,r,r,y⟩ fun E=>q (g (s (jZ r) (n (q (oK b [0] [0] [] (by kernel_rfl) ?_))))))
 replace b:=b.drew
 have a:=b
 refine pF 0 r (mp r) a (pF 1 r (xn r) a (pF 2 r (lW r) a (uF 3 r (fun hS=>l3 r (hS.bk 0 r) r) a (pF 4 r (mi r) a (pF 5 r (kE r r) a (pF 6 r (mp r) a (pF 7 r (xn r) a (pF 8 r (yY r) a (uF 9 r (fun hS=>OQ r (hS.bk 0 r) r) a (pF 10 r (lu Ct r) a (pF 11 r (pU r r) a (pF 12 r (kM r) a ?_))))))))))))
 rcases iv d with ⟨t,d⟩|⟨t,d⟩
 ·rw [decide_eq_true t]
  have a:=b
  refine pF 13 r (mp r) a (pF 14 r (xn r) a (pF 15 r (yY r) a (uF 16 r (fun hS=>OQ r (hS.bk 0 r) r) a (pF 17 r (mp r) a (pF 18 r (xn r) a (pF 19 r (lW r) a (uF 20 r (fun hS=>l3 r (hS.bk 0 r) r) a (pF 21 r (mi r) a (pF 22 r (kE r r) a ?_)))))))))
  obtain ⟨p,c,d⟩:=bs d
  obtain ⟨C,u,c⟩:=kH c
  refine pF 23 r (kV Ct pG r r u (b.dl 0 r) c) a (pF 24 r (Md r) a (tU 25 r (fun _ hS=>jM EK r r ((uG (ds:=[V p.e,V p.f,T p.a,V p.c]) (hS.dl 0 r) c (fun _ h=>h)) 0 _ r)) (sF a) (pF 26 r (mi r) a (pF 27 r (kF r r) a (pF 28 r (kC r r) a (pF 29 r (jZ r) a (hD (kS ?_))))))))
  obtain rfl:=sm d
  exact jB r (kW r) ⟨r,b⟩
 rw [decide_eq_false t]
 have a:=b
 refine kP 13 r (by kernel_rfl) r (sF a) (kP 14 r (by kernel_rfl) r (sF a) (kP 15 r (by kernel_rfl) r (sF a) (kP 16 r (by kernel_rfl) r (sF a) (kP 17 r (by kernel_rfl) r (sF a) (kP 18 r (by kernel_rfl) r (sF a) (kP 19 r (by kernel_rfl) r (sF a) (kP 20 r (by kernel_rfl) r (sF a) (kP 21 r (by kernel_rfl) r (sF a) (kP 22 r (by kernel_rfl) r (sF a) (kP 23 r (by kernel_rfl) r (sF a) (kP 24 r (by kernel_rfl) r (sF a) (kP 25 r (by kernel_rfl) r (sF a) (kP 26 r (by kernel_rfl) r (sF a) (kP 27 r (by kernel_rfl) r (sF a) (pF 28 r (jY r r) a (pF 29 r (jZ r) a (hD (kS ?_))))))))))))))))))
 obtain rfl:=sm d
 exact jB r (kW r) ⟨r,b⟩
def JQ (m:fV→BA→Option (fV)):Prop:=∀ {h:World} {j:Nat→Prop} {d:fV} {i:BA} {f:Nat} {a:Option Addr} {b:Nat} {c:fV},Pre h j [.box f 102 #[Z a d.l b,V d.a,V d.c,V d.e]] [.l a b d.l]→m d i=some c→
 Calls Try.prog 64 #[Pt f,T i] h (qx fun v w=>v=.tuple #[]∧Bx h w j (lK [.box f 102 #[Z a d.l b,V d.a,V d.c,V d.e]]) [.box f 102 #[Z a c.l b,V c.a,V c.c,V c.e]] [.l a b c.l])
def lI (fu:Nat)(a:fV) (d:BA):Option (fV):=
 if a.e≠0 then
  some a
 else
  (mg fu a 0 d).bind fun b=>
  if (!b)=true then
   (oP fu a 7).bind fun c=>
   some c
  else
   some (⟨a.l,(wr (a.a+1)),a.c,a.e⟩:fV)
theorem lQ (fu:Nat):JQ (lI fu):=by
 intro A F f v h c d w p b
 unfold lI at b
 have a:=p.bx
 clear p
 generalize B:lK _=G at a ⊢
 refine cf Try.func64 r (lJ [(0,Pt h),(1,T v)] ⟨r,r,y⟩ fun H=>q (q (g (s (mp r) (s (xn r) (s (qP r) (s (Bf r (a.bk 0 r) r) (s (p8 r r) (n ?_)))))))))
 rcases iv b with ⟨m,b⟩|⟨m,b⟩
 ·refine jK (bt m) (kS ?_)
  obtain rfl:=sm b
  exact zi (P:=Try.prog) (fn:=Try.f64) r ⟨r,a⟩
 refine jD (bf m) (wk (q (q (g (s (mp r) (s (kZ r) ?_))))))
 obtain ⟨t,x,b⟩:=bs b
 refine sc (ec uX r) (mU fu (a.pr [0] [] [0] r) x) ?_
 rintro _ C ⟨rfl,o⟩
 replace a:=a.cn [0] [] o
 refine s (zL r) (n ?_)
 rcases iv b with ⟨j,b⟩|⟨j,b⟩
 ·refine jK (cb j) (q (g (s (mp r) ?_)))
  obtain ⟨u,z,b⟩:=bs b
  refine sc (ec Dq r) (qX fu (a.pr [0] [] [1] r) z) ?_
  rintro _ D ⟨rfl,o⟩
  replace a:=a.cn [0] [] o
  refine n (kS ?_)
  obtain rfl:=sm b
  exact zi (P:=Try.prog) (fn:=Try.f64) r ⟨r,(a.dp [0])⟩
 replace j:=nt j
 refine jD (cb j) (wk (g (s (mp r) (s (xn r) (s (lW r) (s (l3 r (a.bk 0 r) r) (s (kE r r) (s (xn r) (s (lW r) (lq (t_n a 0 [V (wr (f.a+1))] r mK r r) fun E a=>n ?_))))))))))
 obtain rfl:=sm b
 exact zi (P:=Try.prog) (fn:=Try.f64) r ⟨r,(a.dp [1])⟩
def JN (m:fV→Option (BA × fV)):Prop:=∀ {h:World} {j:Nat→Prop} {d:fV} {f:Nat} {a:Option Addr} {b:Nat} {R:BA × fV},Pre h j [.box f 102 #[Z a d.l b,V d.a,V d.c,V d.e]] [.l a b d.l]→m d=some R→
 Calls Try.prog 63 #[Pt f] h (qx fun v w=>jy R fun i c=>v=T i∧Bx h w j (lK [.box f 102 #[Z a d.l b,V d.a,V d.c,V d.e]]) [.box f 102 #[Z a c.l b,V c.a,V c.c,V c.e]] [.l a b c.l])
def oz (fu:Nat)(a:fV):Option (BA × fV):=
 if a.e≠0 then
  some ((⟨#[]⟩:BA),a)
 else
  (oM fu a 0 1).bind fun b=>
  if (!b)=true then
   (oP fu a 7).bind fun c=>
   some ((⟨#[]⟩:BA),c)
  else
   (ix a.l (wr ((wr (a.a+1)) - 1))).bind fun d=>
   some (d.a,(⟨a.l,(wr (a.a+1)),a.c,a.e⟩:fV))
theorem qd (fu:Nat):JN (oz fu):=by
 intro D K j o d f R x b
 unfold oz at b
 have a:=x.bx
 clear x
 generalize E:lK _=G at a ⊢
 refine cf Try.func63 r (lJ [(0,Pt o)] ⟨r,y⟩ fun L=>q (g (s (mq r) (n (q (q (g (s (mp r) (s (xn r) (s (qP r) (s (Bf r (a.bk 0 r) r) (s (p8 r r) (n ?_)))))))))))))
 rcases iv b with ⟨u,b⟩|⟨u,b⟩
 ·refine jK (bt u) (q (g (s (mq r) (n (kS ?_)))))
  obtain rfl:=sm b
  exact jB r (kW r) (mH (⟨r,a⟩))
 refine jD (bf u) (wk (q (q (g (s (mp r) ?_)))))
 obtain ⟨z,B,b⟩:=bs b
 refine sc (ec Dh r) (qR fu (a.pr [0] [] [0] r) B) ?_
 rintro _ F ⟨rfl,v⟩
 replace a:=a.cn [0] [] v
 refine s (zL r) (n ?_)
 rcases iv b with ⟨p,b⟩|⟨p,b⟩
 ·refine jK (cb p) (q (g (s (mp r) ?_)))
  obtain ⟨A,C,b⟩:=bs b
  refine sc (ec Dq r) (qX fu (a.pr [0] [] [1] r) C) ?_
  rintro _ H ⟨rfl,v⟩
  replace a:=a.cn [0] [] v
  refine n (q (g (s (mq r) (n (kS ?_)))))
  obtain rfl:=sm b
  exact jB r (kW r) (mH (⟨r,(a.dp [0])⟩))
 replace p:=nt p
 refine jD (cb p) (wk (q (g (s (mp r) (s (xn r) (s (lW r) (s (l3 r (a.bk 0 r) r) (s (kE r r) (s (xn r) (s (lW r) (lq (t_n a 0 [V (wr (j.a+1))] r mK r r) fun I a=>n (q (oK a [0] [1] [] (by kernel_rfl) ?_)))))))))))))
 replace a:=a.drew
 have c:=(a.dp [1])
 refine pF 0 r (mp r) c (pF 1 r (xn r) c (pF 2 r (yY r) c (uF 3 r (fun hS=>OQ r (hS.bk 0 r) r) c (pF 4 r (mp r) c (pF 5 r (xn r) c (pF 6 r (lW r) c (uF 7 r (fun hS=>l3 r (hS.bk 0 r) r) c (pF 8 r (xJ r r) c ?_))))))))
 obtain ⟨t,m,b⟩:=bs b
 obtain ⟨J,w,m⟩:=kH m
 refine pF 9 r (kV Ct pG r r w (a.dl 1 r) m) c (pF 10 r (Jr r) c (tU 11 r (fun _ hS=>jM tT r r ((uG (ds:=[V t.e,V t.f,T t.a,V t.c]) (hS.dl 0 r) m (fun _ h=>h)) 2 _ r)) (sF c) (pF 12 r (mq r) c (hD (kS ?_)))))
 obtain rfl:=sm b
 exact jB r (kW r) (mH (⟨r,(a.dp [1])⟩))
def Jy (m:fV→Option ((List BA) × fV)):Prop:=∀ {k:World} {p:Nat→Prop} {i:fV} {j:Nat} {a:Option Addr} {b:Nat} {R:(List BA) × fV},Pre k p [.box j 102 #[Z a i.l b,V i.a,V i.c,V i.e]] [.l a b i.l]→m i=some R→
 Calls Try.prog 65 #[Pt j] k (qx fun v w=>jy R fun o c=>∃ (d:OA)(f:Nat)(h:LV),v=Z d o f∧Bx k w p (lK [.box j 102 #[Z a i.l b,V i.a,V i.c,V i.e]]) [O k.heap.size d f 9 BA h,.box j 102 #[Z a c.l b,V c.a,V c.c,V c.e]] [.els h o,.l a b c.l])
def qE (fu:Nat):Nat→(List BA)→(List kg)→Int→Int→Int→Option (Ld (List BA × List kg × Int × Int × Int) ((List BA) × fV))
 | 0,_,_,_,_,_=>none
 | o+1,h,b,c,d,a=>
 if a=0 then
  (mg fu (⟨b,c,d,a⟩:fV) 0 (⟨#[44]⟩:BA)).bind fun i=>
  if i=true then
   (lI fu (⟨b,c,d,a⟩:fV) (⟨#[44]⟩:BA)).bind fun j=>
   (oz fu j).bind fun p=>
   jy p fun k f=>
   (app h ([k]:List BA)).bind fun m=>
   qE fu o m f.l f.a f.c f.e
  else
   some (.go (h,b,c,d,a))
 else
  some (.go (h,b,c,d,a))
def vV (fu:Nat)(j:fV):Option ((List BA) × fV):=
 (oz fu j).bind fun k=>
 jy k fun b a=>
 (qE fu fu ([b]:List BA) a.l a.a a.c a.e).bind fun k=>k.el (fun k=>
 jy k fun c k=>jy k fun d k=>jy k fun f k=>jy k fun h i=>
 some (c,(⟨d,f,h,i⟩:fV))
 ) (fun o=>some o)
theorem CO (fu:Nat):Jy (vV fu):=by
 intro J aj K C u v R Y x
 unfold vV at x
 have m:=Y.bx
 clear Y
 generalize hG:lK _=G at m ⊢
 refine cf Try.func65 r (lJ [(0,Pt C)] ⟨r,y⟩ fun ak=>q (g (s (mO r) (n (q (g (s (mp r) ?_)))))))
 obtain ⟨z,A,h1,x⟩:=lU x
 refine sc (ec BS r) (qd fu (m.pr [0] [] [0] r) h1) ?_
 rintro _ w1 ⟨rfl,E⟩
 replace m:=m.cn [0] [] E
 refine nO (jL m [[T z]] ([z]:List BA) (zn r) r r (by decide) ⟨r,y⟩) ?_
 rintro _ w2 ⟨b2,rfl,m⟩
 refine s (mO r) (n (q ?_))
 obtain ⟨Y3,a,x⟩:=bs x
 refine nV (fun f w=>∃ (h:List BA) (b:OA)(c:Nat)(d:LV)(j:List kg) (o:Int)(p:Int)(t:Int),Has f [(3,Z b h c)]∧Bx J w aj G [O J.heap.size b c 9 BA d,.box C 102 #[Z u j v,V o,V p,V t]] [.l u v j,.els d h]∧Ld.go (h,j,o,p,t)=Y3) (fun J3 F=>?_) ?_
 ·refine oD (kK (fun al f w=>∃ (h:List BA) (b:OA)(c:Nat)(d:LV)(j:List kg) (o:Int)(p:Int)(t:Int),Has f [(0,Pt C),(3,Z b h c)]∧Bx J w aj G [O J.heap.size b c 9 BA d,.box C 102 #[Z u j v,V o,V p,V t]] [.l u v j,.els d h]∧qE fu al h j o p t=some Y3) fu ⟨([z]:List BA),(ad b2),1,[[T z]],A.l,A.a,A.c,A.e,⟨r,r,y⟩,(m.dp [1,0]),a⟩ ?_)
  clear m a
  rintro L f w ⟨h,b,c,d,j,o,p,t,hf,m,a⟩ K3 M
  obtain ⟨ak,rfl⟩:=gP _ _ hf
  clear hf
  cases L with
  | zero=>exact nn a
  | succ L=>
   rw [qE] at a
   refine q (q (g (s (mp r) (s (xn r) (s (qP r) (s (Bf r (m.bk 1 r) r) (s (kF r r) (s (kM r) ?_))))))))
   rcases iv a with ⟨N,a⟩|⟨N,a⟩
   ·rw [decide_eq_true N]
    refine ko r (s (mp r) ?_)
    obtain ⟨a1,h5,a⟩:=bs a
    refine ko r (sc (ec uX r) (mU fu (m.pr [1] [0] [0] r) h5) ?_)
    rintro _ w5 ⟨rfl,E⟩
    replace m:=m.cn [1] [0] E
    refine s (kC r r) (n ?_)
    rcases iv a with ⟨H,a⟩|⟨H,a⟩
    ·refine jK (cb H) (wk (oD (q (g (s (mp r) ?_)))))
     obtain ⟨a2,h7,a⟩:=bs a
     refine sc (ec vW r) (lQ fu (m.pr [0] [1] [1] r) h7) ?_
     rintro _ w7 ⟨rfl,E⟩
     replace m:=m.cn [0] [1] E
     refine n (g (s (l6 r) (s (mp r) ?_)))
     obtain ⟨D,B,h8,a⟩:=lU a
     refine sc (ec BS r) (qd fu (m.pr [0] [1] [0] r) h8) ?_
     rintro _ w8 ⟨rfl,E⟩
     replace m:=m.cn [0] [1] E
     refine nO (jL m [[T D]] ([D]:List BA) (zn r) r r (by decide) ⟨r,y⟩) ?_
     rintro _ w9 ⟨b9,rfl,m⟩
     obtain ⟨Q,I,a⟩:=bs a
     refine nO (kN m 2 5 r r kR nW r (by decide) (by decide) (Nat.le_refl _) r r (m.zQ 0 0 r r) I) ?_
     rintro _ a8 ⟨S,U,W,rfl,m⟩
     exact s (mO r) (n (M L _ _ (Nat.lt_succ_self _) ⟨Q,S,U,W,B.l,B.a,B.c,B.e,⟨r,r,y⟩,(m.ad [2,1] [1,5]),a⟩))
    replace H:=nt H
    exact jD (cb H) (uJ (F _ _ ⟨h,b,c,d,j,o,p,t,⟨r,y⟩,(m.ad [1,0] [1,2]),sm a⟩))
   rw [decide_eq_false N]
   exact jH r (jH r (s (jY r r) (n (jD r (uJ (F _ _ ⟨h,b,c,d,j,o,p,t,⟨r,y⟩,m,sm a⟩))))))
 clear m
 rintro f w ⟨h,b,c,d,j,o,p,t,hf,m,X⟩
 obtain ⟨ak,rfl⟩:=gP _ _ hf
 clear hf
 subst X
 replace x:=gi x
 replace x:=pi (mh x)
 refine q (g (s (l6 r) (s (mO r) (n (kS ?_)))))
 obtain rfl:=sm x
 exact jB r (kW r) (mH (⟨b,c,d,r,(m.dp [1,0])⟩))
def Gu (m:fV→Option (Bool)):Prop:=∀ {f:World} {i:Nat→Prop} {c:fV} {d:Nat} {a:Option Addr} {b:Nat} {h:Bool},Pre f i [.box d 102 #[Z a c.l b,V c.a,V c.c,V c.e]] [.l a b c.l]→m c=some h→
 Calls Try.prog 136 #[Pt d] f (qx fun v w=>v=.bool h∧Bx f w i (lK [.box d 102 #[Z a c.l b,V c.a,V c.c,V c.e]]) [.box d 102 #[Z a c.l b,V c.a,V c.c,V c.e]] [.l a b c.l])
def wE (fu:Nat)(a:fV):Option (Bool):=
 (oM fu a 0 1).bind fun b=>
 if b=true then
  some true
 else
  (oM fu a 0 2).bind fun c=>
  if c=true then
   some true
  else
   (mg fu a 0 (⟨#[40]⟩:BA)).bind fun d=>
   if d=true then
    some true
   else
    (mg fu a 0 (⟨#[45]⟩:BA)).bind fun e=>
    if e=true then
     some true
    else
     (mg fu a 0 (⟨#[33]⟩:BA)).bind fun f=>
     some f
theorem G8 (fu:Nat):Gu (wE fu):=by
 intro E N o h d f F p a
 unfold wE at a
 have b:=p.bx
 clear p
 generalize H:lK _=G at b ⊢
 refine cf Try.func136 r (lJ [(0,Pt h)] ⟨r,y⟩ fun Q=>q (g (s (jZ r) (n (q (g (s (mp r) ?_)))))))
 obtain ⟨t,z,a⟩:=bs a
 refine sc (ec Dh r) (qR fu (b.pr [0] [] [0] r) z) ?_
 rintro _ I ⟨rfl,c⟩
 replace b:=b.cn [0] [] c
 refine s (kM r) ?_
 rcases iv a with ⟨i,a⟩|⟨i,a⟩
 ·rw [i]
  refine jH r (jH r (s (kC r r) (s (kM r) (jH r (jH r (s (kC r r) (s (kM r) (jH r (jH r (s (kC r r) (s (kM r) (jH r (jH r (s (kC r r) (s (jZ r) (n (kS ?_)))))))))))))))))
  obtain rfl:=sm a
  exact jB r (kW r) ⟨r,(b.dp [1])⟩
 replace i:=nt i
 rw [i]
 refine ko r (s (mp r) ?_)
 obtain ⟨u,A,a⟩:=bs a
 refine ko r (sc (ec Dh r) (qR fu (b.pr [0] [] [1] r) A) ?_)
 rintro _ J ⟨rfl,c⟩
 replace b:=b.cn [0] [] c
 refine s (jY r r) (s (kM r) ?_)
 rcases iv a with ⟨j,a⟩|⟨j,a⟩
 ·rw [j]
  refine jH r (jH r (s (kC r r) (s (kM r) (jH r (jH r (s (kC r r) (s (kM r) (jH r (jH r (s (kC r r) (s (jZ r) (n (kS ?_)))))))))))))
  obtain rfl:=sm a
  exact jB r (kW r) ⟨r,(b.dp [2])⟩
 replace j:=nt j
 rw [j]
 refine ko r (s (mp r) ?_)
 obtain ⟨v,B,a⟩:=bs a
 refine ko r (sc (ec uX r) (mU fu (b.pr [0] [] [2] r) B) ?_)
 rintro _ K ⟨rfl,c⟩
 replace b:=b.cn [0] [] c
 refine s (jY r r) (s (kM r) ?_)
 rcases iv a with ⟨k,a⟩|⟨k,a⟩
 ·rw [k]
  refine jH r (jH r (s (kC r r) (s (kM r) (jH r (jH r (s (kC r r) (s (jZ r) (n (kS ?_)))))))))
  obtain rfl:=sm a
  exact jB r (kW r) ⟨r,(b.dp [3])⟩
 replace k:=nt k
 rw [k]
 refine ko r (s (mp r) ?_)
 obtain ⟨w,C,a⟩:=bs a
 refine ko r (sc (ec uX r) (mU fu (b.pr [0] [] [3] r) C) ?_)
 rintro _ L ⟨rfl,c⟩
 replace b:=b.cn [0] [] c
 refine s (jY r r) (s (kM r) ?_)
 rcases iv a with ⟨m,a⟩|⟨m,a⟩
 ·rw [m]
  refine jH r (jH r (s (kC r r) (s (jZ r) (n (kS ?_)))))
  obtain rfl:=sm a
  exact jB r (kW r) ⟨r,(b.dp [4])⟩
 replace m:=nt m
 rw [m]
 refine ko r (s (mp r) ?_)
 obtain ⟨x,D,a⟩:=bs a
 refine ko r (sc (ec uX r) (mU fu (b.pr [0] [] [4] r) D) ?_)
 rintro _ M ⟨rfl,c⟩
 replace b:=b.cn [0] [] c
 refine s (jY r r) (s (jZ r) (n (kS ?_)))
 obtain rfl:=sm a
 exact jB r (kW r) ⟨r,(b.dp [5])⟩
def Ja (m:fV→Option (Int × Int)):Prop:=∀ {f:World} {j:Nat→Prop} {c:fV} {d:Nat} {a:Option Addr} {b:Nat} {R:Int × Int},Pre f j [.box d 102 #[Z a c.l b,V c.a,V c.c,V c.e]] [.l a b c.l]→m c=some R→
 Calls Try.prog 125 #[Pt d] f (qx fun v w=>jy R fun h i=>v=.tuple #[V h,V i]∧Bx f w j (lK [.box d 102 #[Z a c.l b,V c.a,V c.c,V c.e]]) [.box d 102 #[Z a c.l b,V c.a,V c.c,V c.e]] [.l a b c.l])
def qy (fu:Nat)(c:fV):List BA→Nat→Option (Ld (Unit) (Int × Int))
 | [],_=>some (.go ())
 | d :: e,b=>
 (mg fu c 0 d).bind fun a=>
 if a=true then
  (ix ([3,3,4,4,4,2,2,2,1,1,1,1]:List Int) (b:Int)).bind fun f=>
  some (.out (f,(wr (6+(b:Int)))))
 else
  qy fu c e (b+1)
def yK (fu:Nat)(a:fV):Option (Int × Int):=
 (qy fu a ([(⟨#[43]⟩:BA),(⟨#[45]⟩:BA),(⟨#[42]⟩:BA),(⟨#[47]⟩:BA),(⟨#[37]⟩:BA),(⟨#[38]⟩:BA),(⟨#[124]⟩:BA),(⟨#[94]⟩:BA),(⟨#[60]⟩:BA),(⟨#[60,61]⟩:BA),(⟨#[61,61]⟩:BA),(⟨#[33,61]⟩:BA)]:List BA) 0).bind fun b=>b.el (fun _=>
 some (0,0)
 ) (fun o=>some o)
theorem IW (fu:Nat):Ja (yK fu):=by
 intro t a1 i j b c R E m
 unfold yK at m
 have d:=E.bx
 clear E
 generalize Q:lK _=G at d ⊢
 refine cf Try.func125 r (lJ [(0,Pt j)] ⟨r,y⟩ fun a2=>q (g (s (xi r) (s (xi r) (n (q (g (nO (jL d [[T (⟨#[43]⟩:BA)],[T (⟨#[45]⟩:BA)],[T (⟨#[42]⟩:BA)],[T (⟨#[47]⟩:BA)],[T (⟨#[37]⟩:BA)],[T (⟨#[38]⟩:BA)],[T (⟨#[124]⟩:BA)],[T (⟨#[94]⟩:BA)],[T (⟨#[60]⟩:BA)],[T (⟨#[60,61]⟩:BA)],[T (⟨#[61,61]⟩:BA)],[T (⟨#[33,61]⟩:BA)]] ([(⟨#[43]⟩:BA),(⟨#[45]⟩:BA),(⟨#[42]⟩:BA),(⟨#[47]⟩:BA),(⟨#[37]⟩:BA),(⟨#[38]⟩:BA),(⟨#[124]⟩:BA),(⟨#[94]⟩:BA),(⟨#[60]⟩:BA),(⟨#[60,61]⟩:BA),(⟨#[61,61]⟩:BA),(⟨#[33,61]⟩:BA)]:List BA) (DI r r r r r r r r r r r r) r r (by decide) ⟨r,⟨r,⟨r,⟨r,⟨r,⟨r,⟨r,⟨r,⟨r,⟨r,⟨r,⟨r,y⟩⟩⟩⟩⟩⟩⟩⟩⟩⟩⟩⟩) ?_))))))))
 rintro _ S ⟨x,rfl,d⟩
 refine s (mO r) (n (q (g (nO (jL d [[V 3],[V 3],[V 4],[V 4],[V 4],[V 2],[V 2],[V 2],[V 1],[V 1],[V 1],[V 1]] ([3,3,4,4,4,2,2,2,1,1,1,1]:List Int) (NR r r r r r r r r r r r r) r r (by decide) ⟨r,⟨r,⟨r,⟨r,⟨r,⟨r,⟨r,⟨r,⟨r,⟨r,⟨r,⟨r,y⟩⟩⟩⟩⟩⟩⟩⟩⟩⟩⟩⟩) ?_))))
 rintro _ U ⟨z,rfl,d⟩
 refine s (mO r) (n (q (q (g (s (l6 r) (s (lu kR r) (s (mi r) (n ?_))))))))
 have I:=(d.vw 1 1 r r).bd
 obtain ⟨F,a,m⟩:=bs m
 refine nV (fun f w=>Has f []∧Bx t w a1 G [O t.heap.size (ad z) 12 3 Int [[V 3],[V 3],[V 4],[V 4],[V 4],[V 2],[V 2],[V 2],[V 1],[V 1],[V 1],[V 1]],O t.heap.size (ad x) 12 9 BA [[T (⟨#[43]⟩:BA)],[T (⟨#[45]⟩:BA)],[T (⟨#[42]⟩:BA)],[T (⟨#[47]⟩:BA)],[T (⟨#[37]⟩:BA)],[T (⟨#[38]⟩:BA)],[T (⟨#[124]⟩:BA)],[T (⟨#[94]⟩:BA)],[T (⟨#[60]⟩:BA)],[T (⟨#[60,61]⟩:BA)],[T (⟨#[61,61]⟩:BA)],[T (⟨#[33,61]⟩:BA)]],.box j 102 #[Z b i.l c,V i.a,V i.c,V i.e]] [.els [[V 3],[V 3],[V 4],[V 4],[V 4],[V 2],[V 2],[V 2],[V 1],[V 1],[V 1],[V 1]] ([3,3,4,4,4,2,2,2,1,1,1,1]:List Int),.els [[T (⟨#[43]⟩:BA)],[T (⟨#[45]⟩:BA)],[T (⟨#[42]⟩:BA)],[T (⟨#[47]⟩:BA)],[T (⟨#[37]⟩:BA)],[T (⟨#[38]⟩:BA)],[T (⟨#[124]⟩:BA)],[T (⟨#[94]⟩:BA)],[T (⟨#[60]⟩:BA)],[T (⟨#[60,61]⟩:BA)],[T (⟨#[61,61]⟩:BA)],[T (⟨#[33,61]⟩:BA)]] ([(⟨#[43]⟩:BA),(⟨#[45]⟩:BA),(⟨#[42]⟩:BA),(⟨#[47]⟩:BA),(⟨#[37]⟩:BA),(⟨#[38]⟩:BA),(⟨#[124]⟩:BA),(⟨#[94]⟩:BA),(⟨#[60]⟩:BA),(⟨#[60,61]⟩:BA),(⟨#[61,61]⟩:BA),(⟨#[33,61]⟩:BA)]:List BA),.l b c i.l]∧Ld.go ()=F) (fun W A=>?_) ?_
 ·refine oD (kK (fun a3 f w=>∃ (k:Nat),a3=([(⟨#[43]⟩:BA),(⟨#[45]⟩:BA),(⟨#[42]⟩:BA),(⟨#[47]⟩:BA),(⟨#[37]⟩:BA),(⟨#[38]⟩:BA),(⟨#[124]⟩:BA),(⟨#[94]⟩:BA),(⟨#[60]⟩:BA),(⟨#[60,61]⟩:BA),(⟨#[61,61]⟩:BA),(⟨#[33,61]⟩:BA)]:List BA).length - k∧k≤([(⟨#[43]⟩:BA),(⟨#[45]⟩:BA),(⟨#[42]⟩:BA),(⟨#[47]⟩:BA),(⟨#[37]⟩:BA),(⟨#[38]⟩:BA),(⟨#[124]⟩:BA),(⟨#[94]⟩:BA),(⟨#[60]⟩:BA),(⟨#[60,61]⟩:BA),(⟨#[61,61]⟩:BA),(⟨#[33,61]⟩:BA)]:List BA).length∧Has f [(12,V (k:Int)),(0,Pt j),(5,.slice (ad z) ([3,3,4,4,4,2,2,2,1,1,1,1]:List Int).length 12),(10,.slice (ad x) ([(⟨#[43]⟩:BA),(⟨#[45]⟩:BA),(⟨#[42]⟩:BA),(⟨#[47]⟩:BA),(⟨#[37]⟩:BA),(⟨#[38]⟩:BA),(⟨#[124]⟩:BA),(⟨#[94]⟩:BA),(⟨#[60]⟩:BA),(⟨#[60,61]⟩:BA),(⟨#[61,61]⟩:BA),(⟨#[33,61]⟩:BA)]:List BA).length 12),(11,V ((([(⟨#[43]⟩:BA),(⟨#[45]⟩:BA),(⟨#[42]⟩:BA),(⟨#[47]⟩:BA),(⟨#[37]⟩:BA),(⟨#[38]⟩:BA),(⟨#[124]⟩:BA),(⟨#[94]⟩:BA),(⟨#[60]⟩:BA),(⟨#[60,61]⟩:BA),(⟨#[61,61]⟩:BA),(⟨#[33,61]⟩:BA)]:List BA).length:Nat):Int))]∧Bx t w a1 G [O t.heap.size (ad z) 12 3 Int [[V 3],[V 3],[V 4],[V 4],[V 4],[V 2],[V 2],[V 2],[V 1],[V 1],[V 1],[V 1]],O t.heap.size (ad x) 12 9 BA [[T (⟨#[43]⟩:BA)],[T (⟨#[45]⟩:BA)],[T (⟨#[42]⟩:BA)],[T (⟨#[47]⟩:BA)],[T (⟨#[37]⟩:BA)],[T (⟨#[38]⟩:BA)],[T (⟨#[124]⟩:BA)],[T (⟨#[94]⟩:BA)],[T (⟨#[60]⟩:BA)],[T (⟨#[60,61]⟩:BA)],[T (⟨#[61,61]⟩:BA)],[T (⟨#[33,61]⟩:BA)]],.box j 102 #[Z b i.l c,V i.a,V i.c,V i.e]] [.els [[V 3],[V 3],[V 4],[V 4],[V 4],[V 2],[V 2],[V 2],[V 1],[V 1],[V 1],[V 1]] ([3,3,4,4,4,2,2,2,1,1,1,1]:List Int),.els [[T (⟨#[43]⟩:BA)],[T (⟨#[45]⟩:BA)],[T (⟨#[42]⟩:BA)],[T (⟨#[47]⟩:BA)],[T (⟨#[37]⟩:BA)],[T (⟨#[38]⟩:BA)],[T (⟨#[124]⟩:BA)],[T (⟨#[94]⟩:BA)],[T (⟨#[60]⟩:BA)],[T (⟨#[60,61]⟩:BA)],[T (⟨#[61,61]⟩:BA)],[T (⟨#[33,61]⟩:BA)]] ([(⟨#[43]⟩:BA),(⟨#[45]⟩:BA),(⟨#[42]⟩:BA),(⟨#[47]⟩:BA),(⟨#[37]⟩:BA),(⟨#[38]⟩:BA),(⟨#[124]⟩:BA),(⟨#[94]⟩:BA),(⟨#[60]⟩:BA),(⟨#[60,61]⟩:BA),(⟨#[61,61]⟩:BA),(⟨#[33,61]⟩:BA)]:List BA),.l b c i.l]∧qy fu i (([(⟨#[43]⟩:BA),(⟨#[45]⟩:BA),(⟨#[42]⟩:BA),(⟨#[47]⟩:BA),(⟨#[37]⟩:BA),(⟨#[38]⟩:BA),(⟨#[124]⟩:BA),(⟨#[94]⟩:BA),(⟨#[60]⟩:BA),(⟨#[60,61]⟩:BA),(⟨#[61,61]⟩:BA),(⟨#[33,61]⟩:BA)]:List BA).drop k) k=some F) (([(⟨#[43]⟩:BA),(⟨#[45]⟩:BA),(⟨#[42]⟩:BA),(⟨#[47]⟩:BA),(⟨#[37]⟩:BA),(⟨#[38]⟩:BA),(⟨#[124]⟩:BA),(⟨#[94]⟩:BA),(⟨#[60]⟩:BA),(⟨#[60,61]⟩:BA),(⟨#[61,61]⟩:BA),(⟨#[33,61]⟩:BA)]:List BA).length) ⟨0,r,Nat.zero_le _,⟨r,r,r,r,r,y⟩,d,a⟩ ?_)
  clear d a
  rintro a3 f w ⟨k,rfl,J,hf,d,a⟩ X B
  obtain ⟨a2,rfl⟩:=gP _ _ hf
  clear hf
  rcases Nat.lt_or_ge k ([(⟨#[43]⟩:BA),(⟨#[45]⟩:BA),(⟨#[42]⟩:BA),(⟨#[47]⟩:BA),(⟨#[37]⟩:BA),(⟨#[38]⟩:BA),(⟨#[124]⟩:BA),(⟨#[94]⟩:BA),(⟨#[60]⟩:BA),(⟨#[60,61]⟩:BA),(⟨#[61,61]⟩:BA),(⟨#[33,61]⟩:BA)]:List BA).length with u | u
  ·obtain ⟨K,p⟩:=mF (l:=([(⟨#[43]⟩:BA),(⟨#[45]⟩:BA),(⟨#[42]⟩:BA),(⟨#[47]⟩:BA),(⟨#[37]⟩:BA),(⟨#[38]⟩:BA),(⟨#[124]⟩:BA),(⟨#[94]⟩:BA),(⟨#[60]⟩:BA),(⟨#[60,61]⟩:BA),(⟨#[61,61]⟩:BA),(⟨#[33,61]⟩:BA)]:List BA)) u
   rw [mZ p,qy] at a
   refine q (g (s (uh r r (by omega)) (n (q (jK r (wk (q (oD (q (g (s (mi r) (s (kV kR nW r r r (d.vw 1 1 r r) p) (s (jM tT r r ((uG (ds:=[T K]) (d.vw 1 1 r r) p (fun _ h=>h)) 0 _ r)) (s (xi r) (s (mq r) (n (q (g (s (mp r) (s (kZ r) ?_))))))))))))))))))))
   obtain ⟨H,L,a⟩:=bs a
   refine sc (ec uX r) (mU fu (d.pr [2] [0,1] [2] r) L) ?_
   rintro _ Y ⟨rfl,M⟩
   replace d:=d.cn [2] [0,1] M
   refine n ?_
   rcases iv a with ⟨v,a⟩|⟨v,a⟩
   ·refine jK (cb v) (q (g (s (l6 r) (s (mi r) ?_))))
    obtain ⟨N,o,a⟩:=bs a
    obtain ⟨k6,C,o⟩:=kH o
    refine s (kV sG mK r r C (d.vw 1 1 r r) o) (s (jM EK r r ((uG (ds:=[V N]) (d.vw 1 1 r r) o (fun _ h=>h)) 0 _ r)) (s (mi r) (s (kE r r) (s (xi r) (s (xi r) (n (kS ?_)))))))
    obtain rfl:=sm a
    replace m:=oi m
    obtain rfl:=sm m
    exact qb r (kW r) (kW r) (mH (⟨r,(d.ad [0] [3])⟩))
   replace v:=nt v
   exact jD (cb v) (wk (g (s (nA r r (by omega) (by omega)) (s (mi r) (n (B (([(⟨#[43]⟩:BA),(⟨#[45]⟩:BA),(⟨#[42]⟩:BA),(⟨#[47]⟩:BA),(⟨#[37]⟩:BA),(⟨#[38]⟩:BA),(⟨#[124]⟩:BA),(⟨#[94]⟩:BA),(⟨#[60]⟩:BA),(⟨#[60,61]⟩:BA),(⟨#[61,61]⟩:BA),(⟨#[33,61]⟩:BA)]:List BA).length - (k+1)) _ _ (by omega) ⟨k+1,r,by omega,⟨r,r,r,r,r,y⟩,(d.ad [1,2,0] [1,2,3]),a⟩))))))
  obtain rfl:k=([(⟨#[43]⟩:BA),(⟨#[45]⟩:BA),(⟨#[42]⟩:BA),(⟨#[47]⟩:BA),(⟨#[37]⟩:BA),(⟨#[38]⟩:BA),(⟨#[124]⟩:BA),(⟨#[94]⟩:BA),(⟨#[60]⟩:BA),(⟨#[60,61]⟩:BA),(⟨#[61,61]⟩:BA),(⟨#[33,61]⟩:BA)]:List BA).length:=by omega
  rw [lZ,qy] at a
  exact q (g (s (uw r r (by omega)) (n (q (jD r (uJ (A _ _ ⟨y,d,sm a⟩)))))))
 clear d
 rintro f w ⟨hf,d,D⟩
 obtain ⟨a2,rfl⟩:=gP _ _ hf
 clear hf
 subst D
 replace m:=gi m
 refine q (g (s (xi r) (s (xi r) (n (kS ?_)))))
 obtain rfl:=sm m
 exact qb r (kW r) (kW r) (mH (⟨r,(d.ad [2] [2])⟩))
def Kr (m:fV→Option (Bool)):Prop:=∀ {f:World} {i:Nat→Prop} {c:fV} {d:Nat} {a:Option Addr} {b:Nat} {h:Bool},Pre f i [.box d 102 #[Z a c.l b,V c.a,V c.c,V c.e]] [.l a b c.l]→m c=some h→
 Calls Try.prog 126 #[Pt d] f (qx fun v w=>v=.bool h∧Bx f w i (lK [.box d 102 #[Z a c.l b,V c.a,V c.c,V c.e]]) [.box d 102 #[Z a c.l b,V c.a,V c.c,V c.e]] [.l a b c.l])
def rY (fu:Nat)(c:fV):Option (Bool):=
 (oM fu c 0 1).bind fun a=>
 if a=true then
  (mg fu c 1 (⟨#[40]⟩:BA)).bind fun b=>
  some b
 else
  some false
theorem Ec (fu:Nat):Kr (rY fu):=by
 intro u A i f c d v k b
 unfold rY at b
 have a:=k.bx
 clear k
 generalize w:lK _=G at a ⊢
 refine cf Try.func126 r (lJ [(0,Pt f)] ⟨r,y⟩ fun B=>q (g (s (jZ r) (n (q (g (s (mp r) ?_)))))))
 obtain ⟨m,p,b⟩:=bs b
 refine sc (ec Dh r) (qR fu (a.pr [0] [] [0] r) p) ?_
 rintro _ x ⟨rfl,j⟩
 replace a:=a.cn [0] [] j
 refine s (kM r) ?_
 rcases iv b with ⟨h,b⟩|⟨h,b⟩
 ·rw [h]
  refine ko r (s (mp r) ?_)
  obtain ⟨o,t,b⟩:=bs b
  refine ko r (sc (ec uX r) (mU fu (a.pr [0] [] [1] r) t) ?_)
  rintro _ z ⟨rfl,j⟩
  replace a:=a.cn [0] [] j
  refine s (kC r r) (s (jZ r) (n (kS ?_)))
  obtain rfl:=sm b
  exact jB r (kW r) ⟨r,(a.dp [2])⟩
 replace h:=nt h
 rw [h]
 refine jH r (jH r (s (jY r r) (s (jZ r) (n (kS ?_)))))
 obtain rfl:=sm b
 exact jB r (kW r) ⟨r,(a.dp [1])⟩
def GY (m:fV→Option (Bool)):Prop:=∀ {f:World} {i:Nat→Prop} {c:fV} {d:Nat} {a:Option Addr} {b:Nat} {h:Bool},Pre f i [.box d 102 #[Z a c.l b,V c.a,V c.c,V c.e]] [.l a b c.l]→m c=some h→
 Calls Try.prog 93 #[Pt d] f (qx fun v w=>v=.bool h∧Bx f w i (lK [.box d 102 #[Z a c.l b,V c.a,V c.c,V c.e]]) [.box d 102 #[Z a c.l b,V c.a,V c.c,V c.e]] [.l a b c.l])
def pR (fu:Nat)(b:fV):List BA→Nat→Option (Ld (Unit) (Bool))
 | [],_=>some (.go ())
 | c :: d,e=>
 (mg fu b 0 c).bind fun a=>
 if a=true then
  some (.out true)
 else
  pR fu b d (e+1)
def wO (fu:Nat)(b:fV):Option (Bool):=
 (pR fu b ([(⟨#[118,97,114]⟩:BA),(⟨#[105,102]⟩:BA),(⟨#[119,104,105,108,101]⟩:BA),(⟨#[114,101,116,117,114,110]⟩:BA),(⟨#[116,104,114,111,119]⟩:BA),(⟨#[116,114,121]⟩:BA),(⟨#[112,114,105,110,116]⟩:BA)]:List BA) 0).bind fun c=>c.el (fun _=>
 (oM fu b 0 1).bind fun a=>
 some a
 ) (fun o=>some o)
theorem Gh (fu:Nat):GY (wO fu):=by
 intro u X i j b c M C k
 unfold wO at k
 have d:=C.bx
 clear C
 generalize N:lK _=G at d ⊢
 refine cf Try.func93 r (lJ [(0,Pt j)] ⟨r,y⟩ fun Y=>q (g (s (jZ r) (n (q (q (g (nO (jL d [[T (⟨#[118,97,114]⟩:BA)],[T (⟨#[105,102]⟩:BA)],[T (⟨#[119,104,105,108,101]⟩:BA)],[T (⟨#[114,101,116,117,114,110]⟩:BA)],[T (⟨#[116,104,114,111,119]⟩:BA)],[T (⟨#[116,114,121]⟩:BA)],[T (⟨#[112,114,105,110,116]⟩:BA)]] ([(⟨#[118,97,114]⟩:BA),(⟨#[105,102]⟩:BA),(⟨#[119,104,105,108,101]⟩:BA),(⟨#[114,101,116,117,114,110]⟩:BA),(⟨#[116,104,114,111,119]⟩:BA),(⟨#[116,114,121]⟩:BA),(⟨#[112,114,105,110,116]⟩:BA)]:List BA) (Pg r r r r r r r) r r (by decide) ⟨r,⟨r,⟨r,⟨r,⟨r,⟨r,⟨r,y⟩⟩⟩⟩⟩⟩⟩) ?_))))))))
 rintro _ Q ⟨v,rfl,d⟩
 refine s (lu kR r) (s (mi r) (n ?_))
 have H:=(d.vw 0 0 r r).bd
 obtain ⟨D,a,k⟩:=bs k
 refine nV (fun f w=>Has f [(0,Pt j)]∧Bx u w X G [O u.heap.size (ad v) 7 9 BA [[T (⟨#[118,97,114]⟩:BA)],[T (⟨#[105,102]⟩:BA)],[T (⟨#[119,104,105,108,101]⟩:BA)],[T (⟨#[114,101,116,117,114,110]⟩:BA)],[T (⟨#[116,104,114,111,119]⟩:BA)],[T (⟨#[116,114,121]⟩:BA)],[T (⟨#[112,114,105,110,116]⟩:BA)]],.box j 102 #[Z b i.l c,V i.a,V i.c,V i.e]] [.els [[T (⟨#[118,97,114]⟩:BA)],[T (⟨#[105,102]⟩:BA)],[T (⟨#[119,104,105,108,101]⟩:BA)],[T (⟨#[114,101,116,117,114,110]⟩:BA)],[T (⟨#[116,104,114,111,119]⟩:BA)],[T (⟨#[116,114,121]⟩:BA)],[T (⟨#[112,114,105,110,116]⟩:BA)]] ([(⟨#[118,97,114]⟩:BA),(⟨#[105,102]⟩:BA),(⟨#[119,104,105,108,101]⟩:BA),(⟨#[114,101,116,117,114,110]⟩:BA),(⟨#[116,104,114,111,119]⟩:BA),(⟨#[116,114,121]⟩:BA),(⟨#[112,114,105,110,116]⟩:BA)]:List BA),.l b c i.l]∧Ld.go ()=D) (fun R x=>?_) ?_
 ·refine oD (kK (fun a0 f w=>∃ (m:Nat),a0=([(⟨#[118,97,114]⟩:BA),(⟨#[105,102]⟩:BA),(⟨#[119,104,105,108,101]⟩:BA),(⟨#[114,101,116,117,114,110]⟩:BA),(⟨#[116,104,114,111,119]⟩:BA),(⟨#[116,114,121]⟩:BA),(⟨#[112,114,105,110,116]⟩:BA)]:List BA).length - m∧m≤([(⟨#[118,97,114]⟩:BA),(⟨#[105,102]⟩:BA),(⟨#[119,104,105,108,101]⟩:BA),(⟨#[114,101,116,117,114,110]⟩:BA),(⟨#[116,104,114,111,119]⟩:BA),(⟨#[116,114,121]⟩:BA),(⟨#[112,114,105,110,116]⟩:BA)]:List BA).length∧Has f [(7,V (m:Int)),(0,Pt j),(5,.slice (ad v) ([(⟨#[118,97,114]⟩:BA),(⟨#[105,102]⟩:BA),(⟨#[119,104,105,108,101]⟩:BA),(⟨#[114,101,116,117,114,110]⟩:BA),(⟨#[116,104,114,111,119]⟩:BA),(⟨#[116,114,121]⟩:BA),(⟨#[112,114,105,110,116]⟩:BA)]:List BA).length 7),(6,V ((([(⟨#[118,97,114]⟩:BA),(⟨#[105,102]⟩:BA),(⟨#[119,104,105,108,101]⟩:BA),(⟨#[114,101,116,117,114,110]⟩:BA),(⟨#[116,104,114,111,119]⟩:BA),(⟨#[116,114,121]⟩:BA),(⟨#[112,114,105,110,116]⟩:BA)]:List BA).length:Nat):Int))]∧Bx u w X G [O u.heap.size (ad v) 7 9 BA [[T (⟨#[118,97,114]⟩:BA)],[T (⟨#[105,102]⟩:BA)],[T (⟨#[119,104,105,108,101]⟩:BA)],[T (⟨#[114,101,116,117,114,110]⟩:BA)],[T (⟨#[116,104,114,111,119]⟩:BA)],[T (⟨#[116,114,121]⟩:BA)],[T (⟨#[112,114,105,110,116]⟩:BA)]],.box j 102 #[Z b i.l c,V i.a,V i.c,V i.e]] [.els [[T (⟨#[118,97,114]⟩:BA)],[T (⟨#[105,102]⟩:BA)],[T (⟨#[119,104,105,108,101]⟩:BA)],[T (⟨#[114,101,116,117,114,110]⟩:BA)],[T (⟨#[116,104,114,111,119]⟩:BA)],[T (⟨#[116,114,121]⟩:BA)],[T (⟨#[112,114,105,110,116]⟩:BA)]] ([(⟨#[118,97,114]⟩:BA),(⟨#[105,102]⟩:BA),(⟨#[119,104,105,108,101]⟩:BA),(⟨#[114,101,116,117,114,110]⟩:BA),(⟨#[116,104,114,111,119]⟩:BA),(⟨#[116,114,121]⟩:BA),(⟨#[112,114,105,110,116]⟩:BA)]:List BA),.l b c i.l]∧pR fu i (([(⟨#[118,97,114]⟩:BA),(⟨#[105,102]⟩:BA),(⟨#[119,104,105,108,101]⟩:BA),(⟨#[114,101,116,117,114,110]⟩:BA),(⟨#[116,104,114,111,119]⟩:BA),(⟨#[116,114,121]⟩:BA),(⟨#[112,114,105,110,116]⟩:BA)]:List BA).drop m) m=some D) (([(⟨#[118,97,114]⟩:BA),(⟨#[105,102]⟩:BA),(⟨#[119,104,105,108,101]⟩:BA),(⟨#[114,101,116,117,114,110]⟩:BA),(⟨#[116,104,114,111,119]⟩:BA),(⟨#[116,114,121]⟩:BA),(⟨#[112,114,105,110,116]⟩:BA)]:List BA).length) ⟨0,r,Nat.zero_le _,⟨r,r,r,r,y⟩,d,a⟩ ?_)
  clear d a
  rintro a0 f w ⟨m,rfl,I,hf,d,a⟩ S z
  obtain ⟨Y,rfl⟩:=gP _ _ hf
  clear hf
  rcases Nat.lt_or_ge m ([(⟨#[118,97,114]⟩:BA),(⟨#[105,102]⟩:BA),(⟨#[119,104,105,108,101]⟩:BA),(⟨#[114,101,116,117,114,110]⟩:BA),(⟨#[116,104,114,111,119]⟩:BA),(⟨#[116,114,121]⟩:BA),(⟨#[112,114,105,110,116]⟩:BA)]:List BA).length with p | p
  ·obtain ⟨J,o⟩:=mF (l:=([(⟨#[118,97,114]⟩:BA),(⟨#[105,102]⟩:BA),(⟨#[119,104,105,108,101]⟩:BA),(⟨#[114,101,116,117,114,110]⟩:BA),(⟨#[116,104,114,111,119]⟩:BA),(⟨#[116,114,121]⟩:BA),(⟨#[112,114,105,110,116]⟩:BA)]:List BA)) p
   rw [mZ o,pR] at a
   refine q (g (s (uh r r (by omega)) (n (q (jK r (wk (q (oD (q (g (s (kV kR nW r r r (d.vw 0 0 r r) o) (s (jM tT r r ((uG (ds:=[T J]) (d.vw 0 0 r r) o (fun _ h=>h)) 0 _ r)) (s (mq r) (n (q (g (s (mp r) (s (kZ r) ?_))))))))))))))))))
   obtain ⟨E,K,a⟩:=bs a
   refine sc (ec uX r) (mU fu (d.pr [1] [0] [1] r) K) ?_
   rintro _ U ⟨rfl,A⟩
   replace d:=d.cn [1] [0] A
   refine n ?_
   rcases iv a with ⟨t,a⟩|⟨t,a⟩
   ·refine jK (cb t) (q (g (s (jZ r) (n (kS ?_)))))
    obtain rfl:=sm a
    replace k:=oi k
    obtain rfl:=sm k
    exact jB r (kW r) ⟨r,(d.ad [0] [2])⟩
   replace t:=nt t
   exact jD (cb t) (wk (g (s (nA r r (by omega) (by omega)) (s (mi r) (n (z (([(⟨#[118,97,114]⟩:BA),(⟨#[105,102]⟩:BA),(⟨#[119,104,105,108,101]⟩:BA),(⟨#[114,101,116,117,114,110]⟩:BA),(⟨#[116,104,114,111,119]⟩:BA),(⟨#[116,114,121]⟩:BA),(⟨#[112,114,105,110,116]⟩:BA)]:List BA).length - (m+1)) _ _ (by omega) ⟨m+1,r,by omega,⟨r,r,r,r,y⟩,(d.ad [1,0] [1,2]),a⟩))))))
  obtain rfl:m=([(⟨#[118,97,114]⟩:BA),(⟨#[105,102]⟩:BA),(⟨#[119,104,105,108,101]⟩:BA),(⟨#[114,101,116,117,114,110]⟩:BA),(⟨#[116,104,114,111,119]⟩:BA),(⟨#[116,114,121]⟩:BA),(⟨#[112,114,105,110,116]⟩:BA)]:List BA).length:=by omega
  rw [lZ,pR] at a
  exact q (g (s (uw r r (by omega)) (n (q (jD r (uJ (x _ _ ⟨⟨r,y⟩,d,sm a⟩)))))))
 clear d
 rintro f w ⟨hf,d,B⟩
 obtain ⟨Y,rfl⟩:=gP _ _ hf
 clear hf
 subst B
 replace k:=gi k
 refine q (g (s (mp r) ?_))
 obtain ⟨F,L,k⟩:=bs k
 refine sc (ec Dh r) (qR fu (d.pr [1] [0] [1] r) L) ?_
 rintro _ W ⟨rfl,A⟩
 replace d:=d.cn [1] [0] A
 refine s (jZ r) (n (kS ?_))
 obtain rfl:=sm k
 exact jB r (kW r) ⟨r,(d.ad [0] [2])⟩
abbrev mV:=fV→Int→Int→Option (jA × fV)
abbrev qh:=fV→Int→Option (jA × fV)
abbrev oQ:=fV→Int→Option (jA × fV)
def pJ (m:fV→Int→Int→Option (Ge × fV)):Prop:=∀ {k:World} {t:Nat→Prop} {h:fV} {o:Int} {p:Int} {i:Nat} {a:Option Addr} {b:Nat} {R:Ge × fV},Pre k t [.box i 102 #[Z a h.l b,V h.a,V h.c,V h.e]] [.l a b h.l]→m h o p=some R→
 Calls Try.prog 112 #[Pt i,V o,V p] k (qx fun v w=>jy R fun j c=>∃ (d:OA)(f:Nat),v=.agg #[V j.e,V j.c,V j.g,T j.b,T j.d,Z d j.a f]∧Bx k w t (lK [.box i 102 #[Z a h.l b,V h.a,V h.c,V h.e]]) [.box i 102 #[Z a c.l b,V c.a,V c.c,V c.e]] [.l d f j.a,.l a b c.l])
def wI (m:fV→Int→Option (Ge × fV)):Prop:=∀ {k:World} {p:Nat→Prop} {h:fV} {o:Int} {i:Nat} {a:Option Addr} {b:Nat} {R:Ge × fV},Pre k p [.box i 102 #[Z a h.l b,V h.a,V h.c,V h.e]] [.l a b h.l]→m h o=some R→
 Calls Try.prog 124 #[Pt i,V o] k (qx fun v w=>jy R fun j c=>∃ (d:OA)(f:Nat),v=.agg #[V j.e,V j.c,V j.g,T j.b,T j.d,Z d j.a f]∧Bx k w p (lK [.box i 102 #[Z a h.l b,V h.a,V h.c,V h.e]]) [.box i 102 #[Z a c.l b,V c.a,V c.c,V c.e]] [.l d f j.a,.l a b c.l])
def sQ (m:fV→Int→Option (Ge × fV)):Prop:=∀ {k:World} {p:Nat→Prop} {h:fV} {o:Int} {i:Nat} {a:Option Addr} {b:Nat} {R:Ge × fV},Pre k p [.box i 102 #[Z a h.l b,V h.a,V h.c,V h.e]] [.l a b h.l]→m h o=some R→
 Calls Try.prog 128 #[Pt i,V o] k (qx fun v w=>jy R fun j c=>∃ (d:OA)(f:Nat),v=.agg #[V j.e,V j.c,V j.g,T j.b,T j.d,Z d j.a f]∧Bx k w p (lK [.box i 102 #[Z a h.l b,V h.a,V h.c,V h.e]]) [.box i 102 #[Z a c.l b,V c.a,V c.c,V c.e]] [.l d f j.a,.l a b c.l])
def rJ (fu:Nat)(r_r03_expression:mV) (r_r03_unary:qh) (r_r03_target:oQ) (f:fV) (h:Int)(i:Int):Option (Ld (Int × Int × Int × BA × BA × List Ge × List kg × Int × Int × Int) (Ge × fV)):=
 if h=5 then
  (r_r03_unary f i).bind fun j=>
  jy j fun a c=>
  some (.go (a.e,a.c,a.g,a.b,a.d,a.a,c.l,c.a,c.c,c.e))
 else
  (r_r03_expression f (wr (h+1)) i).bind fun j=>
  jy j fun b d=>
  some (.go (b.e,b.c,b.g,b.b,b.d,b.a,d.l,d.a,d.c,d.e))
def oF (fu:Nat)(r_r03_expression:mV) (r_r03_unary:qh) (r_r03_target:oQ) (v:Int)(w:Int):Nat→Int→Int→Int→BA→BA→(List Ge)→(List kg)→Int→Int→Int→Option (Ld (Int × Int × Int × BA × BA × List Ge × List kg × Int × Int × Int) (Ge × fV))
 | 0,_,_,_,_,_,_,_,_,_,_=>none
 | x+1,c,d,f,h,i,j,k,m,o,a=>
 if a=0 then
  if v < 5 then
   (yK fu (⟨k,m,o,a⟩:fV)).bind fun z=>
   jy z fun u p=>
   if u≠v then
    some (.out ((⟨c,d,f,h,i,j⟩:Ge),(⟨k,m,o,a⟩:fV)))
   else
    (r_r03_expression (⟨k,(wr (m+1)),o,a⟩:fV) (wr (v+1)) w).bind fun z=>
    jy z fun t b=>
    if v=1 then
     some (.out ((⟨p,0,0,be,be,([(⟨c,d,f,h,i,j⟩:Ge),t]:List Ge)⟩:Ge),b))
    else
     oF fu r_r03_expression r_r03_unary r_r03_target v w x p 0 0 be be ([(⟨c,d,f,h,i,j⟩:Ge),t]:List Ge) b.l b.a b.c b.e
  else
   some (.go (c,d,f,h,i,j,k,m,o,a))
 else
  some (.go (c,d,f,h,i,j,k,m,o,a))
def rO (fu:Nat)(r_r03_expression:mV) (r_r03_unary:qh) (r_r03_target:oQ) (D:fV) (B:Int)(C:Int):Option (Ge × fV):=
 (rJ fu r_r03_expression r_r03_unary r_r03_target D B C).bind fun E=>E.el (fun E=>
 jy E fun c E=>jy E fun d E=>jy E fun e E=>jy E fun f E=>jy E fun h E=>jy E fun i E=>jy E fun j E=>jy E fun k E=>jy E fun l a=>
 (oF fu r_r03_expression r_r03_unary r_r03_target B C fu c d e f h i j k l a).bind fun E=>E.el (fun E=>
 jy E fun m E=>jy E fun p E=>jy E fun t E=>jy E fun u E=>jy E fun v E=>jy E fun w E=>jy E fun x E=>jy E fun z E=>jy E fun A b=>
 some ((⟨m,p,t,u,v,w⟩:Ge),(⟨x,z,A,b⟩:fV))
 ) (fun o=>some o)
 ) (fun o=>some o)
def qB (fu:Nat)(r_r03_expression:mV) (r_r03_unary:qh) (r_r03_target:oQ) (d:fV) (j:Int):List BA→Nat→Option (Ld (Unit) (Ge × fV))
 | [],_=>some (.go ())
 | h :: i,f=>
 (mg fu d 0 h).bind fun a=>
 if a=true then
  (r_r03_unary (⟨d.l,(wr (d.a+1)),d.c,d.e⟩:fV) (wr (j+1))).bind fun k=>
  jy k fun b c=>
  some (.out ((⟨(wr (4+(f:Int))),0,0,be,be,([b]:List Ge)⟩:Ge),c))
 else
  qB fu r_r03_expression r_r03_unary r_r03_target d j i (f+1)
def yO (fu:Nat)(r_r03_expression:mV) (r_r03_unary:qh) (r_r03_target:oQ) (a:fV) (t:Int):Option (Ge × fV):=
 if a.e≠0 then
  some ((⟨0,0,0,be,be,([]:List Ge)⟩:Ge),a)
 else
  (wE fu a).bind fun m=>
  if (!m)=true then
   (oP fu a 7).bind fun p=>
   some ((⟨0,0,0,be,be,([]:List Ge)⟩:Ge),p)
  else
   if 8 < t then
    (oP fu a 5).bind fun b=>
    some ((⟨0,0,0,be,be,([]:List Ge)⟩:Ge),b)
   else
    (qB fu r_r03_expression r_r03_unary r_r03_target a t ([(⟨#[45]⟩:BA),(⟨#[33]⟩:BA)]:List BA) 0).bind fun v=>v.el (fun _=>
    (oM fu a 0 2).bind fun c=>
    if c=true then
     (ix a.l (wr ((wr (a.a+1)) - 1))).bind fun u=>
     some ((⟨0,u.c,0,be,be,([]:List Ge)⟩:Ge),(⟨a.l,(wr (a.a+1)),a.c,a.e⟩:fV))
    else
     (mg fu a 0 (⟨#[40]⟩:BA)).bind fun d=>
     if d=true then
      (r_r03_expression (⟨a.l,(wr (a.a+1)),a.c,a.e⟩:fV) 1 (wr (t+1))).bind fun v=>
      jy v fun f h=>
      (lI fu h (⟨#[41]⟩:BA)).bind fun i=>
      some (f,i)
     else
      (r_r03_target a t).bind fun v=>
      jy v fun j k=>
      some (j,k)
    ) (fun o=>some o)
def vJ (fu:Nat)(r_r03_expression:mV) (r_r03_unary:qh) (r_r03_target:oQ) (b:BA) (a:fV):Option (Ld (Unit) (Ge × fV)):=
 if a.e=0 then
  (mg fu a 0 (⟨#[46]⟩:BA)).bind fun c=>
  if c=true then
   (oz fu (⟨a.l,(wr (a.a+1)),a.c,a.e⟩:fV)).bind fun h=>
   jy h fun d f=>
   some (.out ((⟨2,0,0,b,d,([]:List Ge)⟩:Ge),f))
  else
   some (.go ())
 else
  some (.go ())
def wu (fu:Nat)(r_r03_expression:mV) (r_r03_unary:qh) (r_r03_target:oQ) (i:fV) (j:Int):Option (Ge × fV):=
 (oz fu i).bind fun k=>
 jy k fun b a=>
 (vJ fu r_r03_expression r_r03_unary r_r03_target b a).bind fun k=>k.el (fun _=>
 if a.e=0 then
  (mg fu a 0 (⟨#[91]⟩:BA)).bind fun c=>
  if c=true then
   (r_r03_expression (⟨a.l,(wr (a.a+1)),a.c,a.e⟩:fV) 1 (wr (j+1))).bind fun k=>
   jy k fun d f=>
   (lI fu f (⟨#[93]⟩:BA)).bind fun h=>
   some ((⟨3,0,0,b,be,([d]:List Ge)⟩:Ge),h)
  else
   some ((⟨1,0,0,b,be,([]:List Ge)⟩:Ge),a)
 else
  some ((⟨1,0,0,b,be,([]:List Ge)⟩:Ge),a)
 ) (fun o=>some o)
def lG:Nat→(fV→Int→Int→Option (Ge × fV)) × (fV→Int→Option (Ge × fV)) × (fV→Int→Option (Ge × fV))
 | 0=>((fun _ _ _=>none),(fun _ _=>none),(fun _ _=>none))
 | fu+1=>(rO fu ((lG fu).1) ((lG fu).2.1) ((lG fu).2.2),yO fu ((lG fu).1) ((lG fu).2.1) ((lG fu).2.2),wu fu ((lG fu).1) ((lG fu).2.1) ((lG fu).2.2))
def lT (fu:Nat):=(lG fu).1
def yP (fu:Nat):=(lG fu).2.1
def sw (fu:Nat):=(lG fu).2.2
theorem CQ (fu:Nat)(r_r03_expression:mV) (r_r03_unary:qh) (r_r03_target:oQ) (H_r03_expression:pJ r_r03_expression) (H_r03_unary:wI r_r03_unary) (H_r03_target:sQ r_r03_target):pJ (rO fu r_r03_expression r_r03_unary r_r03_target):=by
 intro w0 b0 x0 x1 x2 a1 E F R hP z
 unfold rO at z
 have d:=hP.bx
 clear hP
 generalize hG:lK _=G at d ⊢
 refine cf Try.func112 r ?_
 refine lJ [(0,Pt a1),(1,V x1),(2,V x2)] ⟨r,r,r,y⟩ fun b3=>?_
 refine q (g (tF d (jW jS) fun w1 b1 d=>?_))
 refine n (q (g (tF d (jW jS) fun w2 b2 d=>?_)))
 refine n (q ?_)
 obtain ⟨Y3,J,z⟩:=bs z
 refine nV (fun f w=>∃ (a3:Int)(a4:Int)(a5:Int)(a6:BA) (a7:BA) (Y:List Ge) (S:OA)(U:Nat)(a0:List kg) (a8:Int)(a9:Int)(W:Int),Has f [(0,Pt a1),(1,V x1),(2,V x2),(6,Pt b1),(7,Pt b2)]∧Bx w0 w b0 G [.box b2 138 #[V a3,V a4,V a5,T a6,T a7,Z S Y U],.box b1 138 #[V 0,V 0,V 0,T be,T be,sn],.box a1 102 #[Z E a0 F,V a8,V a9,V W]] [.l S U Y,.l E F a0]∧Ld.go (a3,a4,a5,a6,a7,Y,a0,a8,a9,W)=Y3) (fun J3 ak=>?_) ?_
 ·unfold rJ at J
  refine q (g (s (mi r) (s (kF r r) (n ?_))))
  rcases iv J with ⟨h4,J⟩|⟨h4,J⟩
  ·refine jK (bt h4) (g (s (mp r) (s (mi r) ?_)))
   obtain ⟨v,aa,h5,J⟩:=lU J
   refine sc (ec O4 r) (H_r03_unary (d.pr [2] [0,1] [0] r) h5) ?_
   rintro _ w5 ⟨L,M,rfl,hK⟩
   replace d:=d.cn [2] [0,1] hK
   refine lq (nR d 1 [V v.e,V v.c,V v.g,T v.b,T v.d,Z L v.a M] r jS r r) fun w6 d=>?_
   refine n ?_
   exact ak _ _ ⟨v.e,v.c,v.g,v.b,v.d,v.a,L,M,aa.l,aa.a,aa.c,aa.e,⟨r,r,r,r,r,y⟩,(d.ad [1,2,0] [0,1]),sm J⟩
  refine jD (bf h4) (g (s (mp r) (s (mi r) (s (kE r r) (s (mi r) ?_)))))
  obtain ⟨x,ab,h7,J⟩:=lU J
  refine sc (ec AU r) (H_r03_expression (d.pr [2] [0,1] [0] r) h7) ?_
  rintro _ w7 ⟨N,Q,rfl,hK⟩
  replace d:=d.cn [2] [0,1] hK
  refine lq (nR d 1 [V x.e,V x.c,V x.g,T x.b,T x.d,Z N x.a Q] r jS r r) fun w8 d=>?_
  refine n ?_
  exact ak _ _ ⟨x.e,x.c,x.g,x.b,x.d,x.a,N,Q,ab.l,ab.a,ab.c,ab.e,⟨r,r,r,r,r,y⟩,(d.ad [1,2,0] [0,1]),sm J⟩
 clear d
 rintro f w ⟨a3,a4,a5,a6,a7,Y,S,U,a0,a8,a9,W,hf,d,au⟩
 obtain ⟨b3,rfl⟩:=gP _ _ hf
 clear hf
 subst au
 replace z:=gi z
 replace z:=mh (mh (mh z))
 refine q ?_
 obtain ⟨Y9,u,z⟩:=bs z
 refine nV (fun f w=>∃ (j:Int)(m:Int)(o:Int)(p:BA) (t:BA) (h:List Ge) (b:OA)(c:Nat)(D:List kg) (H:Int)(I:Int)(A:Int),Has f [(6,Pt b1),(7,Pt b2)]∧Bx w0 w b0 G [.box b2 138 #[V j,V m,V o,T p,T t,Z b h c],.box b1 138 #[V 0,V 0,V 0,T be,T be,sn],.box a1 102 #[Z E D F,V H,V I,V A]] [.l b c h,.l E F D]∧Ld.go (j,m,o,p,t,h,D,H,I,A)=Y9) (fun J9 al=>?_) ?_
 ·refine oD (kK (fun b4 f w=>∃ (j:Int)(m:Int)(o:Int)(p:BA) (t:BA) (h:List Ge) (b:OA)(c:Nat)(D:List kg) (H:Int)(I:Int)(A:Int),Has f [(0,Pt a1),(1,V x1),(2,V x2),(6,Pt b1),(7,Pt b2)]∧Bx w0 w b0 G [.box b2 138 #[V j,V m,V o,T p,T t,Z b h c],.box b1 138 #[V 0,V 0,V 0,T be,T be,sn],.box a1 102 #[Z E D F,V H,V I,V A]] [.l b c h,.l E F D]∧oF fu r_r03_expression r_r03_unary r_r03_target x1 x2 b4 j m o p t h D H I A=some Y9) fu ⟨a3,a4,a5,a6,a7,Y,S,U,a0,a8,a9,W,⟨r,r,r,r,r,y⟩,d,u⟩ ?_)
  clear d u
  rintro n9 f w ⟨j,m,o,p,t,h,b,c,D,H,I,A,hf,d,u⟩ K9 aw
  obtain ⟨b3,rfl⟩:=gP _ _ hf
  clear hf
  cases n9 with
  | zero=>exact nn u
  | succ n9=>
   rw [oF] at u
   refine q (q (g (s (mp r) (s (xn r) (s (qP r) (s (Bf r (d.bk 2 r) r) (s (kF r r) (s (kM r) ?_))))))))
   rcases iv u with ⟨ae,u⟩|⟨ae,u⟩
   ·rw [decide_eq_true ae]
    refine ko r (s (mi r) (ko r (s (pU r r) (s (kC r r) (n ?_)))))
    rcases iv u with ⟨af,u⟩|⟨af,u⟩
    ·refine jK (bt af) (wk (oD (q (g (s (mp r) ?_)))))
     obtain ⟨ax,K,ay,u⟩:=lU u
     refine sc (ec Vg r) (IW fu (d.pr [2] [0,1] [1] r) ay) ?_
     rintro _ aG ⟨rfl,hK⟩
     replace d:=d.cn [2] [0,1] hK
     refine s rQ (s (jX r r) (s (jX r r) (s (xi r) (s (xi r) (n (q (q (g (s (mi r) (s (mi r) (s (p8 r r) (n ?_))))))))))))
     rcases iv u with ⟨ag,u⟩|⟨ag,u⟩
     ·refine jK (bt ag) (q (g (s (mY [V j,V m,V o,T p,T t,Z b h c] mQ jS r (d.bk 1 r)) (lq (nR d 2 [V j,V m,V o,T p,T t,Z b h c] r jS r r) fun aH d=>?_))))
      refine n (kS ?_)
      obtain rfl:=sm u
      replace z:=oi z
      obtain rfl:=sm z
      refine jB r (tK r mQ r jS r (d.bk 2 r)) ?_
      exact mH (⟨b,c,r,(d.ad [0] [1,2])⟩)
     refine jD (bf ag) (wk (q (g (s (mp r) (s (xn r) (s (lW r) (s (l3 r (d.bk 0 r) r) (s (kE r r) (s (xn r) (s (lW r) (lq (t_n d 0 [V (wr (H+1))] r mK r r) fun aI d=>?_)))))))))))
     refine n (q (g (s (mp r) (s (mi r) (s (kE r r) (s (mi r) ?_))))))
     obtain ⟨a,X,az,u⟩:=lU u
     refine sc (ec AU r) (H_r03_expression (d.pr [0] [1,2] [2] r) az) ?_
     rintro _ aJ ⟨B,C,rfl,hK⟩
     replace d:=d.cn [0] [1,2] hK
     refine tF d (jW jS) fun aK aL d=>?_
     refine lq (nR d 0 [V a.e,V a.c,V a.g,T a.b,T a.d,Z B a.a C] r jS r r) fun aM d=>?_
     refine n (q (g (s (mi r) (s (mY [V j,V m,V o,T p,T t,Z b h c] mQ jS r (d.bk 2 r)) (s (mY [V a.e,V a.c,V a.g,T a.b,T a.d,Z B a.a C] mQ jS r (d.bk 0 r)) (nO (jL d [[V j,V m,V o,T p,T t,Z b h c],[V a.e,V a.c,V a.g,T a.b,T a.d,Z B a.a C]] ([(⟨j,m,o,p,t,h⟩:Ge),a]:List Ge) (vP r r) r r (by decide) ⟨(jA.inn ⟨b,c,r,(d.dl 3 r)⟩),⟨(jA.inn ⟨B,C,r,(d.dl 0 r)⟩),y⟩⟩) ?_))))))
     rintro _ aN ⟨a2,rfl,d⟩
     refine s (sO r r) (lq (nR d 3 [V K,V 0,V 0,T be,T be,.slice (ad a2) ([(⟨j,m,o,p,t,h⟩:Ge),a]:List Ge).length 2] r jS r r) fun aO d=>?_)
     refine n (q (g (s (mi r) (s (kF r r) (n ?_)))))
     rcases iv u with ⟨ah,u⟩|⟨ah,u⟩
     ·refine jK (bt ah) (q (g (s (mY [V K,V 0,V 0,T be,T be,.slice (ad a2) ([(⟨j,m,o,p,t,h⟩:Ge),a]:List Ge).length 2] mQ jS r (d.bk 3 r)) (lq (nR d 4 [V K,V 0,V 0,T be,T be,.slice (ad a2) ([(⟨j,m,o,p,t,h⟩:Ge),a]:List Ge).length 2] r jS r r) fun aP d=>?_))))
      refine n (kS ?_)
      replace d:=d.fz 0 0 r r
      obtain rfl:=sm u
      replace z:=oi z
      obtain rfl:=sm z
      refine jB r (tK r mQ r jS r (d.bk 3 r)) ?_
      exact mH (⟨(ad a2),2,r,(d.ad [1] [0,2])⟩)
     refine jD (bf ah) (wk ?_)
     replace d:=d.fz 0 0 r r
     exact aw n9 _ _ (Nat.lt_succ_self _) ⟨K,0,0,be,be,([(⟨j,m,o,p,t,h⟩:Ge),a]:List Ge),(ad a2),2,X.l,X.a,X.c,X.e,⟨r,r,r,r,r,y⟩,(d.ad [2,3,1] [0,2]),u⟩
    refine jD (bf af) (uJ ?_)
    exact al _ _ ⟨j,m,o,p,t,h,b,c,D,H,I,A,⟨r,r,y⟩,d,sm u⟩
   rw [decide_eq_false ae]
   refine jH r (jH r (s (jY r r) (n (jD r (uJ ?_)))))
   exact al _ _ ⟨j,m,o,p,t,h,b,c,D,H,I,A,⟨r,r,y⟩,d,sm u⟩
 clear d
 rintro f w ⟨j,m,o,p,t,h,b,c,D,H,I,A,hf,d,aA⟩
 obtain ⟨b3,rfl⟩:=gP _ _ hf
 clear hf
 subst aA
 replace z:=gi z
 replace z:=mh (mh (mh z))
 refine q (g (s (mY [V j,V m,V o,T p,T t,Z b h c] mQ jS r (d.bk 0 r)) (lq (nR d 1 [V j,V m,V o,T p,T t,Z b h c] r jS r r) fun aQ d=>?_)))
 refine n (kS ?_)
 obtain rfl:=sm z
 refine jB r (tK r mQ r jS r (d.bk 1 r)) ?_
 exact mH (⟨b,c,r,(d.arr [2] r)⟩)
theorem Jo (fu:Nat)(r_r03_expression:mV) (r_r03_unary:qh) (r_r03_target:oQ) (H_r03_expression:pJ r_r03_expression) (H_r03_unary:wI r_r03_unary) (H_r03_target:sQ r_r03_target):wI (yO fu r_r03_expression r_r03_unary r_r03_target):=by
 intro w0 b4 x x1 I u v R hP j
 unfold yO at j
 have a:=hP.bx
 clear hP
 generalize hG:lK _=G at a ⊢
 refine cf Try.func124 r (lJ [(0,Pt I),(1,V x1)] ⟨r,r,y⟩ fun b5=>q (g (tF a (jW jS) fun w1 b1 a=>n (q (q (g (s (mp r) (s (xn r) (s (qP r) (s (Bf r (a.bk 1 r) r) (s (p8 r r) (n ?_))))))))))))
 rcases iv j with ⟨h2,j⟩|⟨h2,j⟩
 ·refine jK (bt h2) (q (g (s LQ (lq (nR a 0 [V 0,V 0,V 0,T be,T be,sn] r jS r r) fun w3 a=>n (kS ?_)))))
  replace a:=a.kr (d:=.l none 0 ([]:List Ge)) nZ
  obtain rfl:=sm j
  exact jB r (tK r mQ r jS r (a.bk 0 r)) (mH (⟨none,0,r,(a.arr [1] r)⟩))
 refine jD (bf h2) (wk (q (q (g (s (mp r) ?_)))))
 obtain ⟨ar,h5,j⟩:=bs j
 refine sc (ec Wy r) (G8 fu (a.pr [1] [0] [0] r) h5) ?_
 rintro _ w5 ⟨rfl,E⟩
 replace a:=a.cn [1] [0] E
 refine s (zL r) (n ?_)
 rcases iv j with ⟨X,j⟩|⟨X,j⟩
 ·refine jK (cb X) (q (g (s (mp r) ?_)))
  obtain ⟨au,h7,j⟩:=bs j
  refine sc (ec Dq r) (qX fu (a.pr [0] [1] [1] r) h7) ?_
  rintro _ w7 ⟨rfl,E⟩
  replace a:=a.cn [0] [1] E
  refine n (q (g (s LQ (lq (nR a 1 [V 0,V 0,V 0,T be,T be,sn] r jS r r) fun w8 a=>n (kS ?_)))))
  replace a:=a.kr (d:=.l none 0 ([]:List Ge)) nZ
  obtain rfl:=sm j
  exact jB r (tK r mQ r jS r (a.bk 1 r)) (mH (⟨none,0,r,(a.ad [0] [0,1])⟩))
 replace X:=nt X
 refine jD (cb X) (wk (q (q (g (s (mi r) (s (uW r r) (n ?_)))))))
 rcases iv j with ⟨S,j⟩|⟨S,j⟩
 ·refine jK (bt S) (q (g (s (mp r) ?_)))
  obtain ⟨a8,a9,j⟩:=bs j
  refine sc (ec Dq r) (qX fu (a.pr [0] [1] [1] r) a9) ?_
  rintro _ az ⟨rfl,E⟩
  replace a:=a.cn [0] [1] E
  refine n (q (g (s LQ (lq (nR a 1 [V 0,V 0,V 0,T be,T be,sn] r jS r r) fun aA a=>n (kS ?_)))))
  replace a:=a.kr (d:=.l none 0 ([]:List Ge)) nZ
  obtain rfl:=sm j
  exact jB r (tK r mQ r jS r (a.bk 1 r)) (mH (⟨none,0,r,(a.ad [0] [0,1])⟩))
 refine jD (bf S) (wk (q (q (g (nO (jL a [[T (⟨#[45]⟩:BA)],[T (⟨#[33]⟩:BA)]] ([(⟨#[45]⟩:BA),(⟨#[33]⟩:BA)]:List BA) (vv r r) r r (by decide) ⟨r,⟨r,y⟩⟩) ?_)))))
 rintro _ aB ⟨U,rfl,a⟩
 refine s (lu kR r) (s (mi r) (n ?_))
 have av:=(a.vw 0 0 r r).bd
 obtain ⟨Y,c,j⟩:=bs j
 refine nV (fun f w=>Has f [(0,Pt I),(1,V x1),(4,Pt b1)]∧Bx w0 w b4 G [O w0.heap.size (ad U) 2 9 BA [[T (⟨#[45]⟩:BA)],[T (⟨#[33]⟩:BA)]],.box I 102 #[Z u x.l v,V x.a,V x.c,V x.e],.box b1 138 #[V 0,V 0,V 0,T be,T be,sn]] [.els [[T (⟨#[45]⟩:BA)],[T (⟨#[33]⟩:BA)]] ([(⟨#[45]⟩:BA),(⟨#[33]⟩:BA)]:List BA),.l u v x.l]∧Ld.go ()=Y) (fun aC a0=>?_) ?_
 ·refine oD (kK (fun b6 f w=>∃ (B:Nat),b6=([(⟨#[45]⟩:BA),(⟨#[33]⟩:BA)]:List BA).length - B∧B≤([(⟨#[45]⟩:BA),(⟨#[33]⟩:BA)]:List BA).length∧Has f [(27,V (B:Int)),(0,Pt I),(1,V x1),(4,Pt b1),(25,.slice (ad U) ([(⟨#[45]⟩:BA),(⟨#[33]⟩:BA)]:List BA).length 2),(26,V ((([(⟨#[45]⟩:BA),(⟨#[33]⟩:BA)]:List BA).length:Nat):Int))]∧Bx w0 w b4 G [O w0.heap.size (ad U) 2 9 BA [[T (⟨#[45]⟩:BA)],[T (⟨#[33]⟩:BA)]],.box I 102 #[Z u x.l v,V x.a,V x.c,V x.e],.box b1 138 #[V 0,V 0,V 0,T be,T be,sn]] [.els [[T (⟨#[45]⟩:BA)],[T (⟨#[33]⟩:BA)]] ([(⟨#[45]⟩:BA),(⟨#[33]⟩:BA)]:List BA),.l u v x.l]∧qB fu r_r03_expression r_r03_unary r_r03_target x x1 (([(⟨#[45]⟩:BA),(⟨#[33]⟩:BA)]:List BA).drop B) B=some Y) (([(⟨#[45]⟩:BA),(⟨#[33]⟩:BA)]:List BA).length) ⟨0,r,Nat.zero_le _,⟨r,r,r,r,r,r,y⟩,(a.dp [0,2]),c⟩ ?_)
  clear a c
  rintro b6 f w ⟨B,rfl,aw,hf,a,c⟩ aD a1
  obtain ⟨b5,rfl⟩:=gP _ _ hf
  clear hf
  rcases Nat.lt_or_ge B ([(⟨#[45]⟩:BA),(⟨#[33]⟩:BA)]:List BA).length with Q | Q
  ·obtain ⟨aa,K⟩:=mF (l:=([(⟨#[45]⟩:BA),(⟨#[33]⟩:BA)]:List BA)) Q
   rw [mZ K,qB] at c
   refine q (g (s (uh r r (by omega)) (n (q (jK r (wk (q (oD (q (g (s (mi r) (s (kV kR nW r r r (a.vw 0 0 r r) K) (s (jM tT r r ((uG (ds:=[T aa]) (a.vw 0 0 r r) K (fun _ h=>h)) 0 _ r)) (s (xi r) (s (mq r) (n (q (g (s (mp r) (s (kZ r) ?_))))))))))))))))))))
   obtain ⟨ab,ac,c⟩:=bs c
   refine sc (ec uX r) (mU fu (a.pr [1] [0,2] [1] r) ac) ?_
   rintro _ aE ⟨rfl,E⟩
   replace a:=a.cn [1] [0,2] E
   refine n ?_
   rcases iv c with ⟨L,c⟩|⟨L,c⟩
   ·refine jK (cb L) (q (g (s (mp r) (s (xn r) (s (lW r) (s (l3 r (a.bk 0 r) r) (s (kE r r) (s (xn r) (s (lW r) (lq (t_n a 0 [V (wr (x.a+1))] r mK r r) fun aF a=>n (q (g (s (mi r) (s (kE r r) (s (mp r) (s (mi r) (s (kE r r) ?_)))))))))))))))))
    obtain ⟨t,ae,af,c⟩:=lU c
    refine sc (ec O4 r) (H_r03_unary (a.pr [0] [1,2] [2] r) af) ?_
    rintro _ aG ⟨C,D,rfl,E⟩
    replace a:=a.cn [0] [1,2] E
    refine nO (jL a [[V t.e,V t.c,V t.g,T t.b,T t.d,Z C t.a D]] ([t]:List Ge) (kT r) r r (by decide) ⟨(jA.inn ⟨C,D,r,(a.dl 0 r)⟩),y⟩) ?_
    rintro _ aH ⟨W,rfl,a⟩
    refine s (sO r r) (lq (nR a 3 [V (wr (4+(B:Int))),V 0,V 0,T be,T be,.slice (ad W) ([t]:List Ge).length 1] r jS r r) fun aI a=>n (kS ?_))
    replace a:=a.fz 0 0 r r
    obtain rfl:=sm c
    replace j:=oi j
    obtain rfl:=sm j
    exact jB r (tK r mQ r jS r (a.bk 2 r)) (mH (⟨(ad W),1,r,(a.ad [0] [0,2])⟩))
   replace L:=nt L
   exact jD (cb L) (wk (g (s (nA r r (by omega) (by omega)) (s (mi r) (n (a1 (([(⟨#[45]⟩:BA),(⟨#[33]⟩:BA)]:List BA).length - (B+1)) _ _ (by omega) ⟨B+1,r,by omega,⟨r,r,r,r,r,r,y⟩,(a.ad [1,0,2] [1,2]),c⟩))))))
  obtain rfl:B=([(⟨#[45]⟩:BA),(⟨#[33]⟩:BA)]:List BA).length:=by omega
  rw [lZ,qB] at c
  exact q (g (s (uw r r (by omega)) (n (q (jD r (uJ (a0 _ _ ⟨⟨r,r,r,y⟩,a,sm c⟩)))))))
 clear a
 rintro f w ⟨hf,a,a2⟩
 obtain ⟨b5,rfl⟩:=gP _ _ hf
 clear hf
 subst a2
 replace j:=gi j
 refine q (q (g (s (mp r) ?_)))
 obtain ⟨ag,ah,j⟩:=bs j
 refine sc (ec Dh r) (qR fu (a.pr [1] [0,2] [1] r) ah) ?_
 rintro _ aJ ⟨rfl,E⟩
 replace a:=a.cn [1] [0,2] E
 refine n ?_
 rcases iv j with ⟨M,j⟩|⟨M,j⟩
 ·refine jK (cb M) (q (g (s (mp r) (s (xn r) (s (lW r) (s (l3 r (a.bk 0 r) r) (s (kE r r) (s (xn r) (s (lW r) (lq (t_n a 0 [V (wr (x.a+1))] r mK r r) fun aK a=>n (q (oK a [0] [2] [] (by kernel_rfl) ?_))))))))))))
  replace a:=a.drew
  have F:=(a.ad [0] [2])
  refine pF 0 r (mp r) F (pF 1 r (xn r) F (pF 2 r (yY r) F (uF 3 r (fun hS=>OQ r (hS.bk 0 r) r) F (pF 4 r (mp r) F (pF 5 r (xn r) F (pF 6 r (lW r) F (uF 7 r (fun hS=>l3 r (hS.bk 0 r) r) F (pF 8 r (xJ r r) F ?_))))))))
  obtain ⟨J,H,j⟩:=bs j
  obtain ⟨aL,a3,H⟩:=kH H
  refine pF 9 r (kV Ct pG r r a3 (a.dl 2 r) H) F (pF 10 r (QD r) F (tU 11 r (fun _ hS=>jM EK r r ((uG (ds:=[V J.e,V J.f,T J.a,V J.c]) (hS.dl 0 r) H (fun _ h=>h)) 3 _ r)) (sF F) (pF 12 r (Hu r r) F (hO 13 (os r r (nR a 2 [V 0,V J.c,V 0,T be,T be,sn] r jS r r) fun aM a=>?_)))))
  have F:=(a.ad [0] [2])
  refine ⟨(sF F),(hD (kS ?_))⟩
  replace a:=a.kr (d:=.l none 0 ([]:List Ge)) nZ
  obtain rfl:=sm j
  exact jB r (tK r mQ r jS r (a.bk 2 r)) (mH (⟨none,0,r,(a.ad [0] [0,3])⟩))
 replace M:=nt M
 refine jD (cb M) (wk (q (q (g (s (mp r) ?_)))))
 obtain ⟨ai,aj,j⟩:=bs j
 refine sc (ec uX r) (mU fu (a.pr [0] [1,2] [2] r) aj) ?_
 rintro _ aN ⟨rfl,E⟩
 replace a:=a.cn [0] [1,2] E
 refine n ?_
 rcases iv j with ⟨N,j⟩|⟨N,j⟩
 ·refine jK (cb N) (q (g (s (mp r) (s (xn r) (s (lW r) (s (l3 r (a.bk 0 r) r) (s (kE r r) (s (xn r) (s (lW r) (lq (t_n a 0 [V (wr (x.a+1))] r mK r r) fun aO a=>n (q (g (s (mp r) (s (mi r) (s (kE r r) ?_)))))))))))))))
  obtain ⟨b,ak,al,j⟩:=lU j
  refine sc (ec AU r) (H_r03_expression (a.pr [0] [1,2] [3] r) al) ?_
  rintro _ aP ⟨o,p,rfl,E⟩
  replace a:=a.cn [0] [1,2] E
  refine tF a (jW jS) fun aQ aR a=>lq (nR a 0 [V b.e,V b.c,V b.g,T b.b,T b.d,Z o b.a p] r jS r r) fun aS a=>n (q (g (s (mp r) ?_)))
  obtain ⟨am,an,j⟩:=bs j
  refine sc (ec vW r) (lQ fu (a.pr [1] [0,2,3] [1] r) an) ?_
  rintro _ aT ⟨rfl,E⟩
  replace a:=a.cn [1] [0,2,3] E
  refine n (q (g (s (mY [V b.e,V b.c,V b.g,T b.b,T b.d,Z o b.a p] mQ jS r (a.bk 1 r)) (lq (nR a 3 [V b.e,V b.c,V b.g,T b.b,T b.d,Z o b.a p] r jS r r) fun aU a=>n (kS ?_)))))
  obtain rfl:=sm j
  exact jB r (tK r mQ r jS r (a.bk 3 r)) (mH (⟨o,p,r,(a.ad [0] [1,0])⟩))
 replace N:=nt N
 refine jD (cb N) (wk (q (g (s (mp r) (s (mi r) ?_)))))
 obtain ⟨m,ao,ap,j⟩:=lU j
 refine sc (ec QG r) (H_r03_target (a.pr [0] [1,2] [3] r) ap) ?_
 rintro _ aV ⟨z,A,rfl,E⟩
 replace a:=a.cn [0] [1,2] E
 refine lq (nR a 2 [V m.e,V m.c,V m.g,T m.b,T m.d,Z z m.a A] r jS r r) fun aW a=>n (kS ?_)
 obtain rfl:=sm j
 exact jB r (tK r mQ r jS r (a.bk 2 r)) (mH (⟨z,A,r,(a.ad [0] [0,1])⟩))
theorem GV (fu:Nat)(r_r03_expression:mV) (r_r03_unary:qh) (r_r03_target:oQ) (H_r03_expression:pJ r_r03_expression) (H_r03_unary:wI r_r03_unary) (H_r03_target:sQ r_r03_target):sQ (wu fu r_r03_expression r_r03_unary r_r03_target):=by
 intro w0 ap F S z t u R U o
 unfold wu at o
 have b:=U.bx
 clear U
 generalize hG:lK _=G at b ⊢
 refine cf Try.func128 r (lJ [(0,Pt z),(1,V S)] ⟨r,r,y⟩ fun aq=>q (g (tF b (jW jS) fun w1 W b=>n (q (g (s (mp r) ?_))))))
 obtain ⟨p,c,h2,o⟩:=lU o
 refine sc (ec BS r) (qd fu (b.pr [1] [0] [0] r) h2) ?_
 rintro _ w2 ⟨rfl,v⟩
 replace b:=b.cn [1] [0] v
 refine s (mq r) (n (q ?_))
 obtain ⟨Y3,m,o⟩:=bs o
 refine nV (fun f w=>Has f [(0,Pt z),(1,V S),(4,Pt W),(5,T p)]∧Bx w0 w ap G [.box z 102 #[Z t c.l u,V c.a,V c.c,V c.e],.box W 138 #[V 0,V 0,V 0,T be,T be,sn]] [.l t u c.l]∧Ld.go ()=Y3) (fun J3 D=>?_) ?_
 ·unfold vJ at m
  refine q (g (s (mp r) (s (xn r) (s (qP r) (s (Bf r (b.bk 0 r) r) (s (kF r r) (s (kM r) ?_)))))))
  rcases iv m with ⟨H,m⟩|⟨H,m⟩
  ·rw [decide_eq_true H]
   refine ko r (s (mp r) ?_)
   obtain ⟨X,h5,m⟩:=bs m
   refine ko r (sc (ec uX r) (mU fu (b.pr [0] [1] [0] r) h5) ?_)
   rintro _ w5 ⟨rfl,v⟩
   replace b:=b.cn [0] [1] v
   refine s (kC r r) (n ?_)
   rcases iv m with ⟨E,m⟩|⟨E,m⟩
   ·refine jK (cb E) (q (g (s (mp r) (s (xn r) (s (lW r) (s (l3 r (b.bk 0 r) r) (s (kE r r) (s (xn r) (s (lW r) (lq (t_n b 0 [V (wr (c.a+1))] r mK r r) fun w7 b=>n (q (g (s (kZ r) (s (mp r) ?_))))))))))))))
    obtain ⟨A,Y,h8,m⟩:=lU m
    refine sc (ec BS r) (qd fu (b.pr [0] [1] [1] r) h8) ?_
    rintro _ w8 ⟨rfl,v⟩
    replace b:=b.cn [0] [1] v
    refine s (tZ r r r) (lq (nR b 1 [V 2,V 0,V 0,T p,T A,sn] r jS r r) fun w9 b=>n (kS ?_))
    replace b:=b.kr (d:=.l none 0 ([]:List Ge)) nZ
    obtain rfl:=sm m
    replace o:=oi o
    obtain rfl:=sm o
    exact jB r (tK r mQ r jS r (b.bk 1 r)) (mH (⟨none,0,r,(b.ad [0] [0,1])⟩))
   replace E:=nt E
   exact jD (cb E) (wk (D _ _ ⟨⟨r,r,r,r,y⟩,(b.dp [1]),sm m⟩))
  rw [decide_eq_false H]
  exact jH r (jH r (s (jY r r) (n (jD r (wk (D _ _ ⟨⟨r,r,r,r,y⟩,(b.dp [0]),sm m⟩))))))
 clear b
 rintro f w ⟨hf,b,I⟩
 obtain ⟨aq,rfl⟩:=gP _ _ hf
 clear hf
 subst I
 replace o:=gi o
 refine q (q (g (s (mp r) (s (xn r) (s (qP r) (s (Bf r (b.bk 0 r) r) (s (kF r r) (s (kM r) ?_))))))))
 rcases iv o with ⟨B,o⟩|⟨B,o⟩
 ·rw [decide_eq_true B]
  refine ko r (s (mp r) ?_)
  obtain ⟨J,K,o⟩:=bs o
  refine ko r (sc (ec uX r) (mU fu (b.pr [0] [1] [0] r) K) ?_)
  rintro _ a5 ⟨rfl,v⟩
  replace b:=b.cn [0] [1] v
  refine s (kC r r) (n ?_)
  rcases iv o with ⟨x,o⟩|⟨x,o⟩
  ·refine jK (cb x) (q (g (s (mp r) (s (xn r) (s (lW r) (s (l3 r (b.bk 0 r) r) (s (kE r r) (s (xn r) (s (lW r) (lq (t_n b 0 [V (wr (c.a+1))] r mK r r) fun a6 b=>n (q (g (s (mp r) (s (mi r) (s (kE r r) ?_)))))))))))))))
   obtain ⟨a,L,M,o⟩:=lU o
   refine sc (ec AU r) (H_r03_expression (b.pr [0] [1] [1] r) M) ?_
   rintro _ a7 ⟨h,j,rfl,v⟩
   replace b:=b.cn [0] [1] v
   refine tF b (jW jS) fun a8 a9 b=>lq (nR b 0 [V a.e,V a.c,V a.g,T a.b,T a.d,Z h a.a j] r jS r r) fun aa b=>n (q (g (s (mp r) ?_)))
   obtain ⟨N,Q,o⟩:=bs o
   refine sc (ec vW r) (lQ fu (b.pr [1] [0,2] [1] r) Q) ?_
   rintro _ ab ⟨rfl,v⟩
   replace b:=b.cn [1] [0,2] v
   refine n (q (g (s (kZ r) (s (mY [V a.e,V a.c,V a.g,T a.b,T a.d,Z h a.a j] mQ jS r (b.bk 1 r)) (nO (jL b [[V a.e,V a.c,V a.g,T a.b,T a.d,Z h a.a j]] ([a]:List Ge) (kT r) r r (by decide) ⟨(jA.inn ⟨h,j,r,(b.dl 1 r)⟩),y⟩) ?_)))))
   rintro _ ac ⟨C,rfl,b⟩
   refine s (Br r r r) (lq (nR b 3 [V 3,V 0,V 0,T p,T be,.slice (ad C) ([a]:List Ge).length 1] r jS r r) fun ae b=>n (kS ?_))
   replace b:=b.fz 0 0 r r
   obtain rfl:=sm o
   exact jB r (tK r mQ r jS r (b.bk 2 r)) (mH (⟨(ad C),1,r,(b.ad [0] [0,1])⟩))
  replace x:=nt x
  refine jD (cb x) (wk (q (g (s (kZ r) (s (DT r r) (lq (nR b 1 [V 1,V 0,V 0,T p,T be,sn] r jS r r) fun af b=>n (kS ?_)))))))
  replace b:=b.kr (d:=.l none 0 ([]:List Ge)) nZ
  obtain rfl:=sm o
  exact jB r (tK r mQ r jS r (b.bk 1 r)) (mH (⟨none,0,r,(b.ad [0] [0,2])⟩))
 rw [decide_eq_false B]
 refine jH r (jH r (s (jY r r) (n (jD r (wk (q (g (s (kZ r) (s (DT r r) (lq (nR b 1 [V 1,V 0,V 0,T p,T be,sn] r jS r r) fun ag b=>n (kS ?_)))))))))))
 replace b:=b.kr (d:=.l none 0 ([]:List Ge)) nZ
 obtain rfl:=sm o
 exact jB r (tK r mQ r jS r (b.bk 1 r)) (mH (⟨none,0,r,(b.arr [0] r)⟩))
theorem zq (fu:Nat):pJ (lT fu)∧wI (yP fu)∧sQ (sw fu):=by
 induction fu with
 | zero=>exact ⟨by intro a b;intros;exact nn (by assumption),by intro a b;intros;exact nn (by assumption),by intro a b;intros;exact nn (by assumption)⟩
 | succ fu ih=>exact ⟨CQ fu (lT fu) (yP fu) (sw fu) ih.1 ih.2.1 ih.2.2,Jo fu (lT fu) (yP fu) (sw fu) ih.1 ih.2.1 ih.2.2,GV fu (lT fu) (yP fu) (sw fu) ih.1 ih.2.1 ih.2.2⟩
theorem qY (fu:Nat):pJ (lT fu):=(zq fu).1
theorem G7 (fu:Nat):sQ (sw fu):=(zq fu).2.2
def Dz (m:fV→Option ((List Ge) × fV)):Prop:=∀ {k:World} {p:Nat→Prop} {i:fV} {j:Nat} {a:Option Addr} {b:Nat} {R:(List Ge) × fV},Pre k p [.box j 102 #[Z a i.l b,V i.a,V i.c,V i.e]] [.l a b i.l]→m i=some R→
 Calls Try.prog 127 #[Pt j] k (qx fun v w=>jy R fun o c=>∃ (d:OA)(f:Nat)(h:LV),v=Z d o f∧Bx k w p (lK [.box j 102 #[Z a i.l b,V i.a,V i.c,V i.e]]) [O k.heap.size d f 138 Ge h,.box j 102 #[Z a c.l b,V c.a,V c.c,V c.e]] [.els h o,.l a b c.l])
def oO (fu:Nat):Nat→(List kg)→Int→Int→Int→(List Ge)→Option (Ld (List kg × Int × Int × Int × List Ge) ((List Ge) × fV))
 | 0,_,_,_,_,_=>none
 | k+1,b,c,d,a,h=>
 if a=0 then
  (mg fu (⟨b,c,d,a⟩:fV) 0 (⟨#[44]⟩:BA)).bind fun i=>
  if i=true then
   (lT fu (⟨b,(wr (c+1)),d,a⟩:fV) 1 0).bind fun o=>
   jy o fun j f=>
   (app h ([j]:List Ge)).bind fun m=>
   oO fu k f.l f.a f.c f.e m
  else
   some (.go (b,c,d,a,h))
 else
  some (.go (b,c,d,a,h))
def rZ (fu:Nat)(a:fV):Option (Ld (List Ge × List kg × Int × Int × Int) ((List Ge) × fV)):=
 if a.e=0 then
  (mg fu a 0 (⟨#[41]⟩:BA)).bind fun j=>
  if (!j)=true then
   (lT fu a 1 0).bind fun p=>
   jy p fun k b=>
   (app ([]:List Ge) ([k]:List Ge)).bind fun m=>
   (oO fu fu b.l b.a b.c b.e m).bind fun p=>p.el (fun p=>
   jy p fun c p=>jy p fun d p=>jy p fun f p=>jy p fun h i=>
   some (.go (i,c,d,f,h))
   ) (fun o=>some (.out o))
  else
   some (.go (([]:List Ge),a.l,a.a,a.c,a.e))
 else
  some (.go (([]:List Ge),a.l,a.a,a.c,a.e))
def sK (fu:Nat)(i:fV):Option ((List Ge) × fV):=
 (lI fu i (⟨#[40]⟩:BA)).bind fun b=>
 (rZ fu b).bind fun j=>j.el (fun j=>
 jy j fun c j=>jy j fun d j=>jy j fun e j=>jy j fun f h=>
 (lI fu (⟨d,e,f,h⟩:fV) (⟨#[41]⟩:BA)).bind fun a=>
 some (c,a)
 ) (fun o=>some o)
theorem DX (fu:Nat):Dz (sK fu):=by
 intro w0 aR x0 K v x R hP J
 unfold sK at J
 have c:=hP.bx
 clear hP
 generalize hG:lK _=G at c ⊢
 refine cf Try.func127 r (lJ [(0,Pt K)] ⟨r,y⟩ fun aS=>q (g (s (mO r) (n (q (g (s (mO r) (n (q (g (s (mp r) ?_)))))))))))
 obtain ⟨A,h1,J⟩:=bs J
 refine sc (ec vW r) (lQ fu (c.pr [0] [] [0] r) h1) ?_
 rintro _ w1 ⟨rfl,U⟩
 replace c:=c.cn [0] [] U
 refine n (q ?_)
 replace c:=c.BU Ge 138
 obtain ⟨Y3,b,J⟩:=bs J
 refine nV (fun f w=>∃ (N:List Ge) (E:OA)(F:Nat)(H:LV)(Q:List kg) (W:Int)(X:Int)(Y:Int),Has f [(0,Pt K),(3,Z E N F)]∧Bx w0 w aR G [O w0.heap.size E F 138 Ge H,.box K 102 #[Z v Q x,V W,V X,V Y]] [.l v x Q,.els H N]∧Ld.go (N,Q,W,X,Y)=Y3) (fun J3 a2=>?_) ?_
 ·unfold rZ at b
  refine q (g (s (mp r) (s (xn r) (s (qP r) (s (Bf r (c.bk 1 r) r) (s (kF r r) (s (kM r) ?_)))))))
  rcases iv b with ⟨h4,b⟩|⟨h4,b⟩
  ·rw [decide_eq_true h4]
   refine ko r (s (mp r) ?_)
   obtain ⟨aq,h5,b⟩:=bs b
   refine ko r (sc (ec uX r) (mU fu (c.pr [1] [0] [1] r) h5) ?_)
   rintro _ w5 ⟨rfl,U⟩
   replace c:=c.cn [1] [0] U
   refine ko r (s (zL r) (s (kC r r) (n ?_)))
   rcases iv b with ⟨h6,b⟩|⟨h6,b⟩
   ·refine jK (cb h6) (q (g (s (l6 r) (s (mp r) ?_))))
    obtain ⟨B,S,h7,b⟩:=lU b
    refine sc (ec AU r) (qY fu (c.pr [0] [1] [2] r) h7) ?_
    rintro _ w7 ⟨L,M,rfl,U⟩
    replace c:=c.cn [0] [1] U
    refine nO (jL c [[V B.e,V B.c,V B.g,T B.b,T B.d,Z L B.a M]] ([B]:List Ge) (kT r) r r (by decide) ⟨(jA.inn ⟨L,M,r,(c.dl 0 r)⟩),y⟩) ?_
    rintro _ w8 ⟨b8,rfl,c⟩
    obtain ⟨r9,ae,b⟩:=bs b
    refine nO (kN c 2 4 r r tL jS r (by decide) (by decide) (Nat.le_refl _) r r (c.zQ 0 0 r r) ae) ?_
    rintro _ w9 ⟨A9,C9,Q9,rfl,c⟩
    refine s (mO r) (n ?_)
    obtain ⟨a7,a,b⟩:=bs b
    refine nV (fun f w=>∃ (d:List kg) (o:Int)(t:Int)(u:Int)(p:List Ge) (h:OA)(j:Nat)(m:LV),Has f [(0,Pt K),(3,Z h p j)]∧Bx w0 w aR G [.box K 102 #[Z v d x,V o,V t,V u],O w0.heap.size h j 138 Ge m] [.l v x d,.els m p]∧Ld.go (d,o,t,u,p)=a7) (fun aB a1=>?_) ?_
    ·refine oD (kK (fun aT f w=>∃ (d:List kg) (o:Int)(t:Int)(u:Int)(p:List Ge) (h:OA)(j:Nat)(m:LV),Has f [(0,Pt K),(3,Z h p j)]∧Bx w0 w aR G [.box K 102 #[Z v d x,V o,V t,V u],O w0.heap.size h j 138 Ge m] [.l v x d,.els m p]∧oO fu aT d o t u p=some a7) fu ⟨S.l,S.a,S.c,S.e,r9,A9,C9,Q9,⟨r,r,y⟩,(c.ad [1,2] [2,4]),a⟩ ?_)
     clear c a
     rintro a3 f w ⟨d,o,t,u,p,h,j,m,hf,c,a⟩ aC a8
     obtain ⟨aS,rfl⟩:=gP _ _ hf
     clear hf
     cases a3 with
     | zero=>exact nn a
     | succ a3=>
      rw [oO] at a
      refine q (q (g (s (mp r) (s (xn r) (s (qP r) (s (Bf r (c.bk 0 r) r) (s (kF r r) (s (kM r) ?_))))))))
      rcases iv a with ⟨a4,a⟩|⟨a4,a⟩
      ·rw [decide_eq_true a4]
       refine ko r (s (mp r) ?_)
       obtain ⟨af,ag,a⟩:=bs a
       refine ko r (sc (ec uX r) (mU fu (c.pr [0] [1] [0] r) ag) ?_)
       rintro _ aD ⟨rfl,U⟩
       replace c:=c.cn [0] [1] U
       refine s (kC r r) (n ?_)
       rcases iv a with ⟨a0,a⟩|⟨a0,a⟩
       ·refine jK (cb a0) (wk (oD (q (g (s (mp r) (s (xn r) (s (lW r) (s (l3 r (c.bk 0 r) r) (s (kE r r) (s (xn r) (s (lW r) (lq (t_n c 0 [V (wr (o+1))] r mK r r) fun aE c=>n (g (s (l6 r) (s (mp r) ?_)))))))))))))))
        obtain ⟨z,I,ah,a⟩:=lU a
        refine sc (ec AU r) (qY fu (c.pr [0] [1] [1] r) ah) ?_
        rintro _ aF ⟨C,D,rfl,U⟩
        replace c:=c.cn [0] [1] U
        refine nO (jL c [[V z.e,V z.c,V z.g,T z.b,T z.d,Z C z.a D]] ([z]:List Ge) (kT r) r r (by decide) ⟨(jA.inn ⟨C,D,r,(c.dl 0 r)⟩),y⟩) ?_
        rintro _ aG ⟨aH,rfl,c⟩
        obtain ⟨ai,a9,a⟩:=bs a
        refine nO (kN c 2 5 r r tL jS r (by decide) (by decide) (Nat.le_refl _) r r (c.zQ 0 0 r r) a9) ?_
        rintro _ aI ⟨aj,ak,al,rfl,c⟩
        exact s (mO r) (n (a8 a3 _ _ (Nat.lt_succ_self _) ⟨I.l,I.a,I.c,I.e,ai,aj,ak,al,⟨r,r,y⟩,(c.ad [1,2] [2,5]),a⟩))
       replace a0:=nt a0
       exact jD (cb a0) (uJ (a1 _ _ ⟨d,o,t,u,p,h,j,m,⟨r,r,y⟩,(c.dp [1,2]),sm a⟩))
      rw [decide_eq_false a4]
      exact jH r (jH r (s (jY r r) (n (jD r (uJ (a1 _ _ ⟨d,o,t,u,p,h,j,m,⟨r,r,y⟩,c,sm a⟩))))))
    clear c
    rintro f w ⟨d,o,t,u,p,h,j,m,hf,c,aa⟩
    obtain ⟨aS,rfl⟩:=gP _ _ hf
    clear hf
    subst aa
    replace b:=gi b
    replace b:=pi (mh b)
    exact a2 _ _ ⟨p,h,j,m,d,o,t,u,⟨r,r,y⟩,(c.arr [1,0] r),sm b⟩
   replace h6:=nt h6
   exact jD (cb h6) (wk (a2 _ _ ⟨([]:List Ge),none,0,[],A.l,A.a,A.c,A.e,⟨r,r,y⟩,(c.ad [1,0] [2,1]),sm b⟩))
  rw [decide_eq_false h4]
  exact jH r (jH r (jH r (s (jY r r) (n (jD r (wk (a2 _ _ ⟨([]:List Ge),none,0,[],A.l,A.a,A.c,A.e,⟨r,r,y⟩,(c.dp [1,0]),sm b⟩)))))))
 clear c
 rintro f w ⟨N,E,F,H,Q,W,X,Y,hf,c,am⟩
 obtain ⟨aS,rfl⟩:=gP _ _ hf
 clear hf
 subst am
 replace J:=gi J
 replace J:=pi (mh J)
 refine q (g (s (mp r) ?_))
 obtain ⟨an,ao,J⟩:=bs J
 refine sc (ec vW r) (lQ fu (c.pr [1] [0] [0] r) ao) ?_
 rintro _ aJ ⟨rfl,U⟩
 replace c:=c.cn [1] [0] U
 refine n (q (g (s (l6 r) (s (mO r) (n (kS ?_))))))
 obtain rfl:=sm J
 exact jB r (kW r) (mH (⟨E,F,H,r,(c.ad [1,0] [2,0])⟩))
def Jt (m:fV→Gs→Option (fV × Gs)):Prop:=∀ {B:World} {C:Nat→Prop} {x:fV} {b:Gs} {z:Nat} {c:Option Addr} {d:Nat} {A:Nat} {f:Option Addr} {h:Nat} {i:Option Addr} {j:Nat} {k:Option Addr} {o:Nat} {p:Option Addr} {t:Nat} {R:fV × Gs},Pre B C [.box z 102 #[Z c x.l d,V x.a,V x.c,V x.e],.box A 111 #[V b.e,V b.f,V b.n,T b.b,T b.j,V b.m,V b.g,Z f b.c h,T b.k,V b.i,Z i b.a j,Z k b.d o,Z p b.h t]] [.l c d x.l,.l f h b.c,.l i j b.a,.l k o b.d,.l p t b.h]→m x b=some R→
 Calls Try.prog 111 #[Pt z,Pt A] B (qx fun v w=>jy R fun u a=>v=.tuple #[]∧Bx B w C (lK [.box z 102 #[Z c x.l d,V x.a,V x.c,V x.e],.box A 111 #[V b.e,V b.f,V b.n,T b.b,T b.j,V b.m,V b.g,Z f b.c h,T b.k,V b.i,Z i b.a j,Z k b.d o,Z p b.h t]]) [.box z 102 #[Z c u.l d,V u.a,V u.c,V u.e],.box A 111 #[V a.e,V a.f,V a.n,T a.b,T a.j,V a.m,V a.g,Z f a.c h,T a.k,V a.i,Z i a.a j,Z k a.d o,Z p a.h t]] [.l c d u.l,.l f h a.c,.l i j a.a,.l k o a.d,.l p t a.h])
def wm (fu:Nat)(a:kg):Option (Ld (Bool) (fV × Gs)):=
 if a.c < 1 then
  some (.go true)
 else
  some (.go (decide (8 < a.c)))
def yH (fu:Nat)(b:fV) (a:Gs):Option (fV × Gs):=
 if b.e≠0 then
  some (b,a)
 else
  (mg fu b 0 (⟨#[105,110,116]⟩:BA)).bind fun k=>
  if (!k)=true then
   (oz fu b).bind fun u=>
   jy u fun m p=>
   some (p,(⟨a.e,a.f,a.n,a.b,m,a.m,a.g,a.c,a.k,a.i,a.a,a.d,a.h⟩:Gs))
  else
   (mg fu (⟨b.l,(wr (b.a+1)),b.c,b.e⟩:fV) 0 (⟨#[91]⟩:BA)).bind fun t=>
   if (!t)=true then
    some ((⟨b.l,(wr (b.a+1)),b.c,b.e⟩:fV),a)
   else
    (oM fu (⟨b.l,(wr ((wr (b.a+1))+1)),b.c,b.e⟩:fV) 0 2).bind fun c=>
    if (!c)=true then
     (oP fu (⟨b.l,(wr ((wr (b.a+1))+1)),b.c,b.e⟩:fV) 7).bind fun d=>
     some (d,a)
    else
     (ix b.l (wr ((wr (b.a+1))+1))).bind fun f=>
     (wm fu f).bind fun u=>u.el (fun h=>
     if h=true then
      (oP fu (⟨b.l,(wr ((wr (b.a+1))+1)),b.c,b.e⟩:fV) 5).bind fun i=>
      some (i,(⟨a.e,a.f,a.n,a.b,a.j,f.c,a.g,a.c,a.k,a.i,a.a,a.d,a.h⟩:Gs))
     else
      (lI fu (⟨b.l,(wr ((wr ((wr (b.a+1))+1))+1)),b.c,b.e⟩:fV) (⟨#[93]⟩:BA)).bind fun j=>
      some (j,(⟨a.e,a.f,a.n,a.b,a.j,f.c,a.g,a.c,a.k,a.i,a.a,a.d,a.h⟩:Gs))
     ) (fun o=>some o)
theorem Jm (fu:Nat):Jt (yH fu):=by
 intro w0 az m b K d j N o p t u v x z A R hP c
 unfold yH at c
 have a:=hP.bx
 clear hP
 generalize hG:lK _=G at a ⊢
 refine cf Try.func111 r (lJ [(0,Pt K),(1,Pt N)] ⟨r,r,y⟩ fun aA=>q (q (g (s (mp r) (s (xn r) (s (qP r) (s (Bf r (a.bk 0 r) r) (s (p8 r r) (n ?_)))))))))
 rcases iv c with ⟨Y,c⟩|⟨Y,c⟩
 ·refine jK (bt Y) (kS ?_)
  obtain rfl:=sm c
  exact zi (P:=Try.prog) (fn:=Try.f111) r (mH (⟨r,a⟩))
 refine jD (bf Y) (wk (q (q (g (s (mp r) ?_)))))
 obtain ⟨aa,h2,c⟩:=bs c
 refine sc (ec uX r) (mU fu (a.pr [0] [1] [0] r) h2) ?_
 rintro _ w2 ⟨rfl,H⟩
 replace a:=a.cn [0] [1] H
 refine s (zL r) (n ?_)
 rcases iv c with ⟨S,c⟩|⟨S,c⟩
 ·refine jK (cb S) (q (g (s (mp r) (s (mp r) ?_))))
  obtain ⟨L,ab,h4,c⟩:=lU c
  refine sc (ec BS r) (qd fu (a.pr [0] [1] [1] r) h4) ?_
  rintro _ w4 ⟨rfl,H⟩
  replace a:=a.cn [0] [1] H
  refine s (xn r) (s (EU r) (lq (t_n a 1 [T L] r nW r r) fun w5 a=>n (kS ?_)))
  obtain rfl:=sm c
  exact zi (P:=Try.prog) (fn:=Try.f111) r (mH (⟨r,(a.dp [0,3,4,5,6])⟩))
 replace S:=nt S
 refine jD (cb S) (wk (q (g (s (mp r) (s (xn r) (s (lW r) (s (l3 r (a.bk 0 r) r) (s (kE r r) (s (xn r) (s (lW r) (lq (t_n a 0 [V (wr (m.a+1))] r mK r r) fun w6 a=>n (q (q (g (s (mp r) ?_)))))))))))))))
 obtain ⟨ac,h7,c⟩:=bs c
 refine sc (ec uX r) (mU fu (a.pr [0] [1] [1] r) h7) ?_
 rintro _ w7 ⟨rfl,H⟩
 replace a:=a.cn [0] [1] H
 refine s (zL r) (n ?_)
 rcases iv c with ⟨U,c⟩|⟨U,c⟩
 ·refine jK (cb U) (kS ?_)
  obtain rfl:=sm c
  exact zi (P:=Try.prog) (fn:=Try.f111) r (mH (⟨r,(a.dp [2,3,4,5,6])⟩))
 replace U:=nt U
 refine jD (cb U) (wk (q (g (s (mp r) (s (xn r) (s (lW r) (s (l3 r (a.bk 0 r) r) (s (kE r r) (s (xn r) (s (lW r) (lq (t_n a 0 [V (wr ((wr (m.a+1))+1))] r mK r r) fun w9 a=>n (q (q (g (s (mp r) ?_)))))))))))))))
 obtain ⟨a0,a1,c⟩:=bs c
 refine sc (ec Dh r) (qR fu (a.pr [0] [1] [2] r) a1) ?_
 rintro _ ai ⟨rfl,H⟩
 replace a:=a.cn [0] [1] H
 refine s (zL r) (n ?_)
 rcases iv c with ⟨I,c⟩|⟨I,c⟩
 ·refine jK (cb I) (q (g (s (mp r) ?_)))
  obtain ⟨a2,a3,c⟩:=bs c
  refine sc (ec Dq r) (qX fu (a.pr [0] [1] [3] r) a3) ?_
  rintro _ aj ⟨rfl,H⟩
  replace a:=a.cn [0] [1] H
  refine n (kS ?_)
  obtain rfl:=sm c
  exact zi (P:=Try.prog) (fn:=Try.f111) r (mH (⟨r,(a.dp [0,5,6,7,8])⟩))
 replace I:=nt I
 refine jD (cb I) (wk (q (oK a [0] [3] [] (by kernel_rfl) ?_)))
 replace a:=a.drew
 have D:=(a.ad [0] [3])
 refine pF 0 r (mp r) D (pF 1 r (mp r) D (pF 2 r (xn r) D (pF 3 r (yY r) D (uF 4 r (fun hS=>OQ r (hS.bk 0 r) r) D (pF 5 r (mp r) D (pF 6 r (xn r) D (pF 7 r (lW r) D (uF 8 r (fun hS=>l3 r (hS.bk 0 r) r) D ?_))))))))
 obtain ⟨C,F,c⟩:=bs c
 obtain ⟨ak,W,F⟩:=kH F
 refine pF 9 r (kV Ct pG r r W (a.dl 3 r) F) D (pF 10 r (QD r) D (tU 11 r (fun _ hS=>jM EK r r ((uG (ds:=[V C.e,V C.f,T C.a,V C.c]) (hS.dl 0 r) F (fun _ h=>h)) 3 _ r)) (sF D) (pF 12 r (xn r) D (pF 13 r (Bl r) D (hO 14 (os r r (t_n a 1 [V C.c] r mK r r) fun al a=>?_))))))
 have D:=(a.ad [0] [3])
 refine ⟨(sF D),(hD (q (q ?_)))⟩
 obtain ⟨a4,B,c⟩:=bs c
 refine nV (fun f w=>∃ (E:Bool),Has f [(0,Pt K),(64,.bool E)]∧Bx w0 w az G [.box K 102 #[Z d m.l j,V (wr ((wr (m.a+1))+1)),V m.c,V m.e],.box N 111 #[V b.e,V b.f,V b.n,T b.b,T b.j,V C.c,V b.g,Z o b.c p,T b.k,V b.i,Z t b.a u,Z v b.d x,Z z b.h A]] [.l d j m.l,.l o p b.c,.l t u b.a,.l v x b.d,.l z A b.h]∧Ld.go E=a4) (fun am M=>?_) ?_
 ·unfold wm at B
  refine g (s (mp r) (s (xn r) (s (Bl r) (s (l3 r (a.bk 1 r) r) (s (pU r r) (s (kM r) ?_))))))
  rcases iv B with ⟨Q,B⟩|⟨Q,B⟩
  ·rw [decide_eq_true Q]
   exact jH r (jH r (jH r (jH r (jH r (s (kC r r) (n (M _ _ ⟨true,⟨r,r,y⟩,(a.dp [3,4,5,6,7]),sm B⟩)))))))
  rw [decide_eq_false Q]
  exact ko r (s (mp r) (ko r (s (xn r) (ko r (s (Bl r) (ko r (s (l3 r (a.bk 1 r) r) (ko r (s (uW r r) (s (jY r r) (n (M _ _ ⟨(decide (8 < C.c)),⟨r,r,y⟩,(a.dp [3,4,5,6,7]),sm B⟩))))))))))))
 clear a
 rintro f w ⟨E,hf,a,X⟩
 obtain ⟨aA,rfl⟩:=gP _ _ hf
 clear hf
 subst X
 replace c:=gi c
 rcases iv c with ⟨J,c⟩|⟨J,c⟩
 ·refine jK (cb J) (q (g (s (mp r) ?_)))
  obtain ⟨a5,a6,c⟩:=bs c
  refine sc (ec Dq r) (qX fu (a.pr [0] [1] [0] r) a6) ?_
  rintro _ an ⟨rfl,H⟩
  replace a:=a.cn [0] [1] H
  refine n (kS ?_)
  obtain rfl:=sm c
  exact zi (P:=Try.prog) (fn:=Try.f111) r (mH (⟨r,(a.dp [0,2,3,4,5])⟩))
 replace J:=nt J
 refine jD (cb J) (wk (q (g (s (mp r) (s (xn r) (s (lW r) (s (l3 r (a.bk 0 r) r) (s (kE r r) (s (xn r) (s (lW r) (lq (t_n a 0 [V (wr ((wr ((wr (m.a+1))+1))+1))] r mK r r) fun ao a=>n (g (s (mp r) ?_)))))))))))))
 obtain ⟨a7,a8,c⟩:=bs c
 refine sc (ec vW r) (lQ fu (a.pr [0] [1] [0] r) a8) ?_
 rintro _ ap ⟨rfl,H⟩
 replace a:=a.cn [0] [1] H
 refine n ?_
 obtain rfl:=sm c
 exact zi (P:=Try.prog) (fn:=Try.f111) r (mH (⟨r,(a.dp [0,2,3,4,5])⟩))
def I9 (m:fV→Gs→Bool→Option (fV × Gs)):Prop:=∀ {D:World} {F:Nat→Prop} {A:fV} {b:Gs} {E:Bool} {B:Nat} {c:Option Addr} {d:Nat} {C:Nat} {f:Option Addr} {h:Nat} {p:Option Addr} {t:Nat} {i:Option Addr} {j:Nat} {k:Option Addr} {o:Nat} {R:fV × Gs},Pre D F [.box B 102 #[Z c A.l d,V A.a,V A.c,V A.e],.box C 111 #[V b.e,V b.f,V b.n,T b.b,T b.j,V b.m,V b.g,Z f b.c h,T b.k,V b.i,Z p b.a t,Z i b.d j,Z k b.h o]] [.l c d A.l,.l f h b.c,.l p t b.a,.l i j b.d,.l k o b.h]→m A b E=some R→
 Calls Try.prog 113 #[Pt B,Pt C,.bool E] D (qx fun v w=>jy R fun z a=>∃ (u:OA)(x:Nat),v=.tuple #[]∧Bx D w F (lK [.box B 102 #[Z c A.l d,V A.a,V A.c,V A.e],.box C 111 #[V b.e,V b.f,V b.n,T b.b,T b.j,V b.m,V b.g,Z f b.c h,T b.k,V b.i,Z p b.a t,Z i b.d j,Z k b.h o]]) [.box B 102 #[Z c z.l d,V z.a,V z.c,V z.e],.box C 111 #[V a.e,V a.f,V a.n,T a.b,T a.j,V a.m,V a.g,Z f a.c h,T a.k,V a.i,Z u a.a x,Z i a.d j,Z k a.h o]] [.l c d z.l,.l f h a.c,.l u x a.a,.l i j a.d,.l k o a.h])
def xC (fu:Nat)(i:fV) (a:Gs) (j:Bool):Option (Ld (Unit) (fV × Gs)):=
 if i.e=0 then
  if j=true then
   (rY fu i).bind fun b=>
   if b=true then
    (oz fu i).bind fun k=>
    jy k fun c d=>
    (sK fu d).bind fun k=>
    jy k fun f h=>
    some (.out (h,(⟨a.e,a.f,a.n,a.b,a.j,a.m,a.g,a.c,c,a.i,f,a.d,a.h⟩:Gs)))
   else
    some (.go ())
  else
   some (.go ())
 else
  some (.go ())
def qW (fu:Nat)(d:fV) (a:Gs) (e:Bool):Option (fV × Gs):=
 (xC fu d a e).bind fun f=>f.el (fun _=>
 (lT fu d 1 0).bind fun f=>
 jy f fun b c=>
 some (c,(⟨a.e,a.f,a.n,a.b,a.j,a.m,a.g,a.c,a.k,a.i,([b]:List Ge),a.d,a.h⟩:Gs))
 ) (fun o=>some o)
theorem wz (fu:Nat):I9 (qW fu):=by
 intro w0 am H a x2 I C D J h j A B m o p t R hP E
 unfold qW at E
 have c:=hP.bx
 clear hP
 generalize hG:lK _=G at c ⊢
 refine cf Try.func113 r (lJ [(0,Pt I),(1,Pt J),(2,.bool x2)] ⟨r,r,r,y⟩ fun an=>q ?_)
 obtain ⟨Y1,b,E⟩:=bs E
 refine nV (fun f w=>Has f [(0,Pt I),(1,Pt J)]∧Bx w0 w am G [.box I 102 #[Z C H.l D,V H.a,V H.c,V H.e],.box J 111 #[V a.e,V a.f,V a.n,T a.b,T a.j,V a.m,V a.g,Z h a.c j,T a.k,V a.i,Z A a.a B,Z m a.d o,Z p a.h t]] [.l C D H.l,.l h j a.c,.l A B a.a,.l m o a.d,.l p t a.h]∧Ld.go ()=Y1) (fun J1 L=>?_) ?_
 ·unfold xC at b
  refine q (g (s (mp r) (s (xn r) (s (qP r) (s (Bf r (c.bk 0 r) r) (s (kF r r) (s (kM r) ?_)))))))
  rcases iv b with ⟨W,b⟩|⟨W,b⟩
  ·rw [decide_eq_true W]
   refine ko r (s (kM r) (s (kC r r) (s (kM r) ?_)))
   rcases iv b with ⟨Q,b⟩|⟨Q,b⟩
   ·rw [Q]
    refine ko r (s (mp r) ?_)
    obtain ⟨a4,h4,b⟩:=bs b
    refine ko r (sc (ec QO r) (Ec fu (c.pr [0] [1] [0] r) h4) ?_)
    rintro _ w4 ⟨rfl,M⟩
    replace c:=c.cn [0] [1] M
    refine s (kC r r) (n ?_)
    rcases iv b with ⟨S,b⟩|⟨S,b⟩
    ·refine jK (cb S) (q (g (s (mp r) (s (mp r) ?_))))
     obtain ⟨F,a5,h6,b⟩:=lU b
     refine sc (ec BS r) (qd fu (c.pr [0] [1] [1] r) h6) ?_
     rintro _ w6 ⟨rfl,M⟩
     replace c:=c.cn [0] [1] M
     refine s (xn r) (s (Cb r) (lq (t_n c 1 [T F] r nW r r) fun w7 c=>n (q (g (s (mp r) (s (mp r) ?_))))))
     obtain ⟨K,a6,h8,b⟩:=lU b
     refine sc (ec WG r) (DX fu (c.pr [0] [1] [0] r) h8) ?_
     rintro _ w8 ⟨u,v,U,rfl,M⟩
     have X:=c.q9.size
     replace c:=c.cn [0] [1] M
     replace c:=c.rb 0 w0.heap.size r X
     refine s (xn r) (s (uM r) (lq (t_n c 2 [Z u K v] r rW r r) fun w9 c=>n (kS ?_)))
     replace c:=c.fz 0 0 r r
     obtain rfl:=sm b
     replace E:=oi E
     obtain rfl:=sm E
     exact zi (P:=Try.prog) (fn:=Try.f113) r (mH (⟨u,v,r,(c.dp [1,5,0,7,8])⟩))
    replace S:=nt S
    exact jD (cb S) (wk (L _ _ ⟨⟨r,r,y⟩,(c.dp [1,2,3,4,5]),sm b⟩))
   replace Q:=nt Q
   rw [Q]
   exact jH r (jH r (s (jY r r) (n (jD r (wk (L _ _ ⟨⟨r,r,y⟩,c,sm b⟩))))))
  rw [decide_eq_false W]
  exact jH r (s (jY r r) (s (kM r) (jH r (jH r (s (jY r r) (n (jD r (wk (L _ _ ⟨⟨r,r,y⟩,c,sm b⟩)))))))))
 clear c
 rintro f w ⟨hf,c,Y⟩
 obtain ⟨an,rfl⟩:=gP _ _ hf
 clear hf
 subst Y
 replace E:=gi E
 refine g (s (mp r) (s (mp r) ?_))
 obtain ⟨d,a0,a1,E⟩:=lU E
 refine sc (ec AU r) (qY fu (c.pr [0] [1] [0] r) a1) ?_
 rintro _ ac ⟨x,z,rfl,M⟩
 replace c:=c.cn [0] [1] M
 refine nO (jL c [[V d.e,V d.c,V d.g,T d.b,T d.d,Z x d.a z]] ([d]:List Ge) (kT r) r r (by decide) ⟨(jA.inn ⟨x,z,r,(c.dl 0 r)⟩),y⟩) ?_
 rintro _ ae ⟨N,rfl,c⟩
 refine s (xn r) (s (uM r) (lq (t_n c 2 [.slice (ad N) ([d]:List Ge).length 1] r rW r r) fun af c=>n ?_))
 replace c:=c.fz 0 0 r r
 obtain rfl:=sm E
 exact zi (P:=Try.prog) (fn:=Try.f113) r (mH (⟨(ad N),1,r,(c.dp [2,4,0,6,7])⟩))
def Gy (m:fV→Gs→Option (fV × Gs)):Prop:=∀ {F:World} {G:Nat→Prop} {C:fV} {b:Gs} {D:Nat} {c:Option Addr} {d:Nat} {E:Nat} {k:Option Addr} {o:Nat} {p:Option Addr} {t:Nat} {f:Option Addr} {h:Nat} {i:Option Addr} {j:Nat} {R:fV × Gs},Pre F G [.box D 102 #[Z c C.l d,V C.a,V C.c,V C.e],.box E 111 #[V b.e,V b.f,V b.n,T b.b,T b.j,V b.m,V b.g,Z k b.c o,T b.k,V b.i,Z p b.a t,Z f b.d h,Z i b.h j]] [.l c d C.l,.l k o b.c,.l p t b.a,.l f h b.d,.l i j b.h]→m C b=some R→
 Calls Try.prog 114 #[Pt D,Pt E] F (qx fun v w=>jy R fun B a=>∃ (u:OA)(x:Nat)(z:OA)(A:Nat),v=.tuple #[]∧Bx F w G (lK [.box D 102 #[Z c C.l d,V C.a,V C.c,V C.e],.box E 111 #[V b.e,V b.f,V b.n,T b.b,T b.j,V b.m,V b.g,Z k b.c o,T b.k,V b.i,Z p b.a t,Z f b.d h,Z i b.h j]]) [.box D 102 #[Z c B.l d,V B.a,V B.c,V B.e],.box E 111 #[V a.e,V a.f,V a.n,T a.b,T a.j,V a.m,V a.g,Z u a.c x,T a.k,V a.i,Z z a.a A,Z f a.d h,Z i a.h j]] [.l c d B.l,.l u x a.c,.l z A a.a,.l f h a.d,.l i j a.h])
def xq (fu:Nat)(k:fV) (b:Gs):Option (fV × Gs):=
 (rY fu k).bind fun d=>
 if d=true then
  (qW fu k (⟨3,b.f,b.n,b.b,b.j,b.m,b.g,b.c,b.k,b.i,b.a,b.d,b.h⟩:Gs) true).bind fun l=>
  jy l fun e f=>
  some (e,f)
 else
  (sw fu k 0).bind fun l=>
  jy l fun h i=>
  (lI fu i (⟨#[61]⟩:BA)).bind fun j=>
  (qW fu j (⟨3,b.f,b.n,b.b,b.j,b.m,b.g,([h]:List Ge),b.k,b.i,b.a,b.d,b.h⟩:Gs) true).bind fun l=>
  jy l fun c a=>
  if a.k=(⟨#[]⟩:BA) then
   some (c,(⟨2,a.f,a.n,a.b,a.j,a.m,a.g,a.c,a.k,a.i,a.a,a.d,a.h⟩:Gs))
  else
   some (c,a)
theorem GN (fu:Nat):Gy (xq fu):=by
 intro w0 ag M c I E F J w x z A m o p t R S j
 unfold xq at j
 have b:=S.bx
 clear S
 generalize hG:lK _=G at b ⊢
 refine cf Try.func114 r (lJ [(0,Pt I),(1,Pt J)] ⟨r,r,y⟩ fun ah=>q (g (s (mp r) (s (xn r) (s (xQ r) (lq (t_n b 1 [V 3] r mK r r) fun w1 b=>n (q (q (g (s (mp r) ?_))))))))))
 obtain ⟨U,h2,j⟩:=bs j
 refine sc (ec QO r) (Ec fu (b.pr [0] [1] [0] r) h2) ?_
 rintro _ w2 ⟨rfl,D⟩
 replace b:=b.cn [0] [1] D
 refine n ?_
 rcases iv j with ⟨K,j⟩|⟨K,j⟩
 ·refine jK (cb K) (q (g (s (mp r) (s (mp r) ?_))))
  obtain ⟨W,X,h4,j⟩:=lU j
  refine sc (ec Ga r) (wz fu (b.pr [0,1] [] [1,2,3,4,5] r) h4) ?_
  rintro _ w4 ⟨B,C,rfl,D⟩
  replace b:=b.cn [0,1] [] D
  refine n (kS ?_)
  obtain rfl:=sm j
  exact zi (P:=Try.prog) (fn:=Try.f114) r (mH (⟨w,x,B,C,r,(b.dp [0,1,2,3,4])⟩))
 replace K:=nt K
 refine jD (cb K) (wk (q (g (s (mp r) (s (mp r) ?_)))))
 obtain ⟨h,Y,h5,j⟩:=lU j
 refine sc (ec QG r) (G7 fu (b.pr [0] [1] [1] r) h5) ?_
 rintro _ w5 ⟨u,v,rfl,D⟩
 replace b:=b.cn [0] [1] D
 refine nO (jL b [[V h.e,V h.c,V h.g,T h.b,T h.d,Z u h.a v]] ([h]:List Ge) (kT r) r r (by decide) ⟨(jA.inn ⟨u,v,r,(b.dl 0 r)⟩),y⟩) ?_
 rintro _ w6 ⟨L,rfl,b⟩
 refine s (xn r) (s (xR r) (lq (t_n b 2 [.slice (ad L) ([h]:List Ge).length 1] r rW r r) fun w7 b=>n (q (g (s (mp r) ?_)))))
 obtain ⟨a0,h8,j⟩:=bs j
 refine sc (ec vW r) (lQ fu (b.pr [1] [0,2] [2] r) h8) ?_
 rintro _ w8 ⟨rfl,D⟩
 replace b:=b.cn [1] [0,2] D
 refine n (q (g (s (mp r) (s (mp r) ?_))))
 replace b:=b.fz 1 1 r r
 obtain ⟨N,a,Q,j⟩:=lU j
 refine sc (ec Ga r) (wz fu (b.pr [0,1] [] [1,0,7,8,9] r) Q) ?_
 rintro _ a5 ⟨d,f,rfl,D⟩
 replace b:=b.cn [0,1] [] D
 refine n (q (g (s (mp r) (s (xn r) (s (Cb r) (s (l9 r (b.bk 1 r) r) (s (rA r r) (n ?_))))))))
 rcases iv j with ⟨H,j⟩|⟨H,j⟩
 ·refine jK (bt H) (g (s (mp r) (s (xn r) (s (xQ r) (lq (t_n b 1 [V 2] r mK r r) fun a6 b=>n ?_)))))
  obtain rfl:=sm j
  exact zi (P:=Try.prog) (fn:=Try.f114) r (mH (⟨(ad L),1,d,f,r,(b.dp [0,1,2,3,4])⟩))
 refine jD (bf H) (wk ?_)
 obtain rfl:=sm j
 exact zi (P:=Try.prog) (fn:=Try.f114) r (mH (⟨(ad L),1,d,f,r,(b.dp [0,1,2,3,4])⟩))
abbrev tY:=fV→Int→Option ((List jN) × Int × fV)
abbrev pO:=fV→Int→Option (jN × fV)
def xA (m:fV→Int→Option ((List Gs) × Int × fV)):Prop:=∀ {k:World} {u:Nat→Prop} {i:fV} {o:Int} {j:Nat} {a:Option Addr} {b:Nat} {R:(List Gs) × Int × fV},Pre k u [.box j 102 #[Z a i.l b,V i.a,V i.c,V i.e]] [.l a b i.l]→m i o=some R→
 Calls Try.prog 66 #[Pt j,V o] k (qx fun v w=>jy R fun p R=>jy R fun t c=>∃ (d:OA)(f:Nat)(h:LV),v=.tuple #[Z d p f,V t]∧Bx k w u (lK [.box j 102 #[Z a i.l b,V i.a,V i.c,V i.e]]) [O k.heap.size d f 111 Gs h,.box j 102 #[Z a c.l b,V c.a,V c.c,V c.e]] [.els h p,.l a b c.l])
def uQ (m:fV→Int→Option (Gs × fV)):Prop:=∀ {z:World} {B:Nat→Prop} {u:fV} {A:Int} {x:Nat} {a:Option Addr} {b:Nat} {R:Gs × fV},Pre z B [.box x 102 #[Z a u.l b,V u.a,V u.c,V u.e]] [.l a b u.l]→m u A=some R→
 Calls Try.prog 94 #[Pt x,V A] z (qx fun v w=>jy R fun c d=>∃ (f:OA)(h:Nat)(i:OA)(j:Nat)(k:OA)(o:Nat)(p:OA)(t:Nat),v=.agg #[V c.e,V c.f,V c.n,T c.b,T c.j,V c.m,V c.g,Z f c.c h,T c.k,V c.i,Z i c.a j,Z k c.d o,Z p c.h t]∧Bx z w B (lK [.box x 102 #[Z a u.l b,V u.a,V u.c,V u.e]]) [.box x 102 #[Z a d.l b,V d.a,V d.c,V d.e]] [.l f h c.c,.l i j c.a,.l k o c.d,.l p t c.h,.l a b d.l])
def oZ (fu:Nat)(r_r03_block:tY) (r_r03_statement:pO) (m:Int):Nat→(List Gs)→(List kg)→Int→Int→Int→Option (Ld (List Gs × List kg × Int × Int × Int) ((List Gs) × Int × fV))
 | 0,_,_,_,_,_=>none
 | t+1,i,b,c,d,a=>
 if a=0 then
  (mg fu (⟨b,c,d,a⟩:fV) 0 (⟨#[125]⟩:BA)).bind fun o=>
  if (!o)=true then
   (wO fu (⟨b,c,d,a⟩:fV)).bind fun p=>
   if (!p)=true then
    (oP fu (⟨b,c,d,a⟩:fV) 7).bind fun j=>
    oZ fu r_r03_block r_r03_statement m t i j.l j.a j.c j.e
   else
    if 8 < m then
     (oP fu (⟨b,c,d,a⟩:fV) 5).bind fun f=>
     oZ fu r_r03_block r_r03_statement m t i f.l f.a f.c f.e
    else
     (r_r03_statement (⟨b,c,d,a⟩:fV) m).bind fun v=>
     jy v fun k h=>
     (app i ([k]:List Gs)).bind fun u=>
     oZ fu r_r03_block r_r03_statement m t u h.l h.a h.c h.e
  else
   some (.go (i,b,c,d,a))
 else
  some (.go (i,b,c,d,a))
def wT (fu:Nat)(r_r03_block:tY) (r_r03_statement:pO) (a:List kg) (b:Int)(c:Int):Option (Ld (Int) ((List Gs) × Int × fV)):=
 if c=0 then
  (ix a b).bind fun d=>
  some (.go d.f)
 else
  some (.go 0)
def yN (fu:Nat)(r_r03_block:tY) (r_r03_statement:pO) (k:fV) (m:Int):Option ((List Gs) × Int × fV):=
 (lI fu k (⟨#[123]⟩:BA)).bind fun a=>
 (oZ fu r_r03_block r_r03_statement m fu ([]:List Gs) a.l a.a a.c a.e).bind fun p=>p.el (fun p=>
 jy p fun i p=>jy p fun b p=>jy p fun c p=>jy p fun j d=>
 (wT fu r_r03_block r_r03_statement b c d).bind fun p=>p.el (fun f=>
 (lI fu (⟨b,c,j,d⟩:fV) (⟨#[125]⟩:BA)).bind fun h=>
 some (i,f,h)
 ) (fun o=>some o)
 ) (fun o=>some o)
def su (fu:Nat)(r_r03_block:tY) (r_r03_statement:pO) (b:fV) (c:kg):Option (Ld (BA × Int) (Gs × fV)):=
 (oM fu b 0 3).bind fun a=>
 if a=true then
  some (.go (c.a,(wr (b.a+1))))
 else
  some (.go ((⟨#[]⟩:BA),b.a))
def sI (fu:Nat)(r_r03_block:tY) (r_r03_statement:pO) (b:fV) (x1:Int):Option (Gs × fV):=
 (ix b.l b.a).bind fun i=>
 (su fu r_r03_block r_r03_statement b i).bind fun a7=>a7.el (fun a7=>
 jy a7 fun d c=>
 if d=(⟨#[118,97,114]⟩:BA) then
  (oz fu (⟨b.l,c,b.c,b.e⟩:fV)).bind fun a7=>
  jy a7 fun t u=>
  (lI fu u (⟨#[58]⟩:BA)).bind fun v=>
  (yH fu v (⟨1,i.f,0,t,be,0,0,([]:List Ge),be,0,([]:List Ge),([]:List Gs),([]:List Gs)⟩:Gs)).bind fun a7=>
  jy a7 fun w x=>
  (lI fu w (⟨#[59]⟩:BA)).bind fun z=>
  some (x,z)
 else
  if d=(⟨#[105,102]⟩:BA) then
   (lT fu (⟨b.l,c,b.c,b.e⟩:fV) 1 0).bind fun a7=>
   jy a7 fun f A=>
   (r_r03_block A (wr (x1+1))).bind fun a7=>
   jy a7 fun h a7=>jy a7 fun a2 a=>
   if a.e=0 then
    (mg fu a 0 (⟨#[101,108,115,101]⟩:BA)).bind fun B=>
    if B=true then
     (r_r03_block (⟨a.l,(wr (a.a+1)),a.c,a.e⟩:fV) (wr (x1+1))).bind fun a7=>
     jy a7 fun C a7=>jy a7 fun a3 D=>
     some ((⟨4,i.f,0,be,be,0,0,([]:List Ge),be,0,([f]:List Ge),h,C⟩:Gs),D)
    else
     some ((⟨4,i.f,0,be,be,0,0,([]:List Ge),be,0,([f]:List Ge),h,([]:List Gs)⟩:Gs),a)
   else
    some ((⟨4,i.f,0,be,be,0,0,([]:List Ge),be,0,([f]:List Ge),h,([]:List Gs)⟩:Gs),a)
  else
   if d=(⟨#[119,104,105,108,101]⟩:BA) then
    (lT fu (⟨b.l,c,b.c,b.e⟩:fV) 1 0).bind fun a7=>
    jy a7 fun E F=>
    (r_r03_block F (wr (x1+1))).bind fun a7=>
    jy a7 fun G a7=>jy a7 fun a4 H=>
    some ((⟨5,i.f,0,be,be,0,0,([]:List Ge),be,0,([E]:List Ge),G,([]:List Gs)⟩:Gs),H)
   else
    if d=(⟨#[116,114,121]⟩:BA) then
     (r_r03_block (⟨b.l,c,b.c,b.e⟩:fV) (wr (x1+1))).bind fun a7=>
     jy a7 fun I a7=>jy a7 fun a5 J=>
     (lI fu J (⟨#[99,97,116,99,104]⟩:BA)).bind fun K=>
     (oz fu K).bind fun a7=>
     jy a7 fun L M=>
     (r_r03_block M (wr (x1+1))).bind fun a7=>
     jy a7 fun N a7=>jy a7 fun a6 P=>
     some ((⟨8,i.f,0,L,be,0,0,([]:List Ge),be,0,([]:List Ge),I,N⟩:Gs),P)
    else
     if d=(⟨#[114,101,116,117,114,110]⟩:BA) then
      (qW fu (⟨b.l,c,b.c,b.e⟩:fV) (⟨6,i.f,0,be,be,0,0,([]:List Ge),be,0,([]:List Ge),([]:List Gs),([]:List Gs)⟩:Gs) true).bind fun a7=>
      jy a7 fun Q R=>
      (lI fu Q (⟨#[59]⟩:BA)).bind fun S=>
      some (R,S)
     else
      if d=(⟨#[116,104,114,111,119]⟩:BA) then
       (qW fu (⟨b.l,c,b.c,b.e⟩:fV) (⟨7,i.f,0,be,be,0,0,([]:List Ge),be,0,([]:List Ge),([]:List Gs),([]:List Gs)⟩:Gs) false).bind fun a7=>
       jy a7 fun U W=>
       (lI fu U (⟨#[59]⟩:BA)).bind fun X=>
       some (W,X)
      else
       if d=(⟨#[112,114,105,110,116]⟩:BA) then
        (qW fu (⟨b.l,c,b.c,b.e⟩:fV) (⟨9,i.f,0,be,be,0,0,([]:List Ge),be,0,([]:List Ge),([]:List Gs),([]:List Gs)⟩:Gs) false).bind fun a7=>
        jy a7 fun Y a0=>
        (lI fu Y (⟨#[59]⟩:BA)).bind fun j=>
        some (a0,j)
       else
        (xq fu (⟨b.l,c,b.c,b.e⟩:fV) (⟨0,i.f,0,be,be,0,0,([]:List Ge),be,0,([]:List Ge),([]:List Gs),([]:List Gs)⟩:Gs)).bind fun a7=>
        jy a7 fun k m=>
        (lI fu k (⟨#[59]⟩:BA)).bind fun p=>
        some (m,p)
 ) (fun o=>some o)
def sS:Nat→(fV→Int→Option ((List Gs) × Int × fV)) × (fV→Int→Option (Gs × fV))
 | 0=>((fun _ _=>none),(fun _ _=>none))
 | fu+1=>(yN fu ((sS fu).1) ((sS fu).2),sI fu ((sS fu).1) ((sS fu).2))
def vX (fu:Nat):=(sS fu).1
def vG (fu:Nat):=(sS fu).2
theorem Jv (fu:Nat)(r_r03_block:tY) (r_r03_statement:pO) (H_r03_block:xA r_r03_block) (H_r03_statement:uQ r_r03_statement):xA (yN fu r_r03_block r_r03_statement):=by
 intro w0 aQ x0 x1 N x z R hP B
 unfold yN at B
 have b:=hP.bx
 clear hP
 generalize hG:lK _=G at b ⊢
 refine cf Try.func66 r (lJ [(0,Pt N),(1,V x1)] ⟨r,r,y⟩ fun aR=>q (g (s (mO r) (s (xi r) (n (q (g (s (mO r) (n (q (g (s (mp r) ?_))))))))))))
 obtain ⟨S,h1,B⟩:=bs B
 refine sc (ec vW r) (lQ fu (b.pr [0] [] [0] r) h1) ?_
 rintro _ w1 ⟨rfl,X⟩
 replace b:=b.cn [0] [] X
 refine n (q ?_)
 replace b:=b.BU Gs 111
 obtain ⟨Y2,a,B⟩:=bs B
 refine nV (fun f w=>∃ (o:List Gs) (c:OA)(d:Nat)(j:LV)(p:List kg) (t:Int)(u:Int)(v:Int),Has f [(0,Pt N),(6,Z c o d)]∧Bx w0 w aQ G [O w0.heap.size c d 111 Gs j,.box N 102 #[Z x p z,V t,V u,V v]] [.l x z p,.els j o]∧Ld.go (o,p,t,u,v)=Y2) (fun J2 a6=>?_) ?_
 ·refine oD (kK (fun aS f w=>∃ (o:List Gs) (c:OA)(d:Nat)(j:LV)(p:List kg) (t:Int)(u:Int)(v:Int),Has f [(0,Pt N),(1,V x1),(6,Z c o d)]∧Bx w0 w aQ G [O w0.heap.size c d 111 Gs j,.box N 102 #[Z x p z,V t,V u,V v]] [.l x z p,.els j o]∧oZ fu r_r03_block r_r03_statement x1 aS o p t u v=some Y2) fu ⟨([]:List Gs),none,0,[],S.l,S.a,S.c,S.e,⟨r,r,r,y⟩,(b.dp [1,0]),a⟩ ?_)
  clear b a
  rintro n2 f w ⟨o,c,d,j,p,t,u,v,hf,b,a⟩ K2 a2
  obtain ⟨aR,rfl⟩:=gP _ _ hf
  clear hf
  cases n2 with
  | zero=>exact nn a
  | succ n2=>
   rw [oZ] at a
   refine q (q (g (s (mp r) (s (xn r) (s (qP r) (s (Bf r (b.bk 1 r) r) (s (kF r r) (s (kM r) ?_))))))))
   rcases iv a with ⟨h4,a⟩|⟨h4,a⟩
   ·rw [decide_eq_true h4]
    refine ko r (s (mp r) ?_)
    obtain ⟨av,h5,a⟩:=bs a
    refine ko r (sc (ec uX r) (mU fu (b.pr [1] [0] [0] r) h5) ?_)
    rintro _ w5 ⟨rfl,X⟩
    replace b:=b.cn [1] [0] X
    refine ko r (s (zL r) (s (kC r r) (n ?_)))
    rcases iv a with ⟨h6,a⟩|⟨h6,a⟩
    ·refine jK (cb h6) (wk (oD (q (g (s (mp r) ?_)))))
     obtain ⟨aw,h7,a⟩:=bs a
     refine sc (ec X0 r) (Gh fu (b.pr [0] [1] [1] r) h7) ?_
     rintro _ w7 ⟨rfl,X⟩
     replace b:=b.cn [0] [1] X
     refine s (zL r) (n ?_)
     rcases iv a with ⟨h8,a⟩|⟨h8,a⟩
     ·refine jK (cb h8) (g (s (mp r) ?_))
      obtain ⟨U,h9,a⟩:=bs a
      refine sc (ec Dq r) (qX fu (b.pr [0] [1] [2] r) h9) ?_
      rintro _ w9 ⟨rfl,X⟩
      replace b:=b.cn [0] [1] X
      exact n (a2 n2 _ _ (Nat.lt_succ_self _) ⟨o,c,d,j,U.l,U.a,U.c,U.e,⟨r,r,r,y⟩,(b.ad [1,0] [0,4]),a⟩)
     replace h8:=nt h8
     refine jD (cb h8) (q (g (s (mi r) (s (uW r r) (n ?_)))))
     rcases iv a with ⟨a3,a⟩|⟨a3,a⟩
     ·refine jK (bt a3) (g (s (mp r) ?_))
      obtain ⟨L,ah,a⟩:=bs a
      refine sc (ec Dq r) (qX fu (b.pr [0] [1] [2] r) ah) ?_
      rintro _ aB ⟨rfl,X⟩
      replace b:=b.cn [0] [1] X
      exact n (a2 n2 _ _ (Nat.lt_succ_self _) ⟨o,c,d,j,L.l,L.a,L.c,L.e,⟨r,r,r,y⟩,(b.ad [1,0] [0,4]),a⟩)
     refine jD (bf a3) (g (s (l6 r) (s (mp r) (s (mi r) ?_))))
     obtain ⟨m,M,ai,a⟩:=lU a
     refine sc (ec YZ r) (H_r03_statement (b.pr [0] [1] [2] r) ai) ?_
     rintro _ aC ⟨C,D,E,F,H,I,J,K,rfl,X⟩
     replace b:=b.cn [0] [1] X
     refine nO (jL b [[V m.e,V m.f,V m.n,T m.b,T m.j,V m.m,V m.g,Z C m.c D,T m.k,V m.i,Z E m.a F,Z H m.d I,Z J m.h K]] ([m]:List Gs) (q8 r) r r (by decide) ⟨(jN.inn ⟨C,D,E,F,H,I,J,K,r,(b.dl 0 r),(b.dl 1 r),(b.dl 2 r),(b.dl 3 r)⟩),y⟩) ?_
     rintro _ aD ⟨aE,rfl,b⟩
     obtain ⟨aj,aa,a⟩:=bs a
     refine nO (kN b 2 9 r r Ag jP r (by decide) (by decide) (Nat.le_refl _) r r (b.zQ 0 0 r r) aa) ?_
     rintro _ aF ⟨ak,al,am,rfl,b⟩
     exact s (mO r) (n (a2 n2 _ _ (Nat.lt_succ_self _) ⟨aj,ak,al,am,M.l,M.a,M.c,M.e,⟨r,r,r,y⟩,(b.ad [2,1] [5,9]),a⟩))
    replace h6:=nt h6
    exact jD (cb h6) (uJ (a6 _ _ ⟨o,c,d,j,p,t,u,v,⟨r,r,y⟩,(b.ad [1,0] [1,2]),sm a⟩))
   rw [decide_eq_false h4]
   exact jH r (jH r (jH r (s (jY r r) (n (jD r (uJ (a6 _ _ ⟨o,c,d,j,p,t,u,v,⟨r,r,y⟩,b,sm a⟩)))))))
 clear b
 rintro f w ⟨o,c,d,j,p,t,u,v,hf,b,an⟩
 obtain ⟨aR,rfl⟩:=gP _ _ hf
 clear hf
 subst an
 replace B:=gi B
 replace B:=pi (mh B)
 refine q (g (s (xi r) (n (q ?_))))
 obtain ⟨ao,A,B⟩:=bs B
 refine nV (fun f w=>∃ (Q:Int),Has f [(0,Pt N),(6,Z c o d),(7,V Q)]∧Bx w0 w aQ G [O w0.heap.size c d 111 Gs j,.box N 102 #[Z x p z,V t,V u,V v]] [.l x z p,.els j o]∧Ld.go Q=ao) (fun aG a1=>?_) ?_
 ·unfold wT at A
  refine q (g (s (mp r) (s (xn r) (s (qP r) (s (Bf r (b.bk 1 r) r) (s (kF r r) (n ?_)))))))
  rcases iv A with ⟨a4,A⟩|⟨a4,A⟩
  ·refine jK (bt a4) (oK b [1] [0] [] (by kernel_rfl) ?_)
   replace b:=b.drew
   have Y:=(b.ad [1] [0])
   refine pF 0 r (mp r) Y (pF 1 r (xn r) Y (pF 2 r (yY r) Y (uF 3 r (fun hS=>OQ r (hS.bk 0 r) r) Y (pF 4 r (mp r) Y (pF 5 r (xn r) Y (pF 6 r (lW r) Y (uF 7 r (fun hS=>l3 r (hS.bk 0 r) r) Y ?_)))))))
   obtain ⟨a0,W,A⟩:=bs A
   obtain ⟨aH,ab,W⟩:=kH W
   exact pF 8 r (kV Ct pG r r ab (b.dl 0 r) W) Y (pF 9 r (Il r) Y (tU 10 r (fun _ hS=>jM EK r r ((uG (ds:=[V a0.e,V a0.f,T a0.a,V a0.c]) (hS.dl 0 r) W (fun _ h=>h)) 1 _ r)) (sF Y) (pF 11 r (xi r) Y (hD (a1 _ _ ⟨a0.f,⟨r,r,r,y⟩,b,sm A⟩)))))
  exact jD (bf a4) (wk (a1 _ _ ⟨0,⟨r,r,r,y⟩,b,sm A⟩))
 clear b
 rintro f w ⟨Q,hf,b,ac⟩
 obtain ⟨aR,rfl⟩:=gP _ _ hf
 clear hf
 subst ac
 replace B:=gi B
 refine q (g (s (mp r) ?_))
 obtain ⟨ap,aq,B⟩:=bs B
 refine sc (ec vW r) (lQ fu (b.pr [1] [0] [0] r) aq) ?_
 rintro _ aI ⟨rfl,X⟩
 replace b:=b.cn [1] [0] X
 refine n (q (g (s (l6 r) (s (mi r) (s (mO r) (s (xi r) (n (kS ?_))))))))
 obtain rfl:=sm B
 exact qb r (kW r) (kW r) (mH (mH (⟨c,d,j,r,(b.ad [1,0] [2,0])⟩)))
theorem DJ (fu:Nat)(r_r03_block:tY) (r_r03_statement:pO) (H_r03_block:xA r_r03_block) (H_r03_statement:uQ r_r03_statement):uQ (sI fu r_r03_block r_r03_statement):=by
 intro w0 cN x0 x1 ap a5 a6 R hP p
 unfold sI at p
 have a:=hP.bx
 clear hP
 generalize hG:lK _=G at a ⊢
 refine cf Try.func94 r ?_
 refine lJ [(0,Pt ap),(1,V x1)] ⟨r,r,y⟩ fun cO=>?_
 refine q (g (tF a (jW jP) fun w1 b1 a=>?_))
 refine n (q (oK a [1] [0] [] (by kernel_rfl) ?_))
 replace a:=a.drew
 have hs:=(a.arr [1] r)
 refine pF 0 r (mp r) hs (pF 1 r (xn r) hs (pF 2 r (yY r) hs (uF 3 r (fun hS=>OQ r (hS.bk 0 r) r) hs (pF 4 r (mp r) hs (pF 5 r (xn r) hs (pF 6 r (lW r) hs (uF 7 r (fun hS=>l3 r (hS.bk 0 r) r) hs ?_)))))))
 obtain ⟨Q,ak,p⟩:=bs p
 obtain ⟨k2,aG,ak⟩:=kH ak
 refine pF 8 r (kV Ct pG r r aG (a.dl 0 r) ak) hs (pF 9 r (Il r) hs (tU 10 r (fun _ hS=>jM EK r r ((uG (ds:=[V Q.e,V Q.f,T Q.a,V Q.c]) (hS.dl 0 r) ak (fun _ h=>h)) 1 _ r)) (sF hs) (pF 11 r (Tj r) hs ?_)))
 refine hO 12 (oo r r (nG a (jW jP)) ?_)
 rintro _ w3 ⟨b3,rfl,a⟩
 have hs:=(a.arr [2] r)
 refine ⟨(sF hs),?_⟩
 refine hO 13 (os r r (nR a 0 [V 0,V Q.f,V 0,T be,T be,V 0,V 0,sn,T be,V 0,sn,sn,sn] r jP r r) fun w4 a=>?_)
 have hs:=(a.arr [2] r)
 refine ⟨(sF hs),?_⟩
 refine hD (q (g (s (mq r) (n (q ?_)))))
 obtain ⟨Y5,ah,p⟩:=bs p
 refine nV (fun f w=>∃ (al:BA) (am:Int),Has f [(0,Pt ap),(1,V x1),(4,Pt b1),(5,Pt b3),(6,T al)]∧Bx w0 w cN G [.box b3 111 #[V 0,V Q.f,V 0,T be,T be,V 0,V 0,sn,T be,V 0,sn,sn,sn],.box b1 111 #[V 0,V 0,V 0,T be,T be,V 0,V 0,sn,T be,V 0,sn,sn,sn],.box ap 102 #[Z a5 x0.l a6,V am,V x0.c,V x0.e]] [.l a5 a6 x0.l]∧Ld.go (al,am)=Y5) (fun J5 aH=>?_) ?_
 ·unfold su at ah
  refine q (g (s (mp r) ?_))
  obtain ⟨bK,h6,ah⟩:=bs ah
  refine sc (ec Dh r) (qR fu (a.pr [2] [0,1] [0] r) h6) ?_
  rintro _ w6 ⟨rfl,J⟩
  replace a:=a.cn [2] [0,1] J
  refine n ?_
  rcases iv ah with ⟨h7,ah⟩|⟨h7,ah⟩
  ·refine jK (cb h7) (q (oK a [0] [1] [] (by kernel_rfl) ?_))
   replace a:=a.drew
   have hs:=(a.ad [0] [1])
   refine pF 0 r (mp r) hs (pF 1 r (xn r) hs (pF 2 r (yY r) hs (uF 3 r (fun hS=>OQ r (hS.bk 0 r) r) hs (pF 4 r (mp r) hs (pF 5 r (xn r) hs (pF 6 r (lW r) hs (uF 7 r (fun hS=>l3 r (hS.bk 0 r) r) hs (pF 8 r (kV Ct pG r r aG (a.dl 1 r) ak) hs (pF 9 r (Jr r) hs (tU 10 r (fun _ hS=>jM tT r r ((uG (ds:=[V Q.e,V Q.f,T Q.a,V Q.c]) (hS.dl 0 r) ak (fun _ h=>h)) 2 _ r)) (sF hs) (pF 11 r (mq r) hs (hD (g ?_)))))))))))))
   refine s (mp r) (s (xn r) (s (lW r) (s (l3 r (a.bk 0 r) r) (s (kE r r) (s (xn r) (s (lW r) (lq (t_n a 0 [V (wr (x0.a+1))] r mK r r) fun w8 a=>?_)))))))
   refine n ?_
   exact aH _ _ ⟨Q.a,(wr (x0.a+1)),⟨r,r,r,r,r,y⟩,(a.ad [1,2,0] [1]),sm ah⟩
  replace h7:=nt h7
  refine jD (cb h7) (wk ?_)
  exact aH _ _ ⟨(⟨#[]⟩:BA),x0.a,⟨r,r,r,r,r,y⟩,(a.ad [1,2,0] [1]),sm ah⟩
 clear a
 rintro f w ⟨al,am,hf,a,aP⟩
 obtain ⟨cO,rfl⟩:=gP _ _ hf
 clear hf
 subst aP
 replace p:=gi p
 replace p:=pi p
 refine q (q (g (s (kZ r) (n (oD (q (g (s (rA r r) (s (jZ r) (n ?_))))))))))
 rcases iv p with ⟨h9,p⟩|⟨h9,p⟩
 ·refine jK (bt h9) (q (g (s (mp r) ?_)))
  obtain ⟨an,aR,aS,p⟩:=lU p
  refine sc (ec BS r) (qd fu (a.pr [2] [0,1] [0] r) aS) ?_
  rintro _ bS ⟨rfl,J⟩
  replace a:=a.cn [2] [0,1] J
  refine s (xQ r) (lq (t_n a 1 [V 1] r mK r r) fun bT a=>?_)
  refine s (zG r) (lq (t_n a 1 [T an] r nW r r) fun bU a=>?_)
  refine n (q (g (s (mp r) ?_)))
  obtain ⟨aT,aU,p⟩:=bs p
  refine sc (ec vW r) (lQ fu (a.pr [0] [1,2] [0] r) aU) ?_
  rintro _ bV ⟨rfl,J⟩
  replace a:=a.cn [0] [1,2] J
  refine n (q (g (s (mp r) ?_)))
  replace a:=a.kr (d:=.l none 0 ([]:List Ge)) nZ
  replace a:=a.kr (d:=.l none 0 ([]:List Ge)) nZ
  replace a:=a.kr (d:=.l none 0 ([]:List Gs)) nZ
  replace a:=a.kr (d:=.l none 0 ([]:List Gs)) nZ
  obtain ⟨aV,c,aW,p⟩:=lU p
  refine sc (ec Ur r) (Jm fu (a.pr [0,1] [2] [4,3,2,1,0] r) aW) ?_
  rintro _ bW ⟨rfl,J⟩
  replace a:=a.cn [0,1] [2] J
  refine n (g (s (mp r) ?_))
  obtain ⟨aX,aY,p⟩:=bs p
  refine sc (ec vW r) (lQ fu (a.pr [0] [1,2] [0] r) aY) ?_
  rintro _ bX ⟨rfl,J⟩
  replace a:=a.cn [0] [1,2] J
  refine n (q (g (s (mY [V c.e,V c.f,V c.n,T c.b,T c.j,V c.m,V c.g,Z none c.c 0,T c.k,V c.i,Z none c.a 0,Z none c.d 0,Z none c.h 0] lS jP r (a.bk 1 r)) (lq (nR a 2 [V c.e,V c.f,V c.n,T c.b,T c.j,V c.m,V c.g,Z none c.c 0,T c.k,V c.i,Z none c.a 0,Z none c.d 0,Z none c.h 0] r jP r r) fun bY a=>?_))))
  refine n (kS ?_)
  obtain rfl:=sm p
  refine jB r (tK r lS r jP r (a.bk 2 r)) ?_
  exact mH (⟨none,0,none,0,none,0,none,0,r,(a.ad [0] [2,3,4,5,0])⟩)
 refine jD (bf h9) (q (g (s (rA r r) (s (jZ r) (n ?_)))))
 rcases iv p with ⟨ar,p⟩|⟨ar,p⟩
 ·refine jK (bt ar) (q (g (s (mp r) ?_)))
  obtain ⟨v,aZ,b0,p⟩:=lU p
  refine sc (ec AU r) (qY fu (a.pr [2] [0,1] [0] r) b0) ?_
  rintro _ bZ ⟨ab,ac,rfl,J⟩
  replace a:=a.cn [2] [0,1] J
  refine nO (jL a [[V v.e,V v.c,V v.g,T v.b,T v.d,Z ab v.a ac]] ([v]:List Ge) (kT r) r r (by decide) ⟨(jA.inn ⟨ab,ac,r,(a.dl 0 r)⟩),y⟩) ?_
  rintro _ c0 ⟨a1,rfl,a⟩
  refine s (xQ r) (lq (t_n a 2 [V 4] r mK r r) fun c1 a=>?_)
  refine s (uM r) (lq (t_n a 2 [.slice (ad a1) ([v]:List Ge).length 1] r rW r r) fun c2 a=>?_)
  refine n (q (g (s (mp r) (s (mi r) (s (kE r r) ?_)))))
  obtain ⟨B,b2,a7,b4,p⟩:=uY p
  refine sc (ec G9 r) (H_r03_block (a.pr [1] [0,2,3] [2] r) b4) ?_
  rintro _ c3 ⟨t,u,aB,rfl,J⟩
  have ag:=a.q9.size
  replace a:=a.cn [1] [0,2,3] J
  replace a:=a.rb 0 w0.heap.size r ag
  refine s rQ (s (jX r r) (s (jX r r) (s (xD r) (lq (t_n a 3 [Z t B u] r zf r r) fun c4 a=>?_))))
  refine n (q (g (s (mp r) (s (xn r) (s (qP r) (s (Bf r (a.bk 1 r) r) (s (kF r r) (s (kM r) ?_))))))))
  rcases iv p with ⟨au,p⟩|⟨au,p⟩
  ·rw [decide_eq_true au]
   refine ko r (s (mp r) ?_)
   obtain ⟨b5,b6,p⟩:=bs p
   refine ko r ?_
   refine sc (ec uX r) (mU fu (a.pr [1] [0,2,3,4] [1] r) b6) ?_
   rintro _ c5 ⟨rfl,J⟩
   replace a:=a.cn [1] [0,2,3,4] J
   refine s (kC r r) (n ?_)
   rcases iv p with ⟨ao,p⟩|⟨ao,p⟩
   ·refine jK (cb ao) (q (g (s (mp r) (s (xn r) (s (lW r) (s (l3 r (a.bk 0 r) r) (s (kE r r) (s (xn r) (s (lW r) (lq (t_n a 0 [V (wr (a7.a+1))] r mK r r) fun c6 a=>?_))))))))))
    refine n (g (s (mp r) (s (mi r) (s (kE r r) ?_))))
    obtain ⟨a8,b7,b8,b9,p⟩:=uY p
    refine sc (ec G9 r) (H_r03_block (a.pr [0] [1,2,3,4] [2] r) b9) ?_
    rintro _ c7 ⟨C,D,aC,rfl,J⟩
    have ag:=a.q9.size
    replace a:=a.cn [0] [1,2,3,4] J
    replace a:=a.rb 0 w0.heap.size r ag
    refine s rQ (s (jX r r) (s (jX r r) (s (wY r) (lq (t_n a 4 [Z C a8 D] r zf r r) fun c8 a=>?_))))
    refine n (q (g (s (mY [V 4,V Q.f,V 0,T be,T be,V 0,V 0,sn,T be,V 0,.slice (ad a1) ([v]:List Ge).length 1,Z t B u,Z C a8 D] lS jP r (a.bk 4 r)) (lq (nR a 5 [V 4,V Q.f,V 0,T be,T be,V 0,V 0,sn,T be,V 0,.slice (ad a1) ([v]:List Ge).length 1,Z t B u,Z C a8 D] r jP r r) fun c9 a=>?_))))
    refine n (kS ?_)
    replace a:=a.fz 3 5 r r
    replace a:=a.fz 2 4 r r
    replace a:=a.fz 0 2 r r
    replace a:=a.kr (d:=.l none 0 ([]:List Ge)) nZ
    obtain rfl:=sm p
    refine jB r (tK r lS r jP r (a.bk 2 r)) ?_
    exact mH (⟨none,0,(ad a1),1,t,u,C,D,r,(a.ad [0] [0,3,2,1,4])⟩)
   replace ao:=nt ao
   refine jD (cb ao) (wk (q (g (s (mY [V 4,V Q.f,V 0,T be,T be,V 0,V 0,sn,T be,V 0,.slice (ad a1) ([v]:List Ge).length 1,Z t B u,sn] lS jP r (a.bk 3 r)) (lq (nR a 4 [V 4,V Q.f,V 0,T be,T be,V 0,V 0,sn,T be,V 0,.slice (ad a1) ([v]:List Ge).length 1,Z t B u,sn] r jP r r) fun cc a=>?_)))))
   refine n (kS ?_)
   replace a:=a.fz 2 3 r r
   replace a:=a.fz 1 2 r r
   replace a:=a.kr (d:=.l none 0 ([]:List Ge)) nZ
   replace a:=a.kr (d:=.l none 0 ([]:List Gs)) nZ
   obtain rfl:=sm p
   refine jB r (tK r lS r jP r (a.bk 2 r)) ?_
   exact mH (⟨none,0,(ad a1),1,t,u,none,0,r,(a.ad [0] [1,3,2,0,5])⟩)
  rw [decide_eq_false au]
  refine jH r (jH r (s (jY r r) (n (jD r (wk (q (g (s (mY [V 4,V Q.f,V 0,T be,T be,V 0,V 0,sn,T be,V 0,.slice (ad a1) ([v]:List Ge).length 1,Z t B u,sn] lS jP r (a.bk 3 r)) (lq (nR a 4 [V 4,V Q.f,V 0,T be,T be,V 0,V 0,sn,T be,V 0,.slice (ad a1) ([v]:List Ge).length 1,Z t B u,sn] r jP r r) fun cd a=>?_)))))))))
  refine n (kS ?_)
  replace a:=a.fz 2 2 r r
  replace a:=a.fz 0 1 r r
  replace a:=a.kr (d:=.l none 0 ([]:List Ge)) nZ
  replace a:=a.kr (d:=.l none 0 ([]:List Gs)) nZ
  obtain rfl:=sm p
  refine jB r (tK r lS r jP r (a.bk 2 r)) ?_
  exact mH (⟨none,0,(ad a1),1,t,u,none,0,r,(a.ad [0] [1,3,2,0,4])⟩)
 refine jD (bf ar) (q (g (s (rA r r) (s (jZ r) (n ?_)))))
 rcases iv p with ⟨av,p⟩|⟨av,p⟩
 ·refine jK (bt av) (q (g (s (mp r) ?_)))
  obtain ⟨A,ba,bb,p⟩:=lU p
  refine sc (ec AU r) (qY fu (a.pr [2] [0,1] [0] r) bb) ?_
  rintro _ ce ⟨ae,af,rfl,J⟩
  replace a:=a.cn [2] [0,1] J
  refine nO (jL a [[V A.e,V A.c,V A.g,T A.b,T A.d,Z ae A.a af]] ([A]:List Ge) (kT r) r r (by decide) ⟨(jA.inn ⟨ae,af,r,(a.dl 0 r)⟩),y⟩) ?_
  rintro _ cg ⟨aj,rfl,a⟩
  refine s (xQ r) (lq (t_n a 2 [V 5] r mK r r) fun ch a=>?_)
  refine s (uM r) (lq (t_n a 2 [.slice (ad aj) ([A]:List Ge).length 1] r rW r r) fun ci a=>?_)
  refine n (g (s (mp r) (s (mi r) (s (kE r r) ?_))))
  obtain ⟨a9,bc,bd,bg,p⟩:=uY p
  refine sc (ec G9 r) (H_r03_block (a.pr [1] [0,2,3] [2] r) bg) ?_
  rintro _ cj ⟨E,F,aD,rfl,J⟩
  have ag:=a.q9.size
  replace a:=a.cn [1] [0,2,3] J
  replace a:=a.rb 0 w0.heap.size r ag
  refine s rQ (s (jX r r) (s (jX r r) (s (xD r) (lq (t_n a 3 [Z E a9 F] r zf r r) fun ck a=>?_))))
  refine n (q (g (s (mY [V 5,V Q.f,V 0,T be,T be,V 0,V 0,sn,T be,V 0,.slice (ad aj) ([A]:List Ge).length 1,Z E a9 F,sn] lS jP r (a.bk 3 r)) (lq (nR a 4 [V 5,V Q.f,V 0,T be,T be,V 0,V 0,sn,T be,V 0,.slice (ad aj) ([A]:List Ge).length 1,Z E a9 F,sn] r jP r r) fun cm a=>?_))))
  refine n (kS ?_)
  replace a:=a.fz 2 2 r r
  replace a:=a.fz 0 1 r r
  replace a:=a.kr (d:=.l none 0 ([]:List Ge)) nZ
  replace a:=a.kr (d:=.l none 0 ([]:List Gs)) nZ
  obtain rfl:=sm p
  refine jB r (tK r lS r jP r (a.bk 2 r)) ?_
  exact mH (⟨none,0,(ad aj),1,E,F,none,0,r,(a.ad [0] [1,3,2,0,4])⟩)
 refine jD (bf av) (q (g (s (rA r r) (s (jZ r) (n ?_)))))
 rcases iv p with ⟨aw,p⟩|⟨aw,p⟩
 ·refine jK (bt aw) (q (g (s (xQ r) (lq (t_n a 0 [V 8] r mK r r) fun cn a=>?_))))
  refine n (q (g (s (mp r) (s (mi r) (s (kE r r) ?_)))))
  obtain ⟨a2,bh,bi,bj,p⟩:=uY p
  refine sc (ec G9 r) (H_r03_block (a.pr [2] [0,1] [0] r) bj) ?_
  rintro _ co ⟨x,z,aE,rfl,J⟩
  have ag:=a.q9.size
  replace a:=a.cn [2] [0,1] J
  replace a:=a.rb 0 w0.heap.size r ag
  refine s rQ (s (jX r r) (s (jX r r) (s (xD r) (lq (t_n a 2 [Z x a2 z] r zf r r) fun Q5 a=>?_))))
  refine n (q (g (s (mp r) ?_)))
  obtain ⟨bl,bm,p⟩:=bs p
  refine sc (ec vW r) (lQ fu (a.pr [1] [0,2,3] [1] r) bm) ?_
  rintro _ cp ⟨rfl,J⟩
  replace a:=a.cn [1] [0,2,3] J
  refine n (q (g (s (mp r) ?_)))
  obtain ⟨a4,bn,bo,p⟩:=lU p
  refine sc (ec BS r) (qd fu (a.pr [0] [1,2,3] [0] r) bo) ?_
  rintro _ cq ⟨rfl,J⟩
  replace a:=a.cn [0] [1,2,3] J
  refine s (zG r) (lq (t_n a 2 [T a4] r nW r r) fun cr a=>?_)
  refine n (g (s (mp r) (s (mi r) (s (kE r r) ?_))))
  obtain ⟨aa,bp,bq,br,p⟩:=uY p
  refine sc (ec G9 r) (H_r03_block (a.pr [0] [1,2,3] [0] r) br) ?_
  rintro _ ct ⟨H,I,aF,rfl,J⟩
  have ag:=a.q9.size
  replace a:=a.cn [0] [1,2,3] J
  replace a:=a.rb 0 w0.heap.size r ag
  refine s rQ (s (jX r r) (s (jX r r) (s (wY r) (lq (t_n a 3 [Z H aa I] r zf r r) fun cu a=>?_))))
  refine n (q (g (s (mY [V 8,V Q.f,V 0,T a4,T be,V 0,V 0,sn,T be,V 0,sn,Z x a2 z,Z H aa I] lS jP r (a.bk 3 r)) (lq (nR a 4 [V 8,V Q.f,V 0,T a4,T be,V 0,V 0,sn,T be,V 0,sn,Z x a2 z,Z H aa I] r jP r r) fun cv a=>?_))))
  refine n (kS ?_)
  replace a:=a.fz 2 4 r r
  replace a:=a.fz 0 1 r r
  replace a:=a.kr (d:=.l none 0 ([]:List Ge)) nZ
  replace a:=a.kr (d:=.l none 0 ([]:List Ge)) nZ
  obtain rfl:=sm p
  refine jB r (tK r lS r jP r (a.bk 2 r)) ?_
  exact mH (⟨none,0,none,0,x,z,H,I,r,(a.ad [0] [1,0,3,2,4])⟩)
 refine jD (bf aw) (q (g (s (rA r r) (s (jZ r) (n ?_)))))
 rcases iv p with ⟨ax,p⟩|⟨ax,p⟩
 ·refine jK (bt ax) (q (g (s (xQ r) (lq (t_n a 0 [V 6] r mK r r) fun cw a=>?_))))
  refine n (q (g (s (mp r) ?_)))
  replace a:=a.kr (d:=.l none 0 ([]:List Ge)) nZ
  replace a:=a.kr (d:=.l none 0 ([]:List Ge)) nZ
  replace a:=a.kr (d:=.l none 0 ([]:List Gs)) nZ
  replace a:=a.kr (d:=.l none 0 ([]:List Gs)) nZ
  obtain ⟨bu,j,bv,p⟩:=lU p
  refine sc (ec Ga r) (wz fu (a.pr [2,0] [1] [4,3,2,1,0] r) bv) ?_
  rintro _ cx ⟨S,U,rfl,J⟩
  replace a:=a.cn [2,0] [1] J
  refine n (g (s (mp r) ?_))
  obtain ⟨bw,bz,p⟩:=bs p
  refine sc (ec vW r) (lQ fu (a.pr [0] [1,2] [0] r) bz) ?_
  rintro _ cy ⟨rfl,J⟩
  replace a:=a.cn [0] [1,2] J
  refine n (q (g (s (mY [V j.e,V j.f,V j.n,T j.b,T j.j,V j.m,V j.g,Z none j.c 0,T j.k,V j.i,Z S j.a U,Z none j.d 0,Z none j.h 0] lS jP r (a.bk 1 r)) (lq (nR a 2 [V j.e,V j.f,V j.n,T j.b,T j.j,V j.m,V j.g,Z none j.c 0,T j.k,V j.i,Z S j.a U,Z none j.d 0,Z none j.h 0] r jP r r) fun cz a=>?_))))
  refine n (kS ?_)
  obtain rfl:=sm p
  refine jB r (tK r lS r jP r (a.bk 2 r)) ?_
  exact mH (⟨none,0,S,U,none,0,none,0,r,(a.ad [0] [2,3,4,5,0])⟩)
 refine jD (bf ax) (q (g (s (rA r r) (s (jZ r) (n ?_)))))
 rcases iv p with ⟨ay,p⟩|⟨ay,p⟩
 ·refine jK (bt ay) (q (g (s (xQ r) (lq (t_n a 0 [V 7] r mK r r) fun cA a=>?_))))
  refine n (q (g (s (mp r) ?_)))
  replace a:=a.kr (d:=.l none 0 ([]:List Ge)) nZ
  replace a:=a.kr (d:=.l none 0 ([]:List Ge)) nZ
  replace a:=a.kr (d:=.l none 0 ([]:List Gs)) nZ
  replace a:=a.kr (d:=.l none 0 ([]:List Gs)) nZ
  obtain ⟨bA,m,bB,p⟩:=lU p
  refine sc (ec Ga r) (wz fu (a.pr [2,0] [1] [4,3,2,1,0] r) bB) ?_
  rintro _ cB ⟨W,X,rfl,J⟩
  replace a:=a.cn [2,0] [1] J
  refine n (g (s (mp r) ?_))
  obtain ⟨bC,bD,p⟩:=bs p
  refine sc (ec vW r) (lQ fu (a.pr [0] [1,2] [0] r) bD) ?_
  rintro _ cC ⟨rfl,J⟩
  replace a:=a.cn [0] [1,2] J
  refine n (q (g (s (mY [V m.e,V m.f,V m.n,T m.b,T m.j,V m.m,V m.g,Z none m.c 0,T m.k,V m.i,Z W m.a X,Z none m.d 0,Z none m.h 0] lS jP r (a.bk 1 r)) (lq (nR a 2 [V m.e,V m.f,V m.n,T m.b,T m.j,V m.m,V m.g,Z none m.c 0,T m.k,V m.i,Z W m.a X,Z none m.d 0,Z none m.h 0] r jP r r) fun cD a=>?_))))
  refine n (kS ?_)
  obtain rfl:=sm p
  refine jB r (tK r lS r jP r (a.bk 2 r)) ?_
  exact mH (⟨none,0,W,X,none,0,none,0,r,(a.ad [0] [2,3,4,5,0])⟩)
 refine jD (bf ay) (q (g (s (rA r r) (s (jZ r) (n ?_)))))
 rcases iv p with ⟨az,p⟩|⟨az,p⟩
 ·refine jK (bt az) (q (g (s (xQ r) (lq (t_n a 0 [V 9] r mK r r) fun cE a=>?_))))
  refine n (q (g (s (mp r) ?_)))
  replace a:=a.kr (d:=.l none 0 ([]:List Ge)) nZ
  replace a:=a.kr (d:=.l none 0 ([]:List Ge)) nZ
  replace a:=a.kr (d:=.l none 0 ([]:List Gs)) nZ
  replace a:=a.kr (d:=.l none 0 ([]:List Gs)) nZ
  obtain ⟨bE,o,bF,p⟩:=lU p
  refine sc (ec Ga r) (wz fu (a.pr [2,0] [1] [4,3,2,1,0] r) bF) ?_
  rintro _ cF ⟨Y,a0,rfl,J⟩
  replace a:=a.cn [2,0] [1] J
  refine n (g (s (mp r) ?_))
  obtain ⟨aM,aJ,p⟩:=bs p
  refine sc (ec vW r) (lQ fu (a.pr [0] [1,2] [0] r) aJ) ?_
  rintro _ bL ⟨rfl,J⟩
  replace a:=a.cn [0] [1,2] J
  refine n (q (g (s (mY [V o.e,V o.f,V o.n,T o.b,T o.j,V o.m,V o.g,Z none o.c 0,T o.k,V o.i,Z Y o.a a0,Z none o.d 0,Z none o.h 0] lS jP r (a.bk 1 r)) (lq (nR a 2 [V o.e,V o.f,V o.n,T o.b,T o.j,V o.m,V o.g,Z none o.c 0,T o.k,V o.i,Z Y o.a a0,Z none o.d 0,Z none o.h 0] r jP r r) fun bM a=>?_))))
  refine n (kS ?_)
  obtain rfl:=sm p
  refine jB r (tK r lS r jP r (a.bk 2 r)) ?_
  exact mH (⟨none,0,Y,a0,none,0,none,0,r,(a.ad [0] [2,3,4,5,0])⟩)
 refine jD (bf az) (q (g (s (mp r) ?_)))
 replace a:=a.kr (d:=.l none 0 ([]:List Ge)) nZ
 replace a:=a.kr (d:=.l none 0 ([]:List Ge)) nZ
 replace a:=a.kr (d:=.l none 0 ([]:List Gs)) nZ
 replace a:=a.kr (d:=.l none 0 ([]:List Gs)) nZ
 obtain ⟨aN,b,aK,p⟩:=lU p
 refine sc (ec U2 r) (GN fu (a.pr [2,0] [1] [4,3,2,1,0] r) aK) ?_
 rintro _ bN ⟨K,L,M,N,rfl,J⟩
 replace a:=a.cn [2,0] [1] J
 refine n (g (s (mp r) ?_))
 obtain ⟨aO,aL,p⟩:=bs p
 refine sc (ec vW r) (lQ fu (a.pr [0] [1,2] [0] r) aL) ?_
 rintro _ bO ⟨rfl,J⟩
 replace a:=a.cn [0] [1,2] J
 refine n (q (g (s (mY [V b.e,V b.f,V b.n,T b.b,T b.j,V b.m,V b.g,Z K b.c L,T b.k,V b.i,Z M b.a N,Z none b.d 0,Z none b.h 0] lS jP r (a.bk 1 r)) (lq (nR a 2 [V b.e,V b.f,V b.n,T b.b,T b.j,V b.m,V b.g,Z K b.c L,T b.k,V b.i,Z M b.a N,Z none b.d 0,Z none b.h 0] r jP r r) fun bP a=>?_))))
 refine n (kS ?_)
 obtain rfl:=sm p
 refine jB r (tK r lS r jP r (a.bk 2 r)) ?_
 exact mH (⟨K,L,M,N,none,0,none,0,r,(a.ad [0] [2,3,4,5,0])⟩)
theorem GJ (fu:Nat):xA (vX fu)∧uQ (vG fu):=by
 induction fu with
 | zero=>exact ⟨by intro a b;intros;exact nn (by assumption),by intro a b;intros;exact nn (by assumption)⟩
 | succ fu ih=>exact ⟨Jv fu (vX fu) (vG fu) ih.1 ih.2,DJ fu (vX fu) (vG fu) ih.1 ih.2⟩
theorem JD (fu:Nat):xA (vX fu):=(GJ fu).1
def ER (m:fV→Option (jT × fV)):Prop:=∀ {p:World} {t:Nat→Prop} {j:fV} {k:Nat} {a:Option Addr} {b:Nat} {R:jT × fV},Pre p t [.box k 102 #[Z a j.l b,V j.a,V j.c,V j.e]] [.l a b j.l]→m j=some R→
 Calls Try.prog 45 #[Pt k] p (qx fun v w=>jy R fun o c=>∃ (d:OA)(f:Nat)(h:OA)(i:Nat),v=.agg #[Z d o.a f,Z h o.b i]∧Bx p w t (lK [.box k 102 #[Z a j.l b,V j.a,V j.c,V j.e]]) [.box k 102 #[Z a c.l b,V c.a,V c.c,V c.e]] [.l d f o.a,.l h i o.b,.l a b c.l])
def qj (fu:Nat):Nat→(List Gr)→(List kg)→Int→Int→Int→Option (Ld (List Gr × List kg × Int × Int × Int) (jT × fV))
 | 0,_,_,_,_,_=>none
 | u+1,h,c,d,f,b=>
 if b=0 then
  (mg fu (⟨c,d,f,b⟩:fV) 0 (⟨#[114,101,99,111,114,100]⟩:BA)).bind fun m=>
  if m=true then
   (oz fu (⟨c,(wr (d+1)),f,b⟩:fV)).bind fun v=>
   jy v fun o p=>
   (lI fu p (⟨#[123]⟩:BA)).bind fun i=>
   (vV fu i).bind fun v=>
   jy v fun j k=>
   (lI fu k (⟨#[125]⟩:BA)).bind fun a=>
   (app h ([(⟨o,j⟩:Gr)]:List Gr)).bind fun t=>
   qj fu u t a.l a.a a.c a.e
  else
   some (.go (h,c,d,f,b))
 else
  some (.go (h,c,d,f,b))
def uL (fu:Nat)(a:fV):Option (Ld (List BA × List kg × Int × Int × Int) (jT × fV)):=
 if a.e=0 then
  (mg fu a 0 (⟨#[41]⟩:BA)).bind fun c=>
  if (!c)=true then
   (vV fu a).bind fun f=>
   jy f fun d b=>
   some (.go (d,b.l,b.a,b.c,b.e))
  else
   some (.go (([]:List BA),a.l,a.a,a.c,a.e))
 else
  some (.go (([]:List BA),a.l,a.a,a.c,a.e))
def qp (fu:Nat):Nat→(List Gn)→(List kg)→Int→Int→Int→Option (Ld (List Gn × List kg × Int × Int × Int) (jT × fV))
 | 0,_,_,_,_,_=>none
 | B+1,h,a,b,d,c=>
 if c=0 then
  (mg fu (⟨a,b,d,c⟩:fV) 0 (⟨#[102,117,110,99]⟩:BA)).bind fun i=>
  if i=true then
   (ix a b).bind fun C=>
   (oz fu (⟨a,(wr (b+1)),d,c⟩:fV)).bind fun F=>
   jy F fun j k=>
   (lI fu k (⟨#[40]⟩:BA)).bind fun m=>
   (uL fu m).bind fun F=>F.el (fun F=>
   jy F fun p F=>jy F fun t F=>jy F fun u F=>jy F fun v w=>
   (lI fu (⟨t,u,v,w⟩:fV) (⟨#[41]⟩:BA)).bind fun x=>
   (vX fu x 1).bind fun F=>
   jy F fun z F=>jy F fun A f=>
   (app z ([(⟨10,A,0,be,be,0,0,([]:List Ge),be,0,([]:List Ge),([]:List Gs),([]:List Gs)⟩:Gs)]:List Gs)).bind fun D=>
   (app h ([(⟨j,C.f,p,D⟩:Gn)]:List Gn)).bind fun E=>
   qp fu B E f.l f.a f.c f.e
   ) (fun o=>some (.out o))
  else
   some (.go (h,a,b,d,c))
 else
  some (.go (h,a,b,d,c))
def vk (fu:Nat)(u:fV):Option (jT × fV):=
 (qj fu fu ([]:List Gr) u.l u.a u.c u.e).bind fun v=>v.el (fun v=>
 jy v fun h v=>jy v fun k v=>jy v fun m v=>jy v fun p t=>
 (qp fu fu ([]:List Gn) k m p t).bind fun v=>v.el (fun v=>
 jy v fun f v=>jy v fun b v=>jy v fun c v=>jy v fun d a=>
 if a=0 then
  (oM fu (⟨b,c,d,a⟩:fV) 0 0).bind fun i=>
  if (!i)=true then
   (oP fu (⟨b,c,d,a⟩:fV) 7).bind fun j=>
   some ((⟨h,f⟩:jT),j)
  else
   some ((⟨h,f⟩:jT),(⟨b,c,d,a⟩:fV))
 else
  some ((⟨h,f⟩:jT),(⟨b,c,d,a⟩:fV))
 ) (fun o=>some o)
 ) (fun o=>some o)
theorem FU (fu:Nat):ER (vk fu):=by
 intro w0 cw x0 a2 x z R hP L
 unfold vk at L
 have a:=hP.bx
 clear hP
 generalize hG:lK _=G at a ⊢
 refine cf Try.func45 r ?_
 refine lJ [(0,Pt a2)] ⟨r,y⟩ fun cx=>?_
 refine q (g (tF a (jW sD) fun w1 b1 a=>?_))
 refine n (q (g (tF a (jW sD) fun w2 b2 a=>?_)))
 refine n (q ?_)
 replace a:=a.BU Gr 127
 obtain ⟨Y3,u,L⟩:=bs L
 refine nV (fun f w=>∃ (p:List Gr) (j:OA)(m:Nat)(t:LV)(F:List kg) (M:Int)(N:Int)(Q:Int),Has f [(0,Pt a2),(2,Pt b1),(3,Pt b2)]∧Bx w0 w cw G [O w0.heap.size j m 127 Gr t,.box b2 26 #[Z j p m,sn],.box b1 26 #[sn,sn],.box a2 102 #[Z x F z,V M,V N,V Q]] [.l x z F,.els t p]∧Ld.go (p,F,M,N,Q)=Y3) (fun J3 aM=>?_) ?_
 ·refine oD (kK (fun cy f w=>∃ (p:List Gr) (j:OA)(m:Nat)(t:LV)(F:List kg) (M:Int)(N:Int)(Q:Int),Has f [(0,Pt a2),(2,Pt b1),(3,Pt b2)]∧Bx w0 w cw G [O w0.heap.size j m 127 Gr t,.box b2 26 #[Z j p m,sn],.box b1 26 #[sn,sn],.box a2 102 #[Z x F z,V M,V N,V Q]] [.l x z F,.els t p]∧qj fu cy p F M N Q=some Y3) fu ⟨([]:List Gr),none,0,[],x0.l,x0.a,x0.c,x0.e,⟨r,r,r,y⟩,(a.dp [1,0]),u⟩ ?_)
  clear a u
  rintro n3 f w ⟨p,j,m,t,F,M,N,Q,hf,a,u⟩ K3 aZ
  obtain ⟨cx,rfl⟩:=gP _ _ hf
  clear hf
  cases n3 with
  | zero=>exact nn u
  | succ n3=>
   rw [qj] at u
   refine q (q (g (s (mp r) (s (xn r) (s (qP r) (s (Bf r (a.bk 3 r) r) (s (kF r r) (s (kM r) ?_))))))))
   rcases iv u with ⟨h5,u⟩|⟨h5,u⟩
   ·rw [decide_eq_true h5]
    refine ko r (s (mp r) ?_)
    obtain ⟨bB,h6,u⟩:=bs u
    refine ko r ?_
    refine sc (ec uX r) (mU fu (a.pr [3] [0,1,2] [0] r) h6) ?_
    rintro _ w6 ⟨rfl,X⟩
    replace a:=a.cn [3] [0,1,2] X
    refine s (kC r r) (n ?_)
    rcases iv u with ⟨h7,u⟩|⟨h7,u⟩
    ·refine jK (cb h7) (wk (oD (q (g (s (mp r) (s (xn r) (s (lW r) (s (l3 r (a.bk 0 r) r) (s (kE r r) (s (xn r) (s (lW r) (lq (t_n a 0 [V (wr (M+1))] r mK r r) fun w8 a=>?_))))))))))))
     refine n (q (g (s (mp r) ?_)))
     obtain ⟨a4,bC,h9,u⟩:=lU u
     refine sc (ec BS r) (qd fu (a.pr [0] [1,2,3] [1] r) h9) ?_
     rintro _ w9 ⟨rfl,X⟩
     replace a:=a.cn [0] [1,2,3] X
     refine s (Ti r) (tF a (jW xB) fun bF bG a=>?_)
     refine lq (nR a 0 [T a4,sn] r xB r r) fun bH a=>?_
     refine n (q (g (s (mp r) ?_)))
     obtain ⟨b3,b4,u⟩:=bs u
     refine sc (ec vW r) (lQ fu (a.pr [1] [0,2,3,4] [0] r) b4) ?_
     rintro _ bI ⟨rfl,X⟩
     replace a:=a.cn [1] [0,2,3,4] X
     refine n (q (g (s (mp r) ?_)))
     obtain ⟨a3,b5,b6,u⟩:=lU u
     refine sc (ec TG r) (CO fu (a.pr [0] [1,2,3,4] [0] r) b6) ?_
     rintro _ bJ ⟨H,I,aI,rfl,X⟩
     have aj:=a.q9.size
     replace a:=a.cn [0] [1,2,3,4] X
     replace a:=a.rb 0 w0.heap.size r aj
     refine s (Ba r) (lq (t_n a 2 [Z H a3 I] r nS r r) fun bK a=>?_)
     refine n (q (g (s (mp r) ?_)))
     obtain ⟨a5,b7,u⟩:=bs u
     refine sc (ec vW r) (lQ fu (a.pr [1] [0,2,3,4,5] [1] r) b7) ?_
     rintro _ bL ⟨rfl,X⟩
     replace a:=a.cn [1] [0,2,3,4,5] X
     refine n (g (s (CP r) (s (TT r (a.bk 4 r) r) (s (mY [T a4,Z H a3 I] Ny xB r (a.bk 2 r)) ?_))))
     replace a:=a.fz 1 1 r r
     refine nO (jL a [[T a4,Z H a3 I]] ([(⟨a4,a3⟩:Gr)]:List Gr) (La r) r r (by decide) ⟨(nk.inn ⟨H,I,r,(a.dl 0 r)⟩),y⟩) ?_
     rintro _ bM ⟨bN,rfl,a⟩
     obtain ⟨ay,aO,u⟩:=bs u
     refine nO (kN a 3 8 r r GD xB r (by decide) (by decide) (Nat.le_refl _) r r (a.zQ 0 0 r r) aO) ?_
     rintro _ bO ⟨az,aA,b8,rfl,a⟩
     refine s (CP r) (lq (t_n a 4 [Z az ay aA] r VT r r) fun bP a=>?_)
     refine n ?_
     exact aZ n3 _ _ (Nat.lt_succ_self _) ⟨ay,az,aA,b8,a5.l,a5.a,a5.c,a5.e,⟨r,r,r,y⟩,(a.ad [3,4,5,1] [2,8]),u⟩
    replace h7:=nt h7
    refine jD (cb h7) (uJ ?_)
    exact aM _ _ ⟨p,j,m,t,F,M,N,Q,⟨r,r,r,y⟩,(a.ad [1,2,3,0] [1,2]),sm u⟩
   rw [decide_eq_false h5]
   refine jH r (jH r (s (jY r r) (n (jD r (uJ ?_)))))
   exact aM _ _ ⟨p,j,m,t,F,M,N,Q,⟨r,r,r,y⟩,a,sm u⟩
 clear a
 rintro f w ⟨p,j,m,t,F,M,N,Q,hf,a,b9⟩
 obtain ⟨cx,rfl⟩:=gP _ _ hf
 clear hf
 subst b9
 replace L:=gi L
 replace L:=pi (mh L)
 refine q ?_
 replace a:=a.BU Gn 82
 obtain ⟨aP,b,L⟩:=bs L
 refine nV (fun f w=>∃ (o:List Gn) (c:OA)(d:Nat)(v:LV)(A:List kg) (C:Int)(D:Int)(E:Int),Has f [(0,Pt a2),(2,Pt b1),(3,Pt b2)]∧Bx w0 w cw G [O w0.heap.size c d 82 Gn v,O w0.heap.size j m 127 Gr t,.box b2 26 #[Z j p m,Z c o d],.box b1 26 #[sn,sn],.box a2 102 #[Z x A z,V C,V D,V E]] [.l x z A,.els v o,.els t p]∧Ld.go (o,A,C,D,E)=aP) (fun bQ ax=>?_) ?_
 ·refine oD (kK (fun cy f w=>∃ (o:List Gn) (c:OA)(d:Nat)(v:LV)(A:List kg) (C:Int)(D:Int)(E:Int),Has f [(0,Pt a2),(2,Pt b1),(3,Pt b2)]∧Bx w0 w cw G [O w0.heap.size c d 82 Gn v,O w0.heap.size j m 127 Gr t,.box b2 26 #[Z j p m,Z c o d],.box b1 26 #[sn,sn],.box a2 102 #[Z x A z,V C,V D,V E]] [.l x z A,.els v o,.els t p]∧qp fu cy o A C D E=some aP) fu ⟨([]:List Gn),none,0,[],F,M,N,Q,⟨r,r,r,y⟩,(a.dp [1,0,2]),b⟩ ?_)
  clear a b
  rintro aB f w ⟨o,c,d,v,A,C,D,E,hf,a,b⟩ bR aQ
  obtain ⟨cx,rfl⟩:=gP _ _ hf
  clear hf
  cases aB with
  | zero=>exact nn b
  | succ aB=>
   rw [qp] at b
   refine q (q (g (s (mp r) (s (xn r) (s (qP r) (s (Bf r (a.bk 4 r) r) (s (kF r r) (s (kM r) ?_))))))))
   rcases iv b with ⟨aC,b⟩|⟨aC,b⟩
   ·rw [decide_eq_true aC]
    refine ko r (s (mp r) ?_)
    obtain ⟨ba,bb,b⟩:=bs b
    refine ko r ?_
    refine sc (ec uX r) (mU fu (a.pr [4] [0,1,2,3] [0] r) bb) ?_
    rintro _ bS ⟨rfl,X⟩
    replace a:=a.cn [4] [0,1,2,3] X
    refine s (kC r r) (n ?_)
    rcases iv b with ⟨ak,b⟩|⟨ak,b⟩
    ·refine jK (cb ak) (wk (oD (q (oK a [0] [1] [] (by kernel_rfl) ?_))))
     replace a:=a.drew
     have hs:=(a.ad [0] [1])
     refine pF 0 r (mp r) hs (pF 1 r (xn r) hs (pF 2 r (yY r) hs (uF 3 r (fun hS=>OQ r (hS.bk 0 r) r) hs (pF 4 r (mp r) hs (pF 5 r (xn r) hs (pF 6 r (lW r) hs (uF 7 r (fun hS=>l3 r (hS.bk 0 r) r) hs ?_)))))))
     obtain ⟨Y,ah,b⟩:=bs b
     obtain ⟨bT,aR,ah⟩:=kH ah
     refine pF 8 r (kV Ct pG r r aR (a.dl 1 r) ah) hs (pF 9 r (Il r) hs (tU 10 r (fun _ hS=>jM EK r r ((uG (ds:=[V Y.e,V Y.f,T Y.a,V Y.c]) (hS.dl 0 r) ah (fun _ h=>h)) 1 _ r)) (sF hs) (pF 11 r (U1 r) hs ?_)))
     refine hO 12 (oo r r (nG a (jW nT)) ?_)
     rintro _ bU ⟨aS,rfl,a⟩
     have hs:=(a.ad [1] [1])
     refine ⟨(sF hs),?_⟩
     refine hO 13 (os r r (nR a 0 [T be,V Y.f,sn,sn] r nT r r) fun bV a=>?_)
     have hs:=(a.ad [1] [1])
     refine ⟨(sF hs),?_⟩
     refine hD (q (g (s (mp r) (s (xn r) (s (lW r) (s (l3 r (a.bk 1 r) r) (s (kE r r) (s (xn r) (s (lW r) (lq (t_n a 1 [V (wr (C+1))] r mK r r) fun bW a=>?_))))))))))
     refine n (q (g (s (mp r) ?_)))
     obtain ⟨S,bc,bd,b⟩:=lU b
     refine sc (ec BS r) (qd fu (a.pr [1] [0,2,3,4,5] [1] r) bd) ?_
     rintro _ bX ⟨rfl,X⟩
     replace a:=a.cn [1] [0,2,3,4,5] X
     refine s (KF r) (lq (t_n a 1 [T S] r nW r r) fun bY a=>?_)
     refine n (q (g (s (mp r) ?_)))
     obtain ⟨U,bg,b⟩:=bs b
     refine sc (ec vW r) (lQ fu (a.pr [0] [1,2,3,4,5] [0] r) bg) ?_
     rintro _ bZ ⟨rfl,X⟩
     replace a:=a.cn [0] [1,2,3,4,5] X
     refine n (q ?_)
     replace a:=a.BU BA 9
     obtain ⟨bh,B,b⟩:=bs b
     refine nV (fun f w=>∃ (W:List BA) (J:OA)(K:Nat)(a6:LV)(a7:List kg) (ac:Int)(ae:Int)(af:Int),Has f [(0,Pt a2),(2,Pt b1),(3,Pt b2),(5,Pt aS)]∧Bx w0 w cw G [O w0.heap.size J K 9 BA a6,.box a2 102 #[Z x a7 z,V ac,V ae,V af],.box aS 82 #[T S,V Y.f,Z J W K,sn],O w0.heap.size c d 82 Gn v,O w0.heap.size j m 127 Gr t,.box b2 26 #[Z j p m,Z c o d],.box b1 26 #[sn,sn]] [.l x z a7,.els a6 W,.els v o,.els t p]∧Ld.go (W,a7,ac,ae,af)=bh) (fun c0 al=>?_) ?_
     ·unfold uL at B
      refine q (g (s (mp r) (s (xn r) (s (qP r) (s (Bf r (a.bk 1 r) r) (s (kF r r) (s (kM r) ?_)))))))
      rcases iv B with ⟨aD,B⟩|⟨aD,B⟩
      ·rw [decide_eq_true aD]
       refine ko r (s (mp r) ?_)
       obtain ⟨bi,bj,B⟩:=bs B
       refine ko r ?_
       refine sc (ec uX r) (mU fu (a.pr [1] [0,2,3,4,5,6] [1] r) bj) ?_
       rintro _ c1 ⟨rfl,X⟩
       replace a:=a.cn [1] [0,2,3,4,5,6] X
       refine ko r (s (zL r) (s (kC r r) (n ?_)))
       rcases iv B with ⟨am,B⟩|⟨am,B⟩
       ·refine jK (cb am) (g (s (mp r) ?_))
        obtain ⟨ag,a8,bl,B⟩:=lU B
        refine sc (ec TG r) (CO fu (a.pr [0] [1,2,3,4,5,6] [2] r) bl) ?_
        rintro _ c2 ⟨a0,a1,ai,rfl,X⟩
        have aj:=a.q9.size
        replace a:=a.cn [0] [1,2,3,4,5,6] X
        replace a:=a.rb 0 w0.heap.size r aj
        refine s (E5 r) (lq (t_n a 3 [Z a0 ag a1] r nS r r) fun c3 a=>?_)
        refine n ?_
        exact al _ _ ⟨ag,a0,a1,ai,a8.l,a8.a,a8.c,a8.e,⟨r,r,r,r,y⟩,(a.ad [0,1,3,4,5,6,7] [1,0,8,9]),sm B⟩
       replace am:=nt am
       refine jD (cb am) (wk ?_)
       exact al _ _ ⟨([]:List BA),none,0,[],U.l,U.a,U.c,U.e,⟨r,r,r,r,y⟩,(a.ad [1,0,2,3,4,5,6] [2,1,6,7]),sm B⟩
      rw [decide_eq_false aD]
      refine jH r (jH r (jH r (s (jY r r) (n (jD r (wk ?_))))))
      exact al _ _ ⟨([]:List BA),none,0,[],U.l,U.a,U.c,U.e,⟨r,r,r,r,y⟩,(a.dp [1,0,5,6]),sm B⟩
     clear a
     rintro f w ⟨W,J,K,a6,a7,ac,ae,af,hf,a,aT⟩
     obtain ⟨cx,rfl⟩:=gP _ _ hf
     clear hf
     subst aT
     replace b:=gi b
     replace b:=pi (mh b)
     refine q (g (s (mp r) ?_))
     obtain ⟨bm,bn,b⟩:=bs b
     refine sc (ec vW r) (lQ fu (a.pr [1] [0,2,3,4,5,6] [0] r) bn) ?_
     rintro _ c4 ⟨rfl,X⟩
     replace a:=a.cn [1] [0,2,3,4,5,6] X
     refine n (q (g (s (mp r) ?_)))
     obtain ⟨bo,an,a9,bp,b⟩:=uY b
     refine sc (ec G9 r) (JD fu (a.pr [0] [1,2,3,4,5,6] [0] r) bp) ?_
     rintro _ c5 ⟨aJ,aK,aL,rfl,X⟩
     have aj:=a.q9.size
     replace a:=a.cn [0] [1,2,3,4,5,6] X
     replace a:=a.rb 0 w0.heap.size r aj
     refine s rQ (s (jX r r) (s (jX r r) (s (mO r) (s (xi r) (n (q (g (s (l6 r) (s (mi r) (s (Ov r r) (nO (jL a [[V 10,V an,V 0,T be,T be,V 0,V 0,sn,T be,V 0,sn,sn,sn]] ([(⟨10,an,0,be,be,0,0,([]:List Ge),be,0,([]:List Ge),([]:List Gs),([]:List Gs)⟩:Gs)]:List Gs) (q8 r) r r (by decide) ⟨(jN.inn ⟨none,0,none,0,none,0,none,0,r,nZ,nZ,nZ,nZ⟩),y⟩) ?_)))))))))))
     rintro _ c6 ⟨c7,rfl,a⟩
     obtain ⟨ao,aU,b⟩:=bs b
     refine nO (kN a 1 1 r r Ag jP r (by decide) (by decide) (Nat.le_refl _) r r (a.zQ 0 0 r r) aU) ?_
     rintro _ c8 ⟨ap,aq,c9,rfl,a⟩
     refine s (CG r) (lq (t_n a 4 [Z ap ao aq] r zf r r) fun cc a=>?_)
     refine n (g (s (Ah r) (s (OP r (a.bk 7 r) r) (s (mY [T S,V Y.f,Z J W K,Z ap ao aq] Em nT r (a.bk 4 r)) ?_))))
     replace a:=a.fz 3 5 r r
     replace a:=a.fz 1 2 r r
     refine nO (jL a [[T S,V Y.f,Z J W K,Z ap ao aq]] ([(⟨S,Y.f,W,ao⟩:Gn)]:List Gn) (Ku r) r r (by decide) ⟨(nH.inn ⟨J,K,ap,aq,r,(a.dl 1 r),(a.dl 0 r)⟩),y⟩) ?_
     rintro _ cd ⟨ce,rfl,a⟩
     obtain ⟨aE,aV,b⟩:=bs b
     refine nO (kN a 4 7 r r Cj nT r (by decide) (by decide) (Nat.le_refl _) r r (a.zQ 0 0 r r) aV) ?_
     rintro _ cg ⟨aF,aG,bq,rfl,a⟩
     refine s (Ah r) (lq (t_n a 6 [Z aF aE aG] r Rc r r) fun ch a=>?_)
     refine n ?_
     exact aQ aB _ _ (Nat.lt_succ_self _) ⟨aE,aF,aG,bq,a9.l,a9.a,a9.c,a9.e,⟨r,r,r,y⟩,(a.ad [4,5,6,7,2] [4,7,8]),b⟩
    replace ak:=nt ak
    refine jD (cb ak) (uJ ?_)
    exact ax _ _ ⟨o,c,d,v,A,C,D,E,⟨r,r,r,y⟩,(a.ad [1,2,3,4,0] [1,2,3]),sm b⟩
   rw [decide_eq_false aC]
   refine jH r (jH r (s (jY r r) (n (jD r (uJ ?_)))))
   exact ax _ _ ⟨o,c,d,v,A,C,D,E,⟨r,r,r,y⟩,a,sm b⟩
 clear a
 rintro f w ⟨o,c,d,v,A,C,D,E,hf,a,aW⟩
 obtain ⟨cx,rfl⟩:=gP _ _ hf
 clear hf
 subst aW
 replace L:=gi L
 replace L:=pi (mh L)
 refine q (q (g (s (mp r) (s (xn r) (s (qP r) (s (Bf r (a.bk 4 r) r) (s (kF r r) (s (kM r) ?_))))))))
 rcases iv L with ⟨aH,L⟩|⟨aH,L⟩
 ·rw [decide_eq_true aH]
  refine ko r (s (mp r) ?_)
  obtain ⟨br,bu,L⟩:=bs L
  refine ko r ?_
  refine sc (ec Dh r) (qR fu (a.pr [4] [0,1,2,3] [0] r) bu) ?_
  rintro _ ci ⟨rfl,X⟩
  replace a:=a.cn [4] [0,1,2,3] X
  refine ko r (s (zL r) (s (kC r r) (n ?_)))
  rcases iv L with ⟨ar,L⟩|⟨ar,L⟩
  ·refine jK (cb ar) (g (s (mp r) ?_))
   obtain ⟨bv,bw,L⟩:=bs L
   refine sc (ec Dq r) (qX fu (a.pr [0] [1,2,3,4] [1] r) bw) ?_
   rintro _ cj ⟨rfl,X⟩
   replace a:=a.cn [0] [1,2,3,4] X
   refine n (q (g (s (mY [Z j p m,Z c o d] Cx sD r (a.bk 3 r)) (lq (nR a 4 [Z j p m,Z c o d] r sD r r) fun ck a=>?_))))
   refine n (kS ?_)
   replace a:=a.fz 2 4 r r
   replace a:=a.fz 1 4 r r
   obtain rfl:=sm L
   refine jB r (tK r Cx r sD r (a.bk 2 r)) ?_
   exact mH (⟨j,m,c,d,r,(a.ad [0] [1,0,2])⟩)
  replace ar:=nt ar
  refine jD (cb ar) (wk (q (g (s (mY [Z j p m,Z c o d] Cx sD r (a.bk 3 r)) (lq (nR a 4 [Z j p m,Z c o d] r sD r r) fun cm a=>?_)))))
  refine n (kS ?_)
  replace a:=a.fz 2 3 r r
  replace a:=a.fz 1 3 r r
  obtain rfl:=sm L
  refine jB r (tK r Cx r sD r (a.bk 2 r)) ?_
  exact mH (⟨j,m,c,d,r,(a.ad [0] [1,0,3])⟩)
 rw [decide_eq_false aH]
 refine jH r (jH r (jH r (s (jY r r) (n (jD r (wk (q (g (s (mY [Z j p m,Z c o d] Cx sD r (a.bk 2 r)) (lq (nR a 3 [Z j p m,Z c o d] r sD r r) fun cn a=>?_))))))))))
 refine n (kS ?_)
 replace a:=a.fz 1 2 r r
 replace a:=a.fz 0 2 r r
 obtain rfl:=sm L
 refine jB r (tK r Cx r sD r (a.bk 1 r)) ?_
 exact mH (⟨j,m,c,d,r,(a.ad [2] [1,0,2])⟩)
def Jf (m:BA→Option (jT × Int × Int)):Prop:=∀ {f:World} {k:Nat→Prop} {h:BA}  {R:jT × Int × Int},Pre f k [] []→m h=some R→
 Calls Try.prog 32 #[T h] f (qx fun v w=>jy R fun e R=>jy R fun i j=>∃ (a:OA)(b:Nat)(c:OA)(d:Nat),v=.tuple #[.agg #[Z a e.a b,Z c e.b d],V i,V j]∧Bx f w k (lK []) [] [.l a b e.a,.l c d e.b])
def vS (fu:Nat)(h:BA):Option (jT × Int × Int):=
 (zy fu h).bind fun i=>
 jy i fun c i=>jy i fun d b=>
 if b≠0 then
  some ((⟨([]:List Gr),([]:List Gn)⟩:jT),d,b)
 else
  (vk fu (⟨c,0,0,0⟩:fV)).bind fun i=>
  jy i fun f a=>
  if a.e≠0 then
   some ((⟨([]:List Gr),([]:List Gn)⟩:jT),a.c,a.e)
  else
   some (f,0,0)
theorem Dn (fu:Nat):Jf (vS fu):=by
 intro E a3 F R z j
 unfold vS at j
 have a:=z.bx
 clear z
 generalize Q:lK _=G at a ⊢
 refine cf Try.func32 r (lJ [(0,T F)] ⟨r,y⟩ fun a4=>q (g (tF a (jW sD) fun S U a=>s (xi r) (s (xi r) (n (q (g (s (kZ r) ?_))))))))
 obtain ⟨A,B,C,H,j⟩:=uY j
 refine sc (ec Yp r) (Kz fu (a.pr [] [0] [] r) H) ?_
 rintro _ W ⟨p,t,u,rfl,v⟩
 have w:=a.q9.size
 replace a:=a.cn [] [0] v
 replace a:=a.rb 0 E.heap.size r w
 refine s rQ (s (jX r r) (s (jX r r) (s (jX r r) (s (mO r) (s (xi r) (s (xi r) (n (q (q (g (s (mi r) (s (p8 r r) (n ?_)))))))))))))
 rcases iv j with ⟨x,j⟩|⟨x,j⟩
 ·refine jK (bt x) (q (g (s TU (s (mi r) (s (mi r) (lq (nR a 1 [sn,sn] r sD r r) fun X a=>s (xi r) (s (xi r) (n (kS ?_)))))))))
  replace a:=a.kr (d:=.l none 0 ([]:List Gr)) nZ
  replace a:=a.kr (d:=.l none 0 ([]:List Gn)) nZ
  obtain rfl:=sm j
  exact xK r (tK r Cx r sD r (a.bk 1 r)) (kW r) (kW r) (mH (mH (⟨none,0,none,0,r,(a.ad [] [1,0])⟩)))
 refine jD (bf x) (wk (q (g (s (l6 r) (s (Tc r) (tF a (xG r) fun Y b7 a=>s (LU r) (n (q (g (s (mp r) ?_))))))))))
 replace a:=a.fz 1 0 r r
 obtain ⟨h,D,I,j⟩:=lU j
 refine sc (ec XF r) (FU fu (a.pr [0] [1] [0] r) I) ?_
 rintro _ w9 ⟨b,c,e,f,rfl,v⟩
 replace a:=a.cn [0] [1] v
 refine tF a (jW sD) fun J K a=>lq (nR a 0 [Z b h.a c,Z e h.b f] r sD r r) fun L a=>n (q (q (g (s (mp r) (s (xn r) (s (qP r) (s (Bf r (a.bk 1 r) r) (s (p8 r r) (n ?_)))))))))
 rcases iv j with ⟨o,j⟩|⟨o,j⟩
 ·refine jK (bt o) (q (oK a [1] [] [] (by kernel_rfl) ?_))
  replace a:=a.drew
  have m:=(a.ad [1] [])
  refine pF 0 r (TU) m (pF 1 r (mp r) m (pF 2 r (xn r) m (pF 3 r (P9 r) m (uF 4 r (fun hS=>l3 r (hS.bk 0 r) r) m (pF 5 r (mp r) m (pF 6 r (xn r) m (pF 7 r (qP r) m (uF 8 r (fun hS=>Bf r (hS.bk 0 r) r) m (hO 9 (os r r (nR a 2 [sn,sn] r sD r r) fun M a=>?_))))))))))
  have m:=(a.ad [1] [])
  refine ⟨(sF m),(pF 10 r (xi r) m (pF 11 r (xi r) m (hD (kS ?_))))⟩
  replace a:=a.kr (d:=.l none 0 ([]:List Gr)) nZ
  replace a:=a.kr (d:=.l none 0 ([]:List Gn)) nZ
  obtain rfl:=sm j
  exact xK r (tK r Cx r sD r (a.bk 2 r)) (kW r) (kW r) (mH (mH (⟨none,0,none,0,r,(a.ad [] [1,0])⟩)))
 refine jD (bf o) (wk (q (g (s (mY [Z b h.a c,Z e h.b f] Cx sD r (a.bk 0 r)) (lq (nR a 2 [Z b h.a c,Z e h.b f] r sD r r) fun N a=>s (xi r) (s (xi r) (n (kS ?_))))))))
 obtain rfl:=sm j
 exact xK r (tK r Cx r sD r (a.bk 2 r)) (kW r) (kW r) (mH (mH (⟨b,c,e,f,r,(a.ad [] [0,1])⟩)))
end
end Go.Proofs.Ytfglbdkfnphjgaa
