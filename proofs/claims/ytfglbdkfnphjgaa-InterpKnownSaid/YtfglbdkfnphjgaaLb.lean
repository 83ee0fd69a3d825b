/- Contracts, printed by gen3.py. -/
import Derived.Test.YtfglbdkfnphjgaaZ5
import Derived.Test.YtfglbdkfnphjgaaLa
set_option linter.unusedVariables false
set_option maxHeartbeats 12800000
set_option linter.unusedSimpArgs false
set_option maxRecDepth 4000
namespace Go.Proofs.Ytfglbdkfnphjgaa
open Go.RowKit Go.Fw
noncomputable section
def Kn (m:gP→Int→Option (gP)):Prop:=∀ {h:World} {j:Nat→Prop} {d:gP} {i:Int} {f:Nat} {a:Option Addr} {b:Nat} {c:gP},Pre h j [.box f 102 #[Z a d.l b,V d.a,V d.c,V d.e]] [.l a b d.l]→m d i=some c→
 Calls Try.prog 68 #[Pt f,V i] h (qQ fun v w=>v=.tuple #[]∧Bx h w j (lS [.box f 102 #[Z a d.l b,V d.a,V d.c,V d.e]]) [.box f 102 #[Z a c.l b,V c.a,V c.c,V c.e]] [.l a b c.l])
def oN (fu:Nat)(a:gP) (b:Int):Option (gP):=
 if a.e=0 then
  (ix a.l a.a).bind fun c=>
  some (⟨a.l,a.a,c.f,b⟩:gP)
 else
  some a
theorem qZ (fu:Nat):Kn (oN fu):=by
 intro A F j u t d f z x o
 unfold oN at o
 have b:=x.bx
 clear x
 generalize B:lS _=G at b ⊢
 refine cf Try.func68 r (lM [(0,Pt t),(1,V u)] ⟨r,r,y⟩ fun H=>q (g (s (mp r) (s (xn r) (s (qV r) (s (BK r (b.bk 0 r) r) (s (kH r r) (n ?_))))))))
 rcases iv o with ⟨v,o⟩|⟨v,o⟩
 ·refine jJ (bt v) (Kr b [] [0] [0] [0] [16,19] (by kernel_rfl) ?_)
  replace b:=b.drew
  have a:=(b.arr [] r)
  have c:=b
  refine pL 0 r (mp r) a c (pL 1 r (mp r) a c (pL 2 r (mi r) a c (pL 3 r (mp r) a c (pL 4 r (xn r) a c (pL 5 r (yV r) a c (tS 1 6 r (fun _ hS=>Oy r (hS.bk 0 r) r) (nA a c) (pL 7 r (mp r) a c (pL 8 r (xn r) a c (pL 9 r (lZ r) a c (tS 1 10 r (fun _ hS=>l3 r (hS.bk 0 r) r) (nA a c) ?_))))))))))
  obtain ⟨p,m,o⟩:=bs o
  obtain ⟨C,w,m⟩:=kR m
  refine pL 11 r (kW Cu oZ r r w (b.dl 0 r) m) a c (pL 12 r (Io r) a c (tU 13 r (fun _ hS=>jP F8 r r ((uK (ds:=[V p.e,V p.f,T p.a,V p.c]) (hS.dl 0 r) m (fun _ h=>h)) 1 _ r)) (nA a c) (pL 14 r (xn r) a c (pL 15 r (qV r) a c (hO 16 (os r r (t_n b 0 [V u] r Ll r r) fun D b=>?_))))))
  have a:=(b.arr [] r)
  refine ⟨(sy 16 a),(tP 17 r (fun _=>xn r) (sy 16 a) (tP 18 r (fun _=>P8 r) (sy 16 a) (hO 19 (os r r (t_n b 0 [V p.f] r mP r r) fun E b=>?_))))⟩
  have a:=(b.arr [] r)
  refine ⟨(sy 16 a),(hD ?_)⟩
  obtain rfl:=sm o
  exact zi (P:=Try.prog) (fn:=Try.f68) r ⟨r,b⟩
 refine jD (bf v) (wk ?_)
 obtain rfl:=sm o
 exact zi (P:=Try.prog) (fn:=Try.f68) r ⟨r,b⟩
def NQ (m:gP→Int→BA→Option (Bool)):Prop:=∀ {f:World} {k:Nat→Prop} {c:gP} {h:Int} {i:BA} {d:Nat} {a:Option Addr} {b:Nat} {j:Bool},Pre f k [.box d 102 #[Z a c.l b,V c.a,V c.c,V c.e]] [.l a b c.l]→m c h i=some j→
 Calls Try.prog 62 #[Pt d,V h,T i] f (qQ fun v w=>v=.bool j∧Bx f w k (lS [.box d 102 #[Z a c.l b,V c.a,V c.c,V c.e]]) [.box d 102 #[Z a c.l b,V c.a,V c.c,V c.e]] [.l a b c.l])
def mq (fu:Nat)(a:gP) (c:Int)(d:BA):Option (Bool):=
 if (a.l.length:Int)≤(wr (a.a+c)) then
  some false
 else
  (ix a.l (wr (a.a+c))).bind fun b=>
  if b.e=3 then
   some (decide (b.a=d))
  else
   if b.e=4 then
    some (decide (b.a=d))
   else
    some false
theorem mY (fu:Nat):NQ (mq fu):=by
 intro B J p z A o j m C x c
 unfold mq at c
 have b:=x.bx
 clear x
 generalize D:lS _=G at b ⊢
 refine cf Try.func62 r (lM [(0,Pt o),(1,V z),(2,T A)] ⟨r,r,r,y⟩ fun K=>q (g (s (ko r) (n (q (q (qc b [0] [] [] (by kernel_rfl) ?_)))))))
 replace b:=b.drew
 have a:=(b.dp [])
 refine pF 0 r (mp r) a (pF 1 r (xn r) a (pF 2 r (lZ r) a (uF 3 r (fun hS=>l3 r (hS.bk 0 r) r) a (pF 4 r (mi r) a (pF 5 r (kJ r r) a (pF 6 r (mp r) a (pF 7 r (xn r) a (pF 8 r (yV r) a (uF 9 r (fun hS=>Oy r (hS.bk 0 r) r) a (pF 10 r (lF Cu r) a (pF 11 r (AX r r) a (hD ?_))))))))))))
 rcases iv c with ⟨t,c⟩|⟨t,c⟩
 ·refine jJ (bt t) (q (g (s (ko r) (n (kU ?_)))))
  obtain rfl:=sm c
  exact jB r (lq r) ⟨r,b⟩
 refine jD (bf t) (wk (q (qc b [0] [0] [] (by kernel_rfl) ?_)))
 replace b:=b.drew
 have a:=b
 refine pF 0 r (mp r) a (pF 1 r (xn r) a (pF 2 r (yV r) a (uF 3 r (fun hS=>Oy r (hS.bk 0 r) r) a (pF 4 r (mp r) a (pF 5 r (xn r) a (pF 6 r (lZ r) a (uF 7 r (fun hS=>l3 r (hS.bk 0 r) r) a (pF 8 r (mi r) a (pF 9 r (kJ r r) a ?_)))))))))
 obtain ⟨d,f,c⟩:=bs c
 obtain ⟨E,u,f⟩:=kR f
 refine pF 10 r (kW Cu oZ r r u (b.dl 0 r) f) a (uF 11 r (fun hS=>YG [V d.e,V d.f,T d.a,V d.c] BP oZ r (hS.dl 0 r) f) a (hO 12 (oo r r (nD b (jU oZ)) ?_)))
 rintro _ F ⟨H,rfl,b⟩
 have a:=(b.arr [1] r)
 refine ⟨(sF a),(hO 13 (os r r (nU b 0 [V d.e,V d.f,T d.a,V d.c] r oZ r r) fun I b=>?_))⟩
 have a:=(b.arr [1] r)
 refine ⟨(sF a),(hD (q (g (s (LB r) (s (l3 r (b.bk 0 r) r) (s (kH r r) (s (kQ r) ?_)))))))⟩
 rcases iv c with ⟨v,c⟩|⟨v,c⟩
 ·rw [decide_eq_true v]
  refine jL r (jL r (jL r (s (kG r r) (s (kQ r) (ku r (s (Il r) (ku r (s (l9 r (b.bk 0 r) r) (ku r (s (kY r) (ku r (s (rJ r r) (s (kG r r) (s (ko r) (n (kU ?_))))))))))))))))
  obtain rfl:=sm c
  exact jB r (lq r) ⟨r,(b.arr [1] r)⟩
 rw [decide_eq_false v]
 refine ku r (s (LB r) (ku r (s (l3 r (b.bk 0 r) r) (ku r (s (kH r r) (s (jZ r r) (s (kQ r) ?_)))))))
 rcases iv c with ⟨w,c⟩|⟨w,c⟩
 ·rw [decide_eq_true w]
  refine ku r (s (Il r) (ku r (s (l9 r (b.bk 0 r) r) (ku r (s (kY r) (ku r (s (rJ r r) (s (kG r r) (s (ko r) (n (kU ?_)))))))))))
  obtain rfl:=sm c
  exact jB r (lq r) ⟨r,(b.arr [1] r)⟩
 rw [decide_eq_false w]
 refine jL r (jL r (jL r (jL r (s (jZ r r) (s (ko r) (n (kU ?_)))))))
 obtain rfl:=sm c
 exact jB r (lq r) ⟨r,(b.arr [1] r)⟩
def Kv (m:gP→Int→Int→Option (Bool)):Prop:=∀ {f:World} {k:Nat→Prop} {c:gP} {h:Int} {i:Int} {d:Nat} {a:Option Addr} {b:Nat} {j:Bool},Pre f k [.box d 102 #[Z a c.l b,V c.a,V c.c,V c.e]] [.l a b c.l]→m c h i=some j→
 Calls Try.prog 67 #[Pt d,V h,V i] f (qQ fun v w=>v=.bool j∧Bx f w k (lS [.box d 102 #[Z a c.l b,V c.a,V c.c,V c.e]]) [.box d 102 #[Z a c.l b,V c.a,V c.c,V c.e]] [.l a b c.l])
def oO (fu:Nat)(a:gP) (b:Int)(c:Int):Option (Bool):=
 if (wr (a.a+b)) < (a.l.length:Int) then
  (ix a.l (wr (a.a+b))).bind fun d=>
  some (decide (d.e=c))
 else
  some false
theorem q9 (fu:Nat):Kv (oO fu):=by
 intro z D o w x m f j A v d
 unfold oO at d
 have b:=v.bx
 clear v
 generalize B:lS _=G at b ⊢
 refine cf Try.func67 r (lM [(0,Pt m),(1,V w),(2,V x)] ⟨r,r,r,y⟩ fun E=>q (g (s (ko r) (n (q (qc b [0] [0] [] (by kernel_rfl) ?_))))))
 replace b:=b.drew
 have a:=b
 refine pF 0 r (mp r) a (pF 1 r (xn r) a (pF 2 r (lZ r) a (uF 3 r (fun hS=>l3 r (hS.bk 0 r) r) a (pF 4 r (mi r) a (pF 5 r (kJ r r) a (pF 6 r (mp r) a (pF 7 r (xn r) a (pF 8 r (yV r) a (uF 9 r (fun hS=>Oy r (hS.bk 0 r) r) a (pF 10 r (lF Cu r) a (pF 11 r (qo r r) a (pF 12 r (kQ r) a ?_))))))))))))
 rcases iv d with ⟨t,d⟩|⟨t,d⟩
 ·rw [decide_eq_true t]
  have a:=b
  refine pF 13 r (mp r) a (pF 14 r (xn r) a (pF 15 r (yV r) a (uF 16 r (fun hS=>Oy r (hS.bk 0 r) r) a (pF 17 r (mp r) a (pF 18 r (xn r) a (pF 19 r (lZ r) a (uF 20 r (fun hS=>l3 r (hS.bk 0 r) r) a (pF 21 r (mi r) a (pF 22 r (kJ r r) a ?_)))))))))
  obtain ⟨p,c,d⟩:=bs d
  obtain ⟨C,u,c⟩:=kR c
  refine pF 23 r (kW Cu oZ r r u (b.dl 0 r) c) a (pF 24 r (LB r) a (tU 25 r (fun _ hS=>jP F8 r r ((uK (ds:=[V p.e,V p.f,T p.a,V p.c]) (hS.dl 0 r) c (fun _ h=>h)) 0 _ r)) (sF a) (pF 26 r (mi r) a (pF 27 r (kH r r) a (pF 28 r (kG r r) a (pF 29 r (ko r) a (hD (kU ?_))))))))
  obtain rfl:=sm d
  exact jB r (lq r) ⟨r,b⟩
 rw [decide_eq_false t]
 have a:=b
 refine jR 13 r (by kernel_rfl) r (sF a) (jR 14 r (by kernel_rfl) r (sF a) (jR 15 r (by kernel_rfl) r (sF a) (jR 16 r (by kernel_rfl) r (sF a) (jR 17 r (by kernel_rfl) r (sF a) (jR 18 r (by kernel_rfl) r (sF a) (jR 19 r (by kernel_rfl) r (sF a) (jR 20 r (by kernel_rfl) r (sF a) (jR 21 r (by kernel_rfl) r (sF a) (jR 22 r (by kernel_rfl) r (sF a) (jR 23 r (by kernel_rfl) r (sF a) (jR 24 r (by kernel_rfl) r (sF a) (jR 25 r (by kernel_rfl) r (sF a) (jR 26 r (by kernel_rfl) r (sF a) (jR 27 r (by kernel_rfl) r (sF a) (pF 28 r (jZ r r) a (pF 29 r (ko r) a (hD (kU ?_))))))))))))))))))
 obtain rfl:=sm d
 exact jB r (lq r) ⟨r,b⟩
def JH (m:gP→BA→Option (gP)):Prop:=∀ {h:World} {j:Nat→Prop} {d:gP} {i:BA} {f:Nat} {a:Option Addr} {b:Nat} {c:gP},Pre h j [.box f 102 #[Z a d.l b,V d.a,V d.c,V d.e]] [.l a b d.l]→m d i=some c→
 Calls Try.prog 64 #[Pt f,T i] h (qQ fun v w=>v=.tuple #[]∧Bx h w j (lS [.box f 102 #[Z a d.l b,V d.a,V d.c,V d.e]]) [.box f 102 #[Z a c.l b,V c.a,V c.c,V c.e]] [.l a b c.l])
def lI (fu:Nat)(a:gP) (d:BA):Option (gP):=
 if a.e≠0 then
  some a
 else
  (mq fu a 0 d).bind fun b=>
  if (!b)=true then
   (oN fu a 7).bind fun c=>
   some c
  else
   some (⟨a.l,(wr (a.a+1)),a.c,a.e⟩:gP)
theorem lT (fu:Nat):JH (lI fu):=by
 intro A F f v h c d w p b
 unfold lI at b
 have a:=p.bx
 clear p
 generalize B:lS _=G at a ⊢
 refine cf Try.func64 r (lM [(0,Pt h),(1,T v)] ⟨r,r,y⟩ fun H=>q (q (g (s (mp r) (s (xn r) (s (qV r) (s (BK r (a.bk 0 r) r) (s (rT r r) (n ?_)))))))))
 rcases iv b with ⟨m,b⟩|⟨m,b⟩
 ·refine jJ (bt m) (kU ?_)
  obtain rfl:=sm b
  exact zi (P:=Try.prog) (fn:=Try.f64) r ⟨r,a⟩
 refine jD (bf m) (wk (q (q (g (s (mp r) (s (kY r) ?_))))))
 obtain ⟨t,x,b⟩:=bs b
 refine sc (ec vo r) (mY fu (a.pr [0] [] [0] r) x) ?_
 rintro _ C ⟨rfl,o⟩
 replace a:=a.cn [0] [] o
 refine s (Ae r) (n ?_)
 rcases iv b with ⟨j,b⟩|⟨j,b⟩
 ·refine jJ (cb j) (q (g (s (mp r) ?_)))
  obtain ⟨u,z,b⟩:=bs b
  refine sc (ec Du r) (qZ fu (a.pr [0] [] [1] r) z) ?_
  rintro _ D ⟨rfl,o⟩
  replace a:=a.cn [0] [] o
  refine n (kU ?_)
  obtain rfl:=sm b
  exact zi (P:=Try.prog) (fn:=Try.f64) r ⟨r,(a.dp [0])⟩
 replace j:=nt j
 refine jD (cb j) (wk (g (s (mp r) (s (xn r) (s (lZ r) (s (l3 r (a.bk 0 r) r) (s (kJ r r) (s (xn r) (s (lZ r) (kZ (t_n a 0 [V (wr (f.a+1))] r mP r r) fun E a=>n ?_))))))))))
 obtain rfl:=sm b
 exact zi (P:=Try.prog) (fn:=Try.f64) r ⟨r,(a.dp [1])⟩
def Ku (m:gP→Option (BA × gP)):Prop:=∀ {h:World} {j:Nat→Prop} {d:gP} {f:Nat} {a:Option Addr} {b:Nat} {R:BA × gP},Pre h j [.box f 102 #[Z a d.l b,V d.a,V d.c,V d.e]] [.l a b d.l]→m d=some R→
 Calls Try.prog 63 #[Pt f] h (qQ fun v w=>jy R fun i c=>v=T i∧Bx h w j (lS [.box f 102 #[Z a d.l b,V d.a,V d.c,V d.e]]) [.box f 102 #[Z a c.l b,V c.a,V c.c,V c.e]] [.l a b c.l])
def oh (fu:Nat)(a:gP):Option (BA × gP):=
 if a.e≠0 then
  some ((⟨#[]⟩:BA),a)
 else
  (oO fu a 0 1).bind fun b=>
  if (!b)=true then
   (oN fu a 7).bind fun c=>
   some ((⟨#[]⟩:BA),c)
  else
   (ix a.l (wr ((wr (a.a+1)) - 1))).bind fun d=>
   some (d.a,(⟨a.l,(wr (a.a+1)),a.c,a.e⟩:gP))
theorem qj (fu:Nat):Ku (oh fu):=by
 intro D K j o d f R x b
 unfold oh at b
 have a:=x.bx
 clear x
 generalize E:lS _=G at a ⊢
 refine cf Try.func63 r (lM [(0,Pt o)] ⟨r,y⟩ fun L=>q (g (s (mD r) (n (q (q (g (s (mp r) (s (xn r) (s (qV r) (s (BK r (a.bk 0 r) r) (s (rT r r) (n ?_)))))))))))))
 rcases iv b with ⟨u,b⟩|⟨u,b⟩
 ·refine jJ (bt u) (q (g (s (mD r) (n (kU ?_)))))
  obtain rfl:=sm b
  exact jB r (lq r) (mJ (⟨r,a⟩))
 refine jD (bf u) (wk (q (q (g (s (mp r) ?_)))))
 obtain ⟨z,B,b⟩:=bs b
 refine sc (ec Dm r) (q9 fu (a.pr [0] [] [0] r) B) ?_
 rintro _ F ⟨rfl,v⟩
 replace a:=a.cn [0] [] v
 refine s (Ae r) (n ?_)
 rcases iv b with ⟨p,b⟩|⟨p,b⟩
 ·refine jJ (cb p) (q (g (s (mp r) ?_)))
  obtain ⟨A,C,b⟩:=bs b
  refine sc (ec Du r) (qZ fu (a.pr [0] [] [1] r) C) ?_
  rintro _ H ⟨rfl,v⟩
  replace a:=a.cn [0] [] v
  refine n (q (g (s (mD r) (n (kU ?_)))))
  obtain rfl:=sm b
  exact jB r (lq r) (mJ (⟨r,(a.dp [0])⟩))
 replace p:=nt p
 refine jD (cb p) (wk (q (g (s (mp r) (s (xn r) (s (lZ r) (s (l3 r (a.bk 0 r) r) (s (kJ r r) (s (xn r) (s (lZ r) (kZ (t_n a 0 [V (wr (j.a+1))] r mP r r) fun I a=>n (q (qc a [0] [1] [] (by kernel_rfl) ?_)))))))))))))
 replace a:=a.drew
 have c:=(a.dp [1])
 refine pF 0 r (mp r) c (pF 1 r (xn r) c (pF 2 r (yV r) c (uF 3 r (fun hS=>Oy r (hS.bk 0 r) r) c (pF 4 r (mp r) c (pF 5 r (xn r) c (pF 6 r (lZ r) c (uF 7 r (fun hS=>l3 r (hS.bk 0 r) r) c (pF 8 r (xJ r r) c ?_))))))))
 obtain ⟨t,m,b⟩:=bs b
 obtain ⟨J,w,m⟩:=kR m
 refine pF 9 r (kW Cu oZ r r w (a.dl 1 r) m) c (pF 10 r (Il r) c (tU 11 r (fun _ hS=>jP uz r r ((uK (ds:=[V t.e,V t.f,T t.a,V t.c]) (hS.dl 0 r) m (fun _ h=>h)) 2 _ r)) (sF c) (pF 12 r (mD r) c (hD (kU ?_)))))
 obtain rfl:=sm b
 exact jB r (lq r) (mJ (⟨r,(a.dp [1])⟩))
def Jw (m:gP→Option ((List BA) × gP)):Prop:=∀ {k:World} {p:Nat→Prop} {i:gP} {j:Nat} {a:Option Addr} {b:Nat} {R:(List BA) × gP},Pre k p [.box j 102 #[Z a i.l b,V i.a,V i.c,V i.e]] [.l a b i.l]→m i=some R→
 Calls Try.prog 65 #[Pt j] k (qQ fun v w=>jy R fun o c=>∃ (d:OA)(f:Nat)(h:LV),v=Z d o f∧Bx k w p (lS [.box j 102 #[Z a i.l b,V i.a,V i.c,V i.e]]) [O k.heap.size d f 9 BA h,.box j 102 #[Z a c.l b,V c.a,V c.c,V c.e]] [.els h o,.l a b c.l])
def qK (fu:Nat):Nat→(List BA)→(List jY)→Int→Int→Int→Option (Ld (List BA × List jY × Int × Int × Int) ((List BA) × gP))
 | 0,_,_,_,_,_=>none
 | o+1,h,b,c,d,a=>
 if a=0 then
  (mq fu (⟨b,c,d,a⟩:gP) 0 (⟨#[44]⟩:BA)).bind fun i=>
  if i=true then
   (lI fu (⟨b,c,d,a⟩:gP) (⟨#[44]⟩:BA)).bind fun j=>
   (oh fu j).bind fun p=>
   jy p fun k f=>
   (app h ([k]:List BA)).bind fun m=>
   qK fu o m f.l f.a f.c f.e
  else
   some (.go (h,b,c,d,a))
 else
  some (.go (h,b,c,d,a))
def vV (fu:Nat)(j:gP):Option ((List BA) × gP):=
 (oh fu j).bind fun k=>
 jy k fun b a=>
 (qK fu fu ([b]:List BA) a.l a.a a.c a.e).bind fun k=>k.el (fun k=>
 jy k fun c k=>jy k fun d k=>jy k fun f k=>jy k fun h i=>
 some (c,(⟨d,f,h,i⟩:gP))
 ) (fun o=>some o)
theorem CW (fu:Nat):Jw (vV fu):=by
 intro J aj K C u v R Y x
 unfold vV at x
 have m:=Y.bx
 clear Y
 generalize hG:lS _=G at m ⊢
 refine cf Try.func65 r (lM [(0,Pt C)] ⟨r,y⟩ fun ak=>q (g (s (mG r) (n (q (g (s (mp r) ?_)))))))
 obtain ⟨z,A,h1,x⟩:=lX x
 refine sc (ec BN r) (qj fu (m.pr [0] [] [0] r) h1) ?_
 rintro _ w1 ⟨rfl,E⟩
 replace m:=m.cn [0] [] E
 refine nM (jN m [[T z]] ([z]:List BA) (zM r) r r (by decide) ⟨r,y⟩) ?_
 rintro _ w2 ⟨b2,rfl,m⟩
 refine s (mG r) (n (q ?_))
 obtain ⟨Y3,a,x⟩:=bs x
 refine nT (fun f w=>∃ (h:List BA) (b:OA)(c:Nat)(d:LV)(j:List jY) (o:Int)(p:Int)(t:Int),Has f [(3,Z b h c)]∧Bx J w aj G [O J.heap.size b c 9 BA d,.box C 102 #[Z u j v,V o,V p,V t]] [.l u v j,.els d h]∧Ld.go (h,j,o,p,t)=Y3) (fun J3 F=>?_) ?_
 ·refine nS (kE (fun al f w=>∃ (h:List BA) (b:OA)(c:Nat)(d:LV)(j:List jY) (o:Int)(p:Int)(t:Int),Has f [(0,Pt C),(3,Z b h c)]∧Bx J w aj G [O J.heap.size b c 9 BA d,.box C 102 #[Z u j v,V o,V p,V t]] [.l u v j,.els d h]∧qK fu al h j o p t=some Y3) fu ⟨([z]:List BA),(ad b2),1,[[T z]],A.l,A.a,A.c,A.e,⟨r,r,y⟩,(m.dp [1,0]),a⟩ ?_)
  clear m a
  rintro L f w ⟨h,b,c,d,j,o,p,t,hf,m,a⟩ K3 M
  obtain ⟨ak,rfl⟩:=fV _ _ hf
  clear hf
  cases L with
  | zero=>exact nn a
  | succ L=>
   rw [qK] at a
   refine q (q (g (s (mp r) (s (xn r) (s (qV r) (s (BK r (m.bk 1 r) r) (s (kH r r) (s (kQ r) ?_))))))))
   rcases iv a with ⟨N,a⟩|⟨N,a⟩
   ·rw [decide_eq_true N]
    refine ku r (s (mp r) ?_)
    obtain ⟨a1,h5,a⟩:=bs a
    refine ku r (sc (ec vo r) (mY fu (m.pr [1] [0] [0] r) h5) ?_)
    rintro _ w5 ⟨rfl,E⟩
    replace m:=m.cn [1] [0] E
    refine s (kG r r) (n ?_)
    rcases iv a with ⟨H,a⟩|⟨H,a⟩
    ·refine jJ (cb H) (wk (nS (q (g (s (mp r) ?_)))))
     obtain ⟨a2,h7,a⟩:=bs a
     refine sc (ec vS r) (lT fu (m.pr [0] [1] [1] r) h7) ?_
     rintro _ w7 ⟨rfl,E⟩
     replace m:=m.cn [0] [1] E
     refine n (g (s (nL r) (s (mp r) ?_)))
     obtain ⟨D,B,h8,a⟩:=lX a
     refine sc (ec BN r) (qj fu (m.pr [0] [1] [0] r) h8) ?_
     rintro _ w8 ⟨rfl,E⟩
     replace m:=m.cn [0] [1] E
     refine nM (jN m [[T D]] ([D]:List BA) (zM r) r r (by decide) ⟨r,y⟩) ?_
     rintro _ w9 ⟨b9,rfl,m⟩
     obtain ⟨Q,I,a⟩:=bs a
     refine nM (kL m 2 5 r r kP nX r (by decide) (by decide) (Nat.le_refl _) r r (m.zN 0 0 r r) I) ?_
     rintro _ a8 ⟨S,U,W,rfl,m⟩
     exact s (mG r) (n (M L _ _ (Nat.lt_succ_self _) ⟨Q,S,U,W,B.l,B.a,B.c,B.e,⟨r,r,y⟩,(m.ad [2,1] [1,5]),a⟩))
    replace H:=nt H
    exact jD (cb H) (ug (F _ _ ⟨h,b,c,d,j,o,p,t,⟨r,y⟩,(m.ad [1,0] [1,2]),sm a⟩))
   rw [decide_eq_false N]
   exact jL r (jL r (s (jZ r r) (n (jD r (ug (F _ _ ⟨h,b,c,d,j,o,p,t,⟨r,y⟩,m,sm a⟩))))))
 clear m
 rintro f w ⟨h,b,c,d,j,o,p,t,hf,m,X⟩
 obtain ⟨ak,rfl⟩:=fV _ _ hf
 clear hf
 subst X
 replace x:=gi x
 replace x:=pi (mE x)
 refine q (g (s (nL r) (s (mG r) (n (kU ?_)))))
 obtain rfl:=sm x
 exact jB r (lq r) (mJ (⟨b,c,d,r,(m.dp [1,0])⟩))
def Gx (m:gP→Option (Bool)):Prop:=∀ {f:World} {i:Nat→Prop} {c:gP} {d:Nat} {a:Option Addr} {b:Nat} {h:Bool},Pre f i [.box d 102 #[Z a c.l b,V c.a,V c.c,V c.e]] [.l a b c.l]→m c=some h→
 Calls Try.prog 136 #[Pt d] f (qQ fun v w=>v=.bool h∧Bx f w i (lS [.box d 102 #[Z a c.l b,V c.a,V c.c,V c.e]]) [.box d 102 #[Z a c.l b,V c.a,V c.c,V c.e]] [.l a b c.l])
def xq (fu:Nat)(a:gP):Option (Bool):=
 (oO fu a 0 1).bind fun b=>
 if b=true then
  some true
 else
  (oO fu a 0 2).bind fun c=>
  if c=true then
   some true
  else
   (mq fu a 0 (⟨#[40]⟩:BA)).bind fun d=>
   if d=true then
    some true
   else
    (mq fu a 0 (⟨#[45]⟩:BA)).bind fun e=>
    if e=true then
     some true
    else
     (mq fu a 0 (⟨#[33]⟩:BA)).bind fun f=>
     some f
theorem Ga (fu:Nat):Gx (xq fu):=by
 intro E N o h d f F p a
 unfold xq at a
 have b:=p.bx
 clear p
 generalize H:lS _=G at b ⊢
 refine cf Try.func136 r (lM [(0,Pt h)] ⟨r,y⟩ fun Q=>q (g (s (ko r) (n (q (g (s (mp r) ?_)))))))
 obtain ⟨t,z,a⟩:=bs a
 refine sc (ec Dm r) (q9 fu (b.pr [0] [] [0] r) z) ?_
 rintro _ I ⟨rfl,c⟩
 replace b:=b.cn [0] [] c
 refine s (kQ r) ?_
 rcases iv a with ⟨i,a⟩|⟨i,a⟩
 ·rw [i]
  refine jL r (jL r (s (kG r r) (s (kQ r) (jL r (jL r (s (kG r r) (s (kQ r) (jL r (jL r (s (kG r r) (s (kQ r) (jL r (jL r (s (kG r r) (s (ko r) (n (kU ?_)))))))))))))))))
  obtain rfl:=sm a
  exact jB r (lq r) ⟨r,(b.dp [1])⟩
 replace i:=nt i
 rw [i]
 refine ku r (s (mp r) ?_)
 obtain ⟨u,A,a⟩:=bs a
 refine ku r (sc (ec Dm r) (q9 fu (b.pr [0] [] [1] r) A) ?_)
 rintro _ J ⟨rfl,c⟩
 replace b:=b.cn [0] [] c
 refine s (jZ r r) (s (kQ r) ?_)
 rcases iv a with ⟨j,a⟩|⟨j,a⟩
 ·rw [j]
  refine jL r (jL r (s (kG r r) (s (kQ r) (jL r (jL r (s (kG r r) (s (kQ r) (jL r (jL r (s (kG r r) (s (ko r) (n (kU ?_)))))))))))))
  obtain rfl:=sm a
  exact jB r (lq r) ⟨r,(b.dp [2])⟩
 replace j:=nt j
 rw [j]
 refine ku r (s (mp r) ?_)
 obtain ⟨v,B,a⟩:=bs a
 refine ku r (sc (ec vo r) (mY fu (b.pr [0] [] [2] r) B) ?_)
 rintro _ K ⟨rfl,c⟩
 replace b:=b.cn [0] [] c
 refine s (jZ r r) (s (kQ r) ?_)
 rcases iv a with ⟨k,a⟩|⟨k,a⟩
 ·rw [k]
  refine jL r (jL r (s (kG r r) (s (kQ r) (jL r (jL r (s (kG r r) (s (ko r) (n (kU ?_)))))))))
  obtain rfl:=sm a
  exact jB r (lq r) ⟨r,(b.dp [3])⟩
 replace k:=nt k
 rw [k]
 refine ku r (s (mp r) ?_)
 obtain ⟨w,C,a⟩:=bs a
 refine ku r (sc (ec vo r) (mY fu (b.pr [0] [] [3] r) C) ?_)
 rintro _ L ⟨rfl,c⟩
 replace b:=b.cn [0] [] c
 refine s (jZ r r) (s (kQ r) ?_)
 rcases iv a with ⟨m,a⟩|⟨m,a⟩
 ·rw [m]
  refine jL r (jL r (s (kG r r) (s (ko r) (n (kU ?_)))))
  obtain rfl:=sm a
  exact jB r (lq r) ⟨r,(b.dp [4])⟩
 replace m:=nt m
 rw [m]
 refine ku r (s (mp r) ?_)
 obtain ⟨x,D,a⟩:=bs a
 refine ku r (sc (ec vo r) (mY fu (b.pr [0] [] [4] r) D) ?_)
 rintro _ M ⟨rfl,c⟩
 replace b:=b.cn [0] [] c
 refine s (jZ r r) (s (ko r) (n (kU ?_)))
 obtain rfl:=sm a
 exact jB r (lq r) ⟨r,(b.dp [5])⟩
def IL (m:gP→Option (Int × Int)):Prop:=∀ {f:World} {j:Nat→Prop} {c:gP} {d:Nat} {a:Option Addr} {b:Nat} {R:Int × Int},Pre f j [.box d 102 #[Z a c.l b,V c.a,V c.c,V c.e]] [.l a b c.l]→m c=some R→
 Calls Try.prog 125 #[Pt d] f (qQ fun v w=>jy R fun h i=>v=.tuple #[V h,V i]∧Bx f w j (lS [.box d 102 #[Z a c.l b,V c.a,V c.c,V c.e]]) [.box d 102 #[Z a c.l b,V c.a,V c.c,V c.e]] [.l a b c.l])
def qO (fu:Nat)(c:gP):List BA→Nat→Option (Ld (Unit) (Int × Int))
 | [],_=>some (.go ())
 | d :: e,b=>
 (mq fu c 0 d).bind fun a=>
 if a=true then
  (ix ([3,3,4,4,4,2,2,2,1,1,1,1]:List Int) (b:Int)).bind fun f=>
  some (.out (f,(wr (6+(b:Int)))))
 else
  qO fu c e (b+1)
def yH (fu:Nat)(a:gP):Option (Int × Int):=
 (qO fu a ([(⟨#[43]⟩:BA),(⟨#[45]⟩:BA),(⟨#[42]⟩:BA),(⟨#[47]⟩:BA),(⟨#[37]⟩:BA),(⟨#[38]⟩:BA),(⟨#[124]⟩:BA),(⟨#[94]⟩:BA),(⟨#[60]⟩:BA),(⟨#[60,61]⟩:BA),(⟨#[61,61]⟩:BA),(⟨#[33,61]⟩:BA)]:List BA) 0).bind fun b=>b.el (fun _=>
 some (0,0)
 ) (fun o=>some o)
theorem Jv (fu:Nat):IL (yH fu):=by
 intro t a1 i j b c R E m
 unfold yH at m
 have d:=E.bx
 clear E
 generalize Q:lS _=G at d ⊢
 refine cf Try.func125 r (lM [(0,Pt j)] ⟨r,y⟩ fun a2=>q (g (s (xi r) (s (xi r) (n (q (g (nM (jN d [[T (⟨#[43]⟩:BA)],[T (⟨#[45]⟩:BA)],[T (⟨#[42]⟩:BA)],[T (⟨#[47]⟩:BA)],[T (⟨#[37]⟩:BA)],[T (⟨#[38]⟩:BA)],[T (⟨#[124]⟩:BA)],[T (⟨#[94]⟩:BA)],[T (⟨#[60]⟩:BA)],[T (⟨#[60,61]⟩:BA)],[T (⟨#[61,61]⟩:BA)],[T (⟨#[33,61]⟩:BA)]] ([(⟨#[43]⟩:BA),(⟨#[45]⟩:BA),(⟨#[42]⟩:BA),(⟨#[47]⟩:BA),(⟨#[37]⟩:BA),(⟨#[38]⟩:BA),(⟨#[124]⟩:BA),(⟨#[94]⟩:BA),(⟨#[60]⟩:BA),(⟨#[60,61]⟩:BA),(⟨#[61,61]⟩:BA),(⟨#[33,61]⟩:BA)]:List BA) (DU r r r r r r r r r r r r) r r (by decide) ⟨r,⟨r,⟨r,⟨r,⟨r,⟨r,⟨r,⟨r,⟨r,⟨r,⟨r,⟨r,y⟩⟩⟩⟩⟩⟩⟩⟩⟩⟩⟩⟩) ?_))))))))
 rintro _ S ⟨x,rfl,d⟩
 refine s (mG r) (n (q (g (nM (jN d [[V 3],[V 3],[V 4],[V 4],[V 4],[V 2],[V 2],[V 2],[V 1],[V 1],[V 1],[V 1]] ([3,3,4,4,4,2,2,2,1,1,1,1]:List Int) (Oi r r r r r r r r r r r r) r r (by decide) ⟨r,⟨r,⟨r,⟨r,⟨r,⟨r,⟨r,⟨r,⟨r,⟨r,⟨r,⟨r,y⟩⟩⟩⟩⟩⟩⟩⟩⟩⟩⟩⟩) ?_))))
 rintro _ U ⟨z,rfl,d⟩
 refine s (mG r) (n (q (q (g (s (nL r) (s (lF kP r) (s (mi r) (n ?_))))))))
 have I:=(d.vw 1 1 r r).bd
 obtain ⟨F,a,m⟩:=bs m
 refine nT (fun f w=>Has f []∧Bx t w a1 G [O t.heap.size (ad z) 12 3 Int [[V 3],[V 3],[V 4],[V 4],[V 4],[V 2],[V 2],[V 2],[V 1],[V 1],[V 1],[V 1]],O t.heap.size (ad x) 12 9 BA [[T (⟨#[43]⟩:BA)],[T (⟨#[45]⟩:BA)],[T (⟨#[42]⟩:BA)],[T (⟨#[47]⟩:BA)],[T (⟨#[37]⟩:BA)],[T (⟨#[38]⟩:BA)],[T (⟨#[124]⟩:BA)],[T (⟨#[94]⟩:BA)],[T (⟨#[60]⟩:BA)],[T (⟨#[60,61]⟩:BA)],[T (⟨#[61,61]⟩:BA)],[T (⟨#[33,61]⟩:BA)]],.box j 102 #[Z b i.l c,V i.a,V i.c,V i.e]] [.els [[V 3],[V 3],[V 4],[V 4],[V 4],[V 2],[V 2],[V 2],[V 1],[V 1],[V 1],[V 1]] ([3,3,4,4,4,2,2,2,1,1,1,1]:List Int),.els [[T (⟨#[43]⟩:BA)],[T (⟨#[45]⟩:BA)],[T (⟨#[42]⟩:BA)],[T (⟨#[47]⟩:BA)],[T (⟨#[37]⟩:BA)],[T (⟨#[38]⟩:BA)],[T (⟨#[124]⟩:BA)],[T (⟨#[94]⟩:BA)],[T (⟨#[60]⟩:BA)],[T (⟨#[60,61]⟩:BA)],[T (⟨#[61,61]⟩:BA)],[T (⟨#[33,61]⟩:BA)]] ([(⟨#[43]⟩:BA),(⟨#[45]⟩:BA),(⟨#[42]⟩:BA),(⟨#[47]⟩:BA),(⟨#[37]⟩:BA),(⟨#[38]⟩:BA),(⟨#[124]⟩:BA),(⟨#[94]⟩:BA),(⟨#[60]⟩:BA),(⟨#[60,61]⟩:BA),(⟨#[61,61]⟩:BA),(⟨#[33,61]⟩:BA)]:List BA),.l b c i.l]∧Ld.go ()=F) (fun W A=>?_) ?_
 ·refine nS (kE (fun a3 f w=>∃ (k:Nat),a3=([(⟨#[43]⟩:BA),(⟨#[45]⟩:BA),(⟨#[42]⟩:BA),(⟨#[47]⟩:BA),(⟨#[37]⟩:BA),(⟨#[38]⟩:BA),(⟨#[124]⟩:BA),(⟨#[94]⟩:BA),(⟨#[60]⟩:BA),(⟨#[60,61]⟩:BA),(⟨#[61,61]⟩:BA),(⟨#[33,61]⟩:BA)]:List BA).length - k∧k≤([(⟨#[43]⟩:BA),(⟨#[45]⟩:BA),(⟨#[42]⟩:BA),(⟨#[47]⟩:BA),(⟨#[37]⟩:BA),(⟨#[38]⟩:BA),(⟨#[124]⟩:BA),(⟨#[94]⟩:BA),(⟨#[60]⟩:BA),(⟨#[60,61]⟩:BA),(⟨#[61,61]⟩:BA),(⟨#[33,61]⟩:BA)]:List BA).length∧Has f [(12,V (k:Int)),(0,Pt j),(5,.slice (ad z) ([3,3,4,4,4,2,2,2,1,1,1,1]:List Int).length 12),(10,.slice (ad x) ([(⟨#[43]⟩:BA),(⟨#[45]⟩:BA),(⟨#[42]⟩:BA),(⟨#[47]⟩:BA),(⟨#[37]⟩:BA),(⟨#[38]⟩:BA),(⟨#[124]⟩:BA),(⟨#[94]⟩:BA),(⟨#[60]⟩:BA),(⟨#[60,61]⟩:BA),(⟨#[61,61]⟩:BA),(⟨#[33,61]⟩:BA)]:List BA).length 12),(11,V ((([(⟨#[43]⟩:BA),(⟨#[45]⟩:BA),(⟨#[42]⟩:BA),(⟨#[47]⟩:BA),(⟨#[37]⟩:BA),(⟨#[38]⟩:BA),(⟨#[124]⟩:BA),(⟨#[94]⟩:BA),(⟨#[60]⟩:BA),(⟨#[60,61]⟩:BA),(⟨#[61,61]⟩:BA),(⟨#[33,61]⟩:BA)]:List BA).length:Nat):Int))]∧Bx t w a1 G [O t.heap.size (ad z) 12 3 Int [[V 3],[V 3],[V 4],[V 4],[V 4],[V 2],[V 2],[V 2],[V 1],[V 1],[V 1],[V 1]],O t.heap.size (ad x) 12 9 BA [[T (⟨#[43]⟩:BA)],[T (⟨#[45]⟩:BA)],[T (⟨#[42]⟩:BA)],[T (⟨#[47]⟩:BA)],[T (⟨#[37]⟩:BA)],[T (⟨#[38]⟩:BA)],[T (⟨#[124]⟩:BA)],[T (⟨#[94]⟩:BA)],[T (⟨#[60]⟩:BA)],[T (⟨#[60,61]⟩:BA)],[T (⟨#[61,61]⟩:BA)],[T (⟨#[33,61]⟩:BA)]],.box j 102 #[Z b i.l c,V i.a,V i.c,V i.e]] [.els [[V 3],[V 3],[V 4],[V 4],[V 4],[V 2],[V 2],[V 2],[V 1],[V 1],[V 1],[V 1]] ([3,3,4,4,4,2,2,2,1,1,1,1]:List Int),.els [[T (⟨#[43]⟩:BA)],[T (⟨#[45]⟩:BA)],[T (⟨#[42]⟩:BA)],[T (⟨#[47]⟩:BA)],[T (⟨#[37]⟩:BA)],[T (⟨#[38]⟩:BA)],[T (⟨#[124]⟩:BA)],[T (⟨#[94]⟩:BA)],[T (⟨#[60]⟩:BA)],[T (⟨#[60,61]⟩:BA)],[T (⟨#[61,61]⟩:BA)],[T (⟨#[33,61]⟩:BA)]] ([(⟨#[43]⟩:BA),(⟨#[45]⟩:BA),(⟨#[42]⟩:BA),(⟨#[47]⟩:BA),(⟨#[37]⟩:BA),(⟨#[38]⟩:BA),(⟨#[124]⟩:BA),(⟨#[94]⟩:BA),(⟨#[60]⟩:BA),(⟨#[60,61]⟩:BA),(⟨#[61,61]⟩:BA),(⟨#[33,61]⟩:BA)]:List BA),.l b c i.l]∧qO fu i (([(⟨#[43]⟩:BA),(⟨#[45]⟩:BA),(⟨#[42]⟩:BA),(⟨#[47]⟩:BA),(⟨#[37]⟩:BA),(⟨#[38]⟩:BA),(⟨#[124]⟩:BA),(⟨#[94]⟩:BA),(⟨#[60]⟩:BA),(⟨#[60,61]⟩:BA),(⟨#[61,61]⟩:BA),(⟨#[33,61]⟩:BA)]:List BA).drop k) k=some F) (([(⟨#[43]⟩:BA),(⟨#[45]⟩:BA),(⟨#[42]⟩:BA),(⟨#[47]⟩:BA),(⟨#[37]⟩:BA),(⟨#[38]⟩:BA),(⟨#[124]⟩:BA),(⟨#[94]⟩:BA),(⟨#[60]⟩:BA),(⟨#[60,61]⟩:BA),(⟨#[61,61]⟩:BA),(⟨#[33,61]⟩:BA)]:List BA).length) ⟨0,r,Nat.zero_le _,⟨r,r,r,r,r,y⟩,d,a⟩ ?_)
  clear d a
  rintro a3 f w ⟨k,rfl,J,hf,d,a⟩ X B
  obtain ⟨a2,rfl⟩:=fV _ _ hf
  clear hf
  rcases Nat.lt_or_ge k ([(⟨#[43]⟩:BA),(⟨#[45]⟩:BA),(⟨#[42]⟩:BA),(⟨#[47]⟩:BA),(⟨#[37]⟩:BA),(⟨#[38]⟩:BA),(⟨#[124]⟩:BA),(⟨#[94]⟩:BA),(⟨#[60]⟩:BA),(⟨#[60,61]⟩:BA),(⟨#[61,61]⟩:BA),(⟨#[33,61]⟩:BA)]:List BA).length with u | u
  ·obtain ⟨K,p⟩:=lY (l:=([(⟨#[43]⟩:BA),(⟨#[45]⟩:BA),(⟨#[42]⟩:BA),(⟨#[47]⟩:BA),(⟨#[37]⟩:BA),(⟨#[38]⟩:BA),(⟨#[124]⟩:BA),(⟨#[94]⟩:BA),(⟨#[60]⟩:BA),(⟨#[60,61]⟩:BA),(⟨#[61,61]⟩:BA),(⟨#[33,61]⟩:BA)]:List BA)) u
   rw [lK p,qO] at a
   refine q (g (s (qz r r (by omega)) (n (q (jJ r (wk (q (nS (q (g (s (mi r) (s (kW kP nX r r r (d.vw 1 1 r r) p) (s (jP uz r r ((uK (ds:=[T K]) (d.vw 1 1 r r) p (fun _ h=>h)) 0 _ r)) (s (xi r) (s (mD r) (n (q (g (s (mp r) (s (kY r) ?_))))))))))))))))))))
   obtain ⟨H,L,a⟩:=bs a
   refine sc (ec vo r) (mY fu (d.pr [2] [0,1] [2] r) L) ?_
   rintro _ Y ⟨rfl,M⟩
   replace d:=d.cn [2] [0,1] M
   refine n ?_
   rcases iv a with ⟨v,a⟩|⟨v,a⟩
   ·refine jJ (cb v) (q (g (s (nL r) (s (mi r) ?_))))
    obtain ⟨N,o,a⟩:=bs a
    obtain ⟨k6,C,o⟩:=kR o
    refine s (kW sH mP r r C (d.vw 1 1 r r) o) (s (jP F8 r r ((uK (ds:=[V N]) (d.vw 1 1 r r) o (fun _ h=>h)) 0 _ r)) (s (mi r) (s (kJ r r) (s (xi r) (s (xi r) (n (kU ?_)))))))
    obtain rfl:=sm a
    replace m:=oi m
    obtain rfl:=sm m
    exact qd r (lq r) (lq r) (mJ (⟨r,(d.ad [0] [3])⟩))
   replace v:=nt v
   exact jD (cb v) (wk (g (s (lU r r (by omega) (by omega)) (s (mi r) (n (B (([(⟨#[43]⟩:BA),(⟨#[45]⟩:BA),(⟨#[42]⟩:BA),(⟨#[47]⟩:BA),(⟨#[37]⟩:BA),(⟨#[38]⟩:BA),(⟨#[124]⟩:BA),(⟨#[94]⟩:BA),(⟨#[60]⟩:BA),(⟨#[60,61]⟩:BA),(⟨#[61,61]⟩:BA),(⟨#[33,61]⟩:BA)]:List BA).length - (k+1)) _ _ (by omega) ⟨k+1,r,by omega,⟨r,r,r,r,r,y⟩,(d.ad [1,2,0] [1,2,3]),a⟩))))))
  obtain rfl:k=([(⟨#[43]⟩:BA),(⟨#[45]⟩:BA),(⟨#[42]⟩:BA),(⟨#[47]⟩:BA),(⟨#[37]⟩:BA),(⟨#[38]⟩:BA),(⟨#[124]⟩:BA),(⟨#[94]⟩:BA),(⟨#[60]⟩:BA),(⟨#[60,61]⟩:BA),(⟨#[61,61]⟩:BA),(⟨#[33,61]⟩:BA)]:List BA).length:=by omega
  rw [lu,qO] at a
  exact q (g (s (qL r r (by omega)) (n (q (jD r (ug (A _ _ ⟨y,d,sm a⟩)))))))
 clear d
 rintro f w ⟨hf,d,D⟩
 obtain ⟨a2,rfl⟩:=fV _ _ hf
 clear hf
 subst D
 replace m:=gi m
 refine q (g (s (xi r) (s (xi r) (n (kU ?_)))))
 obtain rfl:=sm m
 exact qd r (lq r) (lq r) (mJ (⟨r,(d.ad [2] [2])⟩))
def KC (m:gP→Option (Bool)):Prop:=∀ {f:World} {i:Nat→Prop} {c:gP} {d:Nat} {a:Option Addr} {b:Nat} {h:Bool},Pre f i [.box d 102 #[Z a c.l b,V c.a,V c.c,V c.e]] [.l a b c.l]→m c=some h→
 Calls Try.prog 126 #[Pt d] f (qQ fun v w=>v=.bool h∧Bx f w i (lS [.box d 102 #[Z a c.l b,V c.a,V c.c,V c.e]]) [.box d 102 #[Z a c.l b,V c.a,V c.c,V c.e]] [.l a b c.l])
def sw (fu:Nat)(c:gP):Option (Bool):=
 (oO fu c 0 1).bind fun a=>
 if a=true then
  (mq fu c 1 (⟨#[40]⟩:BA)).bind fun b=>
  some b
 else
  some false
theorem Ea (fu:Nat):KC (sw fu):=by
 intro u A i f c d v k b
 unfold sw at b
 have a:=k.bx
 clear k
 generalize w:lS _=G at a ⊢
 refine cf Try.func126 r (lM [(0,Pt f)] ⟨r,y⟩ fun B=>q (g (s (ko r) (n (q (g (s (mp r) ?_)))))))
 obtain ⟨m,p,b⟩:=bs b
 refine sc (ec Dm r) (q9 fu (a.pr [0] [] [0] r) p) ?_
 rintro _ x ⟨rfl,j⟩
 replace a:=a.cn [0] [] j
 refine s (kQ r) ?_
 rcases iv b with ⟨h,b⟩|⟨h,b⟩
 ·rw [h]
  refine ku r (s (mp r) ?_)
  obtain ⟨o,t,b⟩:=bs b
  refine ku r (sc (ec vo r) (mY fu (a.pr [0] [] [1] r) t) ?_)
  rintro _ z ⟨rfl,j⟩
  replace a:=a.cn [0] [] j
  refine s (kG r r) (s (ko r) (n (kU ?_)))
  obtain rfl:=sm b
  exact jB r (lq r) ⟨r,(a.dp [2])⟩
 replace h:=nt h
 rw [h]
 refine jL r (jL r (s (jZ r r) (s (ko r) (n (kU ?_)))))
 obtain rfl:=sm b
 exact jB r (lq r) ⟨r,(a.dp [1])⟩
def Gb (m:gP→Option (Bool)):Prop:=∀ {f:World} {i:Nat→Prop} {c:gP} {d:Nat} {a:Option Addr} {b:Nat} {h:Bool},Pre f i [.box d 102 #[Z a c.l b,V c.a,V c.c,V c.e]] [.l a b c.l]→m c=some h→
 Calls Try.prog 93 #[Pt d] f (qQ fun v w=>v=.bool h∧Bx f w i (lS [.box d 102 #[Z a c.l b,V c.a,V c.c,V c.e]]) [.box d 102 #[Z a c.l b,V c.a,V c.c,V c.e]] [.l a b c.l])
def qb (fu:Nat)(b:gP):List BA→Nat→Option (Ld (Unit) (Bool))
 | [],_=>some (.go ())
 | c :: d,e=>
 (mq fu b 0 c).bind fun a=>
 if a=true then
  some (.out true)
 else
  qb fu b d (e+1)
def xB (fu:Nat)(b:gP):Option (Bool):=
 (qb fu b ([(⟨#[118,97,114]⟩:BA),(⟨#[105,102]⟩:BA),(⟨#[119,104,105,108,101]⟩:BA),(⟨#[114,101,116,117,114,110]⟩:BA),(⟨#[116,104,114,111,119]⟩:BA),(⟨#[116,114,121]⟩:BA),(⟨#[112,114,105,110,116]⟩:BA)]:List BA) 0).bind fun c=>c.el (fun _=>
 (oO fu b 0 1).bind fun a=>
 some a
 ) (fun o=>some o)
theorem GL (fu:Nat):Gb (xB fu):=by
 intro u X i j b c M C k
 unfold xB at k
 have d:=C.bx
 clear C
 generalize N:lS _=G at d ⊢
 refine cf Try.func93 r (lM [(0,Pt j)] ⟨r,y⟩ fun Y=>q (g (s (ko r) (n (q (q (g (nM (jN d [[T (⟨#[118,97,114]⟩:BA)],[T (⟨#[105,102]⟩:BA)],[T (⟨#[119,104,105,108,101]⟩:BA)],[T (⟨#[114,101,116,117,114,110]⟩:BA)],[T (⟨#[116,104,114,111,119]⟩:BA)],[T (⟨#[116,114,121]⟩:BA)],[T (⟨#[112,114,105,110,116]⟩:BA)]] ([(⟨#[118,97,114]⟩:BA),(⟨#[105,102]⟩:BA),(⟨#[119,104,105,108,101]⟩:BA),(⟨#[114,101,116,117,114,110]⟩:BA),(⟨#[116,104,114,111,119]⟩:BA),(⟨#[116,114,121]⟩:BA),(⟨#[112,114,105,110,116]⟩:BA)]:List BA) (PE r r r r r r r) r r (by decide) ⟨r,⟨r,⟨r,⟨r,⟨r,⟨r,⟨r,y⟩⟩⟩⟩⟩⟩⟩) ?_))))))))
 rintro _ Q ⟨v,rfl,d⟩
 refine s (lF kP r) (s (mi r) (n ?_))
 have H:=(d.vw 0 0 r r).bd
 obtain ⟨D,a,k⟩:=bs k
 refine nT (fun f w=>Has f [(0,Pt j)]∧Bx u w X G [O u.heap.size (ad v) 7 9 BA [[T (⟨#[118,97,114]⟩:BA)],[T (⟨#[105,102]⟩:BA)],[T (⟨#[119,104,105,108,101]⟩:BA)],[T (⟨#[114,101,116,117,114,110]⟩:BA)],[T (⟨#[116,104,114,111,119]⟩:BA)],[T (⟨#[116,114,121]⟩:BA)],[T (⟨#[112,114,105,110,116]⟩:BA)]],.box j 102 #[Z b i.l c,V i.a,V i.c,V i.e]] [.els [[T (⟨#[118,97,114]⟩:BA)],[T (⟨#[105,102]⟩:BA)],[T (⟨#[119,104,105,108,101]⟩:BA)],[T (⟨#[114,101,116,117,114,110]⟩:BA)],[T (⟨#[116,104,114,111,119]⟩:BA)],[T (⟨#[116,114,121]⟩:BA)],[T (⟨#[112,114,105,110,116]⟩:BA)]] ([(⟨#[118,97,114]⟩:BA),(⟨#[105,102]⟩:BA),(⟨#[119,104,105,108,101]⟩:BA),(⟨#[114,101,116,117,114,110]⟩:BA),(⟨#[116,104,114,111,119]⟩:BA),(⟨#[116,114,121]⟩:BA),(⟨#[112,114,105,110,116]⟩:BA)]:List BA),.l b c i.l]∧Ld.go ()=D) (fun R x=>?_) ?_
 ·refine nS (kE (fun a0 f w=>∃ (m:Nat),a0=([(⟨#[118,97,114]⟩:BA),(⟨#[105,102]⟩:BA),(⟨#[119,104,105,108,101]⟩:BA),(⟨#[114,101,116,117,114,110]⟩:BA),(⟨#[116,104,114,111,119]⟩:BA),(⟨#[116,114,121]⟩:BA),(⟨#[112,114,105,110,116]⟩:BA)]:List BA).length - m∧m≤([(⟨#[118,97,114]⟩:BA),(⟨#[105,102]⟩:BA),(⟨#[119,104,105,108,101]⟩:BA),(⟨#[114,101,116,117,114,110]⟩:BA),(⟨#[116,104,114,111,119]⟩:BA),(⟨#[116,114,121]⟩:BA),(⟨#[112,114,105,110,116]⟩:BA)]:List BA).length∧Has f [(7,V (m:Int)),(0,Pt j),(5,.slice (ad v) ([(⟨#[118,97,114]⟩:BA),(⟨#[105,102]⟩:BA),(⟨#[119,104,105,108,101]⟩:BA),(⟨#[114,101,116,117,114,110]⟩:BA),(⟨#[116,104,114,111,119]⟩:BA),(⟨#[116,114,121]⟩:BA),(⟨#[112,114,105,110,116]⟩:BA)]:List BA).length 7),(6,V ((([(⟨#[118,97,114]⟩:BA),(⟨#[105,102]⟩:BA),(⟨#[119,104,105,108,101]⟩:BA),(⟨#[114,101,116,117,114,110]⟩:BA),(⟨#[116,104,114,111,119]⟩:BA),(⟨#[116,114,121]⟩:BA),(⟨#[112,114,105,110,116]⟩:BA)]:List BA).length:Nat):Int))]∧Bx u w X G [O u.heap.size (ad v) 7 9 BA [[T (⟨#[118,97,114]⟩:BA)],[T (⟨#[105,102]⟩:BA)],[T (⟨#[119,104,105,108,101]⟩:BA)],[T (⟨#[114,101,116,117,114,110]⟩:BA)],[T (⟨#[116,104,114,111,119]⟩:BA)],[T (⟨#[116,114,121]⟩:BA)],[T (⟨#[112,114,105,110,116]⟩:BA)]],.box j 102 #[Z b i.l c,V i.a,V i.c,V i.e]] [.els [[T (⟨#[118,97,114]⟩:BA)],[T (⟨#[105,102]⟩:BA)],[T (⟨#[119,104,105,108,101]⟩:BA)],[T (⟨#[114,101,116,117,114,110]⟩:BA)],[T (⟨#[116,104,114,111,119]⟩:BA)],[T (⟨#[116,114,121]⟩:BA)],[T (⟨#[112,114,105,110,116]⟩:BA)]] ([(⟨#[118,97,114]⟩:BA),(⟨#[105,102]⟩:BA),(⟨#[119,104,105,108,101]⟩:BA),(⟨#[114,101,116,117,114,110]⟩:BA),(⟨#[116,104,114,111,119]⟩:BA),(⟨#[116,114,121]⟩:BA),(⟨#[112,114,105,110,116]⟩:BA)]:List BA),.l b c i.l]∧qb fu i (([(⟨#[118,97,114]⟩:BA),(⟨#[105,102]⟩:BA),(⟨#[119,104,105,108,101]⟩:BA),(⟨#[114,101,116,117,114,110]⟩:BA),(⟨#[116,104,114,111,119]⟩:BA),(⟨#[116,114,121]⟩:BA),(⟨#[112,114,105,110,116]⟩:BA)]:List BA).drop m) m=some D) (([(⟨#[118,97,114]⟩:BA),(⟨#[105,102]⟩:BA),(⟨#[119,104,105,108,101]⟩:BA),(⟨#[114,101,116,117,114,110]⟩:BA),(⟨#[116,104,114,111,119]⟩:BA),(⟨#[116,114,121]⟩:BA),(⟨#[112,114,105,110,116]⟩:BA)]:List BA).length) ⟨0,r,Nat.zero_le _,⟨r,r,r,r,y⟩,d,a⟩ ?_)
  clear d a
  rintro a0 f w ⟨m,rfl,I,hf,d,a⟩ S z
  obtain ⟨Y,rfl⟩:=fV _ _ hf
  clear hf
  rcases Nat.lt_or_ge m ([(⟨#[118,97,114]⟩:BA),(⟨#[105,102]⟩:BA),(⟨#[119,104,105,108,101]⟩:BA),(⟨#[114,101,116,117,114,110]⟩:BA),(⟨#[116,104,114,111,119]⟩:BA),(⟨#[116,114,121]⟩:BA),(⟨#[112,114,105,110,116]⟩:BA)]:List BA).length with p | p
  ·obtain ⟨J,o⟩:=lY (l:=([(⟨#[118,97,114]⟩:BA),(⟨#[105,102]⟩:BA),(⟨#[119,104,105,108,101]⟩:BA),(⟨#[114,101,116,117,114,110]⟩:BA),(⟨#[116,104,114,111,119]⟩:BA),(⟨#[116,114,121]⟩:BA),(⟨#[112,114,105,110,116]⟩:BA)]:List BA)) p
   rw [lK o,qb] at a
   refine q (g (s (qz r r (by omega)) (n (q (jJ r (wk (q (nS (q (g (s (kW kP nX r r r (d.vw 0 0 r r) o) (s (jP uz r r ((uK (ds:=[T J]) (d.vw 0 0 r r) o (fun _ h=>h)) 0 _ r)) (s (mD r) (n (q (g (s (mp r) (s (kY r) ?_))))))))))))))))))
   obtain ⟨E,K,a⟩:=bs a
   refine sc (ec vo r) (mY fu (d.pr [1] [0] [1] r) K) ?_
   rintro _ U ⟨rfl,A⟩
   replace d:=d.cn [1] [0] A
   refine n ?_
   rcases iv a with ⟨t,a⟩|⟨t,a⟩
   ·refine jJ (cb t) (q (g (s (ko r) (n (kU ?_)))))
    obtain rfl:=sm a
    replace k:=oi k
    obtain rfl:=sm k
    exact jB r (lq r) ⟨r,(d.ad [0] [2])⟩
   replace t:=nt t
   exact jD (cb t) (wk (g (s (lU r r (by omega) (by omega)) (s (mi r) (n (z (([(⟨#[118,97,114]⟩:BA),(⟨#[105,102]⟩:BA),(⟨#[119,104,105,108,101]⟩:BA),(⟨#[114,101,116,117,114,110]⟩:BA),(⟨#[116,104,114,111,119]⟩:BA),(⟨#[116,114,121]⟩:BA),(⟨#[112,114,105,110,116]⟩:BA)]:List BA).length - (m+1)) _ _ (by omega) ⟨m+1,r,by omega,⟨r,r,r,r,y⟩,(d.ad [1,0] [1,2]),a⟩))))))
  obtain rfl:m=([(⟨#[118,97,114]⟩:BA),(⟨#[105,102]⟩:BA),(⟨#[119,104,105,108,101]⟩:BA),(⟨#[114,101,116,117,114,110]⟩:BA),(⟨#[116,104,114,111,119]⟩:BA),(⟨#[116,114,121]⟩:BA),(⟨#[112,114,105,110,116]⟩:BA)]:List BA).length:=by omega
  rw [lu,qb] at a
  exact q (g (s (qL r r (by omega)) (n (q (jD r (ug (x _ _ ⟨⟨r,y⟩,d,sm a⟩)))))))
 clear d
 rintro f w ⟨hf,d,B⟩
 obtain ⟨Y,rfl⟩:=fV _ _ hf
 clear hf
 subst B
 replace k:=gi k
 refine q (g (s (mp r) ?_))
 obtain ⟨F,L,k⟩:=bs k
 refine sc (ec Dm r) (q9 fu (d.pr [1] [0] [1] r) L) ?_
 rintro _ W ⟨rfl,A⟩
 replace d:=d.cn [1] [0] A
 refine s (ko r) (n (kU ?_))
 obtain rfl:=sm k
 exact jB r (lq r) ⟨r,(d.ad [0] [2])⟩
abbrev mW:=gP→Int→Int→Option (jA × gP)
abbrev qm:=gP→Int→Option (jA × gP)
abbrev oV:=gP→Int→Option (jA × gP)
def pO (m:gP→Int→Int→Option (Ge × gP)):Prop:=∀ {k:World} {t:Nat→Prop} {h:gP} {o:Int} {p:Int} {i:Nat} {a:Option Addr} {b:Nat} {R:Ge × gP},Pre k t [.box i 102 #[Z a h.l b,V h.a,V h.c,V h.e]] [.l a b h.l]→m h o p=some R→
 Calls Try.prog 112 #[Pt i,V o,V p] k (qQ fun v w=>jy R fun j c=>∃ (d:OA)(f:Nat),v=.agg #[V j.e,V j.c,V j.g,T j.b,T j.d,Z d j.a f]∧Bx k w t (lS [.box i 102 #[Z a h.l b,V h.a,V h.c,V h.e]]) [.box i 102 #[Z a c.l b,V c.a,V c.c,V c.e]] [.l d f j.a,.l a b c.l])
def wE (m:gP→Int→Option (Ge × gP)):Prop:=∀ {k:World} {p:Nat→Prop} {h:gP} {o:Int} {i:Nat} {a:Option Addr} {b:Nat} {R:Ge × gP},Pre k p [.box i 102 #[Z a h.l b,V h.a,V h.c,V h.e]] [.l a b h.l]→m h o=some R→
 Calls Try.prog 124 #[Pt i,V o] k (qQ fun v w=>jy R fun j c=>∃ (d:OA)(f:Nat),v=.agg #[V j.e,V j.c,V j.g,T j.b,T j.d,Z d j.a f]∧Bx k w p (lS [.box i 102 #[Z a h.l b,V h.a,V h.c,V h.e]]) [.box i 102 #[Z a c.l b,V c.a,V c.c,V c.e]] [.l d f j.a,.l a b c.l])
def sZ (m:gP→Int→Option (Ge × gP)):Prop:=∀ {k:World} {p:Nat→Prop} {h:gP} {o:Int} {i:Nat} {a:Option Addr} {b:Nat} {R:Ge × gP},Pre k p [.box i 102 #[Z a h.l b,V h.a,V h.c,V h.e]] [.l a b h.l]→m h o=some R→
 Calls Try.prog 128 #[Pt i,V o] k (qQ fun v w=>jy R fun j c=>∃ (d:OA)(f:Nat),v=.agg #[V j.e,V j.c,V j.g,T j.b,T j.d,Z d j.a f]∧Bx k w p (lS [.box i 102 #[Z a h.l b,V h.a,V h.c,V h.e]]) [.box i 102 #[Z a c.l b,V c.a,V c.c,V c.e]] [.l d f j.a,.l a b c.l])
def rU (fu:Nat)(r_r03_expression:mW) (r_r03_unary:qm) (r_r03_target:oV) (f:gP) (h:Int)(i:Int):Option (Ld (Int × Int × Int × BA × BA × List Ge × List jY × Int × Int × Int) (Ge × gP)):=
 if h=5 then
  (r_r03_unary f i).bind fun j=>
  jy j fun a c=>
  some (.go (a.e,a.c,a.g,a.b,a.d,a.a,c.l,c.a,c.c,c.e))
 else
  (r_r03_expression f (wr (h+1)) i).bind fun j=>
  jy j fun b d=>
  some (.go (b.e,b.c,b.g,b.b,b.d,b.a,d.l,d.a,d.c,d.e))
def oH (fu:Nat)(r_r03_expression:mW) (r_r03_unary:qm) (r_r03_target:oV) (v:Int)(w:Int):Nat→Int→Int→Int→BA→BA→(List Ge)→(List jY)→Int→Int→Int→Option (Ld (Int × Int × Int × BA × BA × List Ge × List jY × Int × Int × Int) (Ge × gP))
 | 0,_,_,_,_,_,_,_,_,_,_=>none
 | x+1,c,d,f,h,i,j,k,m,o,a=>
 if a=0 then
  if v < 5 then
   (yH fu (⟨k,m,o,a⟩:gP)).bind fun z=>
   jy z fun u p=>
   if u≠v then
    some (.out ((⟨c,d,f,h,i,j⟩:Ge),(⟨k,m,o,a⟩:gP)))
   else
    (r_r03_expression (⟨k,(wr (m+1)),o,a⟩:gP) (wr (v+1)) w).bind fun z=>
    jy z fun t b=>
    if v=1 then
     some (.out ((⟨p,0,0,be,be,([(⟨c,d,f,h,i,j⟩:Ge),t]:List Ge)⟩:Ge),b))
    else
     oH fu r_r03_expression r_r03_unary r_r03_target v w x p 0 0 be be ([(⟨c,d,f,h,i,j⟩:Ge),t]:List Ge) b.l b.a b.c b.e
  else
   some (.go (c,d,f,h,i,j,k,m,o,a))
 else
  some (.go (c,d,f,h,i,j,k,m,o,a))
def rW (fu:Nat)(r_r03_expression:mW) (r_r03_unary:qm) (r_r03_target:oV) (D:gP) (B:Int)(C:Int):Option (Ge × gP):=
 (rU fu r_r03_expression r_r03_unary r_r03_target D B C).bind fun E=>E.el (fun E=>
 jy E fun c E=>jy E fun d E=>jy E fun e E=>jy E fun f E=>jy E fun h E=>jy E fun i E=>jy E fun j E=>jy E fun k E=>jy E fun l a=>
 (oH fu r_r03_expression r_r03_unary r_r03_target B C fu c d e f h i j k l a).bind fun E=>E.el (fun E=>
 jy E fun m E=>jy E fun p E=>jy E fun t E=>jy E fun u E=>jy E fun v E=>jy E fun w E=>jy E fun x E=>jy E fun z E=>jy E fun A b=>
 some ((⟨m,p,t,u,v,w⟩:Ge),(⟨x,z,A,b⟩:gP))
 ) (fun o=>some o)
 ) (fun o=>some o)
def qA (fu:Nat)(r_r03_expression:mW) (r_r03_unary:qm) (r_r03_target:oV) (d:gP) (j:Int):List BA→Nat→Option (Ld (Unit) (Ge × gP))
 | [],_=>some (.go ())
 | h :: i,f=>
 (mq fu d 0 h).bind fun a=>
 if a=true then
  (r_r03_unary (⟨d.l,(wr (d.a+1)),d.c,d.e⟩:gP) (wr (j+1))).bind fun k=>
  jy k fun b c=>
  some (.out ((⟨(wr (4+(f:Int))),0,0,be,be,([b]:List Ge)⟩:Ge),c))
 else
  qA fu r_r03_expression r_r03_unary r_r03_target d j i (f+1)
def yK (fu:Nat)(r_r03_expression:mW) (r_r03_unary:qm) (r_r03_target:oV) (a:gP) (t:Int):Option (Ge × gP):=
 if a.e≠0 then
  some ((⟨0,0,0,be,be,([]:List Ge)⟩:Ge),a)
 else
  (xq fu a).bind fun m=>
  if (!m)=true then
   (oN fu a 7).bind fun p=>
   some ((⟨0,0,0,be,be,([]:List Ge)⟩:Ge),p)
  else
   if 8 < t then
    (oN fu a 5).bind fun b=>
    some ((⟨0,0,0,be,be,([]:List Ge)⟩:Ge),b)
   else
    (qA fu r_r03_expression r_r03_unary r_r03_target a t ([(⟨#[45]⟩:BA),(⟨#[33]⟩:BA)]:List BA) 0).bind fun v=>v.el (fun _=>
    (oO fu a 0 2).bind fun c=>
    if c=true then
     (ix a.l (wr ((wr (a.a+1)) - 1))).bind fun u=>
     some ((⟨0,u.c,0,be,be,([]:List Ge)⟩:Ge),(⟨a.l,(wr (a.a+1)),a.c,a.e⟩:gP))
    else
     (mq fu a 0 (⟨#[40]⟩:BA)).bind fun d=>
     if d=true then
      (r_r03_expression (⟨a.l,(wr (a.a+1)),a.c,a.e⟩:gP) 1 (wr (t+1))).bind fun v=>
      jy v fun f h=>
      (lI fu h (⟨#[41]⟩:BA)).bind fun i=>
      some (f,i)
     else
      (r_r03_target a t).bind fun v=>
      jy v fun j k=>
      some (j,k)
    ) (fun o=>some o)
def vI (fu:Nat)(r_r03_expression:mW) (r_r03_unary:qm) (r_r03_target:oV) (b:BA) (a:gP):Option (Ld (Unit) (Ge × gP)):=
 if a.e=0 then
  (mq fu a 0 (⟨#[46]⟩:BA)).bind fun c=>
  if c=true then
   (oh fu (⟨a.l,(wr (a.a+1)),a.c,a.e⟩:gP)).bind fun h=>
   jy h fun d f=>
   some (.out ((⟨2,0,0,b,d,([]:List Ge)⟩:Ge),f))
  else
   some (.go ())
 else
  some (.go ())
def wD (fu:Nat)(r_r03_expression:mW) (r_r03_unary:qm) (r_r03_target:oV) (i:gP) (j:Int):Option (Ge × gP):=
 (oh fu i).bind fun k=>
 jy k fun b a=>
 (vI fu r_r03_expression r_r03_unary r_r03_target b a).bind fun k=>k.el (fun _=>
 if a.e=0 then
  (mq fu a 0 (⟨#[91]⟩:BA)).bind fun c=>
  if c=true then
   (r_r03_expression (⟨a.l,(wr (a.a+1)),a.c,a.e⟩:gP) 1 (wr (j+1))).bind fun k=>
   jy k fun d f=>
   (lI fu f (⟨#[93]⟩:BA)).bind fun h=>
   some ((⟨3,0,0,b,be,([d]:List Ge)⟩:Ge),h)
  else
   some ((⟨1,0,0,b,be,([]:List Ge)⟩:Ge),a)
 else
  some ((⟨1,0,0,b,be,([]:List Ge)⟩:Ge),a)
 ) (fun o=>some o)
def lH:Nat→(gP→Int→Int→Option (Ge × gP)) × (gP→Int→Option (Ge × gP)) × (gP→Int→Option (Ge × gP))
 | 0=>((fun _ _ _=>none),(fun _ _=>none),(fun _ _=>none))
 | fu+1=>(rW fu ((lH fu).1) ((lH fu).2.1) ((lH fu).2.2),yK fu ((lH fu).1) ((lH fu).2.1) ((lH fu).2.2),wD fu ((lH fu).1) ((lH fu).2.1) ((lH fu).2.2))
def lW (fu:Nat):=(lH fu).1
def yI (fu:Nat):=(lH fu).2.1
def sJ (fu:Nat):=(lH fu).2.2
theorem Dt (fu:Nat)(r_r03_expression:mW) (r_r03_unary:qm) (r_r03_target:oV) (H_r03_expression:pO r_r03_expression) (H_r03_unary:wE r_r03_unary) (H_r03_target:sZ r_r03_target):pO (rW fu r_r03_expression r_r03_unary r_r03_target):=by
 intro w0 b0 x0 x1 x2 a1 E F R hP z
 unfold rW at z
 have d:=hP.bx
 clear hP
 generalize hG:lS _=G at d ⊢
 refine cf Try.func112 r ?_
 refine lM [(0,Pt a1),(1,V x1),(2,V x2)] ⟨r,r,r,y⟩ fun b3=>?_
 refine q (g (sV d (jU jT) fun w1 b1 d=>?_))
 refine n (q (g (sV d (jU jT) fun w2 b2 d=>?_)))
 refine n (q ?_)
 obtain ⟨Y3,J,z⟩:=bs z
 refine nT (fun f w=>∃ (a3:Int)(a4:Int)(a5:Int)(a6:BA) (a7:BA) (Y:List Ge) (S:OA)(U:Nat)(a0:List jY) (a8:Int)(a9:Int)(W:Int),Has f [(0,Pt a1),(1,V x1),(2,V x2),(6,Pt b1),(7,Pt b2)]∧Bx w0 w b0 G [.box b2 138 #[V a3,V a4,V a5,T a6,T a7,Z S Y U],.box b1 138 #[V 0,V 0,V 0,T be,T be,sn],.box a1 102 #[Z E a0 F,V a8,V a9,V W]] [.l S U Y,.l E F a0]∧Ld.go (a3,a4,a5,a6,a7,Y,a0,a8,a9,W)=Y3) (fun J3 ak=>?_) ?_
 ·unfold rU at J
  refine q (g (s (mi r) (s (kH r r) (n ?_))))
  rcases iv J with ⟨h4,J⟩|⟨h4,J⟩
  ·refine jJ (bt h4) (g (s (mp r) (s (mi r) ?_)))
   obtain ⟨v,aa,h5,J⟩:=lX J
   refine sc (ec Qg r) (H_r03_unary (d.pr [2] [0,1] [0] r) h5) ?_
   rintro _ w5 ⟨L,M,rfl,hK⟩
   replace d:=d.cn [2] [0,1] hK
   refine kZ (nU d 1 [V v.e,V v.c,V v.g,T v.b,T v.d,Z L v.a M] r jT r r) fun w6 d=>?_
   refine n ?_
   exact ak _ _ ⟨v.e,v.c,v.g,v.b,v.d,v.a,L,M,aa.l,aa.a,aa.c,aa.e,⟨r,r,r,r,r,y⟩,(d.ad [1,2,0] [0,1]),sm J⟩
  refine jD (bf h4) (g (s (mp r) (s (mi r) (s (kJ r r) (s (mi r) ?_)))))
  obtain ⟨x,ab,h7,J⟩:=lX J
  refine sc (ec Ay r) (H_r03_expression (d.pr [2] [0,1] [0] r) h7) ?_
  rintro _ w7 ⟨N,Q,rfl,hK⟩
  replace d:=d.cn [2] [0,1] hK
  refine kZ (nU d 1 [V x.e,V x.c,V x.g,T x.b,T x.d,Z N x.a Q] r jT r r) fun w8 d=>?_
  refine n ?_
  exact ak _ _ ⟨x.e,x.c,x.g,x.b,x.d,x.a,N,Q,ab.l,ab.a,ab.c,ab.e,⟨r,r,r,r,r,y⟩,(d.ad [1,2,0] [0,1]),sm J⟩
 clear d
 rintro f w ⟨a3,a4,a5,a6,a7,Y,S,U,a0,a8,a9,W,hf,d,au⟩
 obtain ⟨b3,rfl⟩:=fV _ _ hf
 clear hf
 subst au
 replace z:=gi z
 replace z:=mE (mE (mE z))
 refine q ?_
 obtain ⟨Y9,u,z⟩:=bs z
 refine nT (fun f w=>∃ (j:Int)(m:Int)(o:Int)(p:BA) (t:BA) (h:List Ge) (b:OA)(c:Nat)(D:List jY) (H:Int)(I:Int)(A:Int),Has f [(6,Pt b1),(7,Pt b2)]∧Bx w0 w b0 G [.box b2 138 #[V j,V m,V o,T p,T t,Z b h c],.box b1 138 #[V 0,V 0,V 0,T be,T be,sn],.box a1 102 #[Z E D F,V H,V I,V A]] [.l b c h,.l E F D]∧Ld.go (j,m,o,p,t,h,D,H,I,A)=Y9) (fun J9 al=>?_) ?_
 ·refine nS (kE (fun b4 f w=>∃ (j:Int)(m:Int)(o:Int)(p:BA) (t:BA) (h:List Ge) (b:OA)(c:Nat)(D:List jY) (H:Int)(I:Int)(A:Int),Has f [(0,Pt a1),(1,V x1),(2,V x2),(6,Pt b1),(7,Pt b2)]∧Bx w0 w b0 G [.box b2 138 #[V j,V m,V o,T p,T t,Z b h c],.box b1 138 #[V 0,V 0,V 0,T be,T be,sn],.box a1 102 #[Z E D F,V H,V I,V A]] [.l b c h,.l E F D]∧oH fu r_r03_expression r_r03_unary r_r03_target x1 x2 b4 j m o p t h D H I A=some Y9) fu ⟨a3,a4,a5,a6,a7,Y,S,U,a0,a8,a9,W,⟨r,r,r,r,r,y⟩,d,u⟩ ?_)
  clear d u
  rintro n9 f w ⟨j,m,o,p,t,h,b,c,D,H,I,A,hf,d,u⟩ K9 aw
  obtain ⟨b3,rfl⟩:=fV _ _ hf
  clear hf
  cases n9 with
  | zero=>exact nn u
  | succ n9=>
   rw [oH] at u
   refine q (q (g (s (mp r) (s (xn r) (s (qV r) (s (BK r (d.bk 2 r) r) (s (kH r r) (s (kQ r) ?_))))))))
   rcases iv u with ⟨ae,u⟩|⟨ae,u⟩
   ·rw [decide_eq_true ae]
    refine ku r (s (mi r) (ku r (s (qo r r) (s (kG r r) (n ?_)))))
    rcases iv u with ⟨af,u⟩|⟨af,u⟩
    ·refine jJ (bt af) (wk (nS (q (g (s (mp r) ?_)))))
     obtain ⟨ax,K,ay,u⟩:=lX u
     refine sc (ec VJ r) (Jv fu (d.pr [2] [0,1] [1] r) ay) ?_
     rintro _ aG ⟨rfl,hK⟩
     replace d:=d.cn [2] [0,1] hK
     refine s sM (s (kg r r) (s (kg r r) (s (xi r) (s (xi r) (n (q (q (g (s (mi r) (s (mi r) (s (rT r r) (n ?_))))))))))))
     rcases iv u with ⟨ag,u⟩|⟨ag,u⟩
     ·refine jJ (bt ag) (q (g (s (ng [V j,V m,V o,T p,T t,Z b h c] mU jT r (d.bk 1 r)) (kZ (nU d 2 [V j,V m,V o,T p,T t,Z b h c] r jT r r) fun aH d=>?_))))
      refine n (kU ?_)
      obtain rfl:=sm u
      replace z:=oi z
      obtain rfl:=sm z
      refine jB r (tV r mU r jT r (d.bk 2 r)) ?_
      exact mJ (⟨b,c,r,(d.ad [0] [1,2])⟩)
     refine jD (bf ag) (wk (q (g (s (mp r) (s (xn r) (s (lZ r) (s (l3 r (d.bk 0 r) r) (s (kJ r r) (s (xn r) (s (lZ r) (kZ (t_n d 0 [V (wr (H+1))] r mP r r) fun aI d=>?_)))))))))))
     refine n (q (g (s (mp r) (s (mi r) (s (kJ r r) (s (mi r) ?_))))))
     obtain ⟨a,X,az,u⟩:=lX u
     refine sc (ec Ay r) (H_r03_expression (d.pr [0] [1,2] [2] r) az) ?_
     rintro _ aJ ⟨B,C,rfl,hK⟩
     replace d:=d.cn [0] [1,2] hK
     refine sV d (jU jT) fun aK aL d=>?_
     refine kZ (nU d 0 [V a.e,V a.c,V a.g,T a.b,T a.d,Z B a.a C] r jT r r) fun aM d=>?_
     refine n (q (g (s (mi r) (s (ng [V j,V m,V o,T p,T t,Z b h c] mU jT r (d.bk 2 r)) (s (ng [V a.e,V a.c,V a.g,T a.b,T a.d,Z B a.a C] mU jT r (d.bk 0 r)) (nM (jN d [[V j,V m,V o,T p,T t,Z b h c],[V a.e,V a.c,V a.g,T a.b,T a.d,Z B a.a C]] ([(⟨j,m,o,p,t,h⟩:Ge),a]:List Ge) (vZ r r) r r (by decide) ⟨(jA.inn ⟨b,c,r,(d.dl 3 r)⟩),⟨(jA.inn ⟨B,C,r,(d.dl 0 r)⟩),y⟩⟩) ?_))))))
     rintro _ aN ⟨a2,rfl,d⟩
     refine s (tQ r r) (kZ (nU d 3 [V K,V 0,V 0,T be,T be,.slice (ad a2) ([(⟨j,m,o,p,t,h⟩:Ge),a]:List Ge).length 2] r jT r r) fun aO d=>?_)
     refine n (q (g (s (mi r) (s (kH r r) (n ?_)))))
     rcases iv u with ⟨ah,u⟩|⟨ah,u⟩
     ·refine jJ (bt ah) (q (g (s (ng [V K,V 0,V 0,T be,T be,.slice (ad a2) ([(⟨j,m,o,p,t,h⟩:Ge),a]:List Ge).length 2] mU jT r (d.bk 3 r)) (kZ (nU d 4 [V K,V 0,V 0,T be,T be,.slice (ad a2) ([(⟨j,m,o,p,t,h⟩:Ge),a]:List Ge).length 2] r jT r r) fun aP d=>?_))))
      refine n (kU ?_)
      replace d:=d.fz 0 0 r r
      obtain rfl:=sm u
      replace z:=oi z
      obtain rfl:=sm z
      refine jB r (tV r mU r jT r (d.bk 3 r)) ?_
      exact mJ (⟨(ad a2),2,r,(d.ad [1] [0,2])⟩)
     refine jD (bf ah) (wk ?_)
     replace d:=d.fz 0 0 r r
     exact aw n9 _ _ (Nat.lt_succ_self _) ⟨K,0,0,be,be,([(⟨j,m,o,p,t,h⟩:Ge),a]:List Ge),(ad a2),2,X.l,X.a,X.c,X.e,⟨r,r,r,r,r,y⟩,(d.ad [2,3,1] [0,2]),u⟩
    refine jD (bf af) (ug ?_)
    exact al _ _ ⟨j,m,o,p,t,h,b,c,D,H,I,A,⟨r,r,y⟩,d,sm u⟩
   rw [decide_eq_false ae]
   refine jL r (jL r (s (jZ r r) (n (jD r (ug ?_)))))
   exact al _ _ ⟨j,m,o,p,t,h,b,c,D,H,I,A,⟨r,r,y⟩,d,sm u⟩
 clear d
 rintro f w ⟨j,m,o,p,t,h,b,c,D,H,I,A,hf,d,aA⟩
 obtain ⟨b3,rfl⟩:=fV _ _ hf
 clear hf
 subst aA
 replace z:=gi z
 replace z:=mE (mE (mE z))
 refine q (g (s (ng [V j,V m,V o,T p,T t,Z b h c] mU jT r (d.bk 0 r)) (kZ (nU d 1 [V j,V m,V o,T p,T t,Z b h c] r jT r r) fun aQ d=>?_)))
 refine n (kU ?_)
 obtain rfl:=sm z
 refine jB r (tV r mU r jT r (d.bk 1 r)) ?_
 exact mJ (⟨b,c,r,(d.arr [2] r)⟩)
theorem Ip (fu:Nat)(r_r03_expression:mW) (r_r03_unary:qm) (r_r03_target:oV) (H_r03_expression:pO r_r03_expression) (H_r03_unary:wE r_r03_unary) (H_r03_target:sZ r_r03_target):wE (yK fu r_r03_expression r_r03_unary r_r03_target):=by
 intro w0 b4 x x1 I u v R hP j
 unfold yK at j
 have a:=hP.bx
 clear hP
 generalize hG:lS _=G at a ⊢
 refine cf Try.func124 r (lM [(0,Pt I),(1,V x1)] ⟨r,r,y⟩ fun b5=>q (g (sV a (jU jT) fun w1 b1 a=>n (q (q (g (s (mp r) (s (xn r) (s (qV r) (s (BK r (a.bk 1 r) r) (s (rT r r) (n ?_))))))))))))
 rcases iv j with ⟨h2,j⟩|⟨h2,j⟩
 ·refine jJ (bt h2) (q (g (s Mq (kZ (nU a 0 [V 0,V 0,V 0,T be,T be,sn] r jT r r) fun w3 a=>n (kU ?_)))))
  replace a:=a.kr (d:=.l none 0 ([]:List Ge)) nZ
  obtain rfl:=sm j
  exact jB r (tV r mU r jT r (a.bk 0 r)) (mJ (⟨none,0,r,(a.arr [1] r)⟩))
 refine jD (bf h2) (wk (q (q (g (s (mp r) ?_)))))
 obtain ⟨ar,h5,j⟩:=bs j
 refine sc (ec Vg r) (Ga fu (a.pr [1] [0] [0] r) h5) ?_
 rintro _ w5 ⟨rfl,E⟩
 replace a:=a.cn [1] [0] E
 refine s (Ae r) (n ?_)
 rcases iv j with ⟨X,j⟩|⟨X,j⟩
 ·refine jJ (cb X) (q (g (s (mp r) ?_)))
  obtain ⟨au,h7,j⟩:=bs j
  refine sc (ec Du r) (qZ fu (a.pr [0] [1] [1] r) h7) ?_
  rintro _ w7 ⟨rfl,E⟩
  replace a:=a.cn [0] [1] E
  refine n (q (g (s Mq (kZ (nU a 1 [V 0,V 0,V 0,T be,T be,sn] r jT r r) fun w8 a=>n (kU ?_)))))
  replace a:=a.kr (d:=.l none 0 ([]:List Ge)) nZ
  obtain rfl:=sm j
  exact jB r (tV r mU r jT r (a.bk 1 r)) (mJ (⟨none,0,r,(a.ad [0] [0,1])⟩))
 replace X:=nt X
 refine jD (cb X) (wk (q (q (g (s (mi r) (s (uZ r r) (n ?_)))))))
 rcases iv j with ⟨S,j⟩|⟨S,j⟩
 ·refine jJ (bt S) (q (g (s (mp r) ?_)))
  obtain ⟨a8,a9,j⟩:=bs j
  refine sc (ec Du r) (qZ fu (a.pr [0] [1] [1] r) a9) ?_
  rintro _ az ⟨rfl,E⟩
  replace a:=a.cn [0] [1] E
  refine n (q (g (s Mq (kZ (nU a 1 [V 0,V 0,V 0,T be,T be,sn] r jT r r) fun aA a=>n (kU ?_)))))
  replace a:=a.kr (d:=.l none 0 ([]:List Ge)) nZ
  obtain rfl:=sm j
  exact jB r (tV r mU r jT r (a.bk 1 r)) (mJ (⟨none,0,r,(a.ad [0] [0,1])⟩))
 refine jD (bf S) (wk (q (q (g (nM (jN a [[T (⟨#[45]⟩:BA)],[T (⟨#[33]⟩:BA)]] ([(⟨#[45]⟩:BA),(⟨#[33]⟩:BA)]:List BA) (vv r r) r r (by decide) ⟨r,⟨r,y⟩⟩) ?_)))))
 rintro _ aB ⟨U,rfl,a⟩
 refine s (lF kP r) (s (mi r) (n ?_))
 have av:=(a.vw 0 0 r r).bd
 obtain ⟨Y,c,j⟩:=bs j
 refine nT (fun f w=>Has f [(0,Pt I),(1,V x1),(4,Pt b1)]∧Bx w0 w b4 G [O w0.heap.size (ad U) 2 9 BA [[T (⟨#[45]⟩:BA)],[T (⟨#[33]⟩:BA)]],.box I 102 #[Z u x.l v,V x.a,V x.c,V x.e],.box b1 138 #[V 0,V 0,V 0,T be,T be,sn]] [.els [[T (⟨#[45]⟩:BA)],[T (⟨#[33]⟩:BA)]] ([(⟨#[45]⟩:BA),(⟨#[33]⟩:BA)]:List BA),.l u v x.l]∧Ld.go ()=Y) (fun aC a0=>?_) ?_
 ·refine nS (kE (fun b6 f w=>∃ (B:Nat),b6=([(⟨#[45]⟩:BA),(⟨#[33]⟩:BA)]:List BA).length - B∧B≤([(⟨#[45]⟩:BA),(⟨#[33]⟩:BA)]:List BA).length∧Has f [(27,V (B:Int)),(0,Pt I),(1,V x1),(4,Pt b1),(25,.slice (ad U) ([(⟨#[45]⟩:BA),(⟨#[33]⟩:BA)]:List BA).length 2),(26,V ((([(⟨#[45]⟩:BA),(⟨#[33]⟩:BA)]:List BA).length:Nat):Int))]∧Bx w0 w b4 G [O w0.heap.size (ad U) 2 9 BA [[T (⟨#[45]⟩:BA)],[T (⟨#[33]⟩:BA)]],.box I 102 #[Z u x.l v,V x.a,V x.c,V x.e],.box b1 138 #[V 0,V 0,V 0,T be,T be,sn]] [.els [[T (⟨#[45]⟩:BA)],[T (⟨#[33]⟩:BA)]] ([(⟨#[45]⟩:BA),(⟨#[33]⟩:BA)]:List BA),.l u v x.l]∧qA fu r_r03_expression r_r03_unary r_r03_target x x1 (([(⟨#[45]⟩:BA),(⟨#[33]⟩:BA)]:List BA).drop B) B=some Y) (([(⟨#[45]⟩:BA),(⟨#[33]⟩:BA)]:List BA).length) ⟨0,r,Nat.zero_le _,⟨r,r,r,r,r,r,y⟩,(a.dp [0,2]),c⟩ ?_)
  clear a c
  rintro b6 f w ⟨B,rfl,aw,hf,a,c⟩ aD a1
  obtain ⟨b5,rfl⟩:=fV _ _ hf
  clear hf
  rcases Nat.lt_or_ge B ([(⟨#[45]⟩:BA),(⟨#[33]⟩:BA)]:List BA).length with Q | Q
  ·obtain ⟨aa,K⟩:=lY (l:=([(⟨#[45]⟩:BA),(⟨#[33]⟩:BA)]:List BA)) Q
   rw [lK K,qA] at c
   refine q (g (s (qz r r (by omega)) (n (q (jJ r (wk (q (nS (q (g (s (mi r) (s (kW kP nX r r r (a.vw 0 0 r r) K) (s (jP uz r r ((uK (ds:=[T aa]) (a.vw 0 0 r r) K (fun _ h=>h)) 0 _ r)) (s (xi r) (s (mD r) (n (q (g (s (mp r) (s (kY r) ?_))))))))))))))))))))
   obtain ⟨ab,ac,c⟩:=bs c
   refine sc (ec vo r) (mY fu (a.pr [1] [0,2] [1] r) ac) ?_
   rintro _ aE ⟨rfl,E⟩
   replace a:=a.cn [1] [0,2] E
   refine n ?_
   rcases iv c with ⟨L,c⟩|⟨L,c⟩
   ·refine jJ (cb L) (q (g (s (mp r) (s (xn r) (s (lZ r) (s (l3 r (a.bk 0 r) r) (s (kJ r r) (s (xn r) (s (lZ r) (kZ (t_n a 0 [V (wr (x.a+1))] r mP r r) fun aF a=>n (q (g (s (mi r) (s (kJ r r) (s (mp r) (s (mi r) (s (kJ r r) ?_)))))))))))))))))
    obtain ⟨t,ae,af,c⟩:=lX c
    refine sc (ec Qg r) (H_r03_unary (a.pr [0] [1,2] [2] r) af) ?_
    rintro _ aG ⟨C,D,rfl,E⟩
    replace a:=a.cn [0] [1,2] E
    refine nM (jN a [[V t.e,V t.c,V t.g,T t.b,T t.d,Z C t.a D]] ([t]:List Ge) (kS r) r r (by decide) ⟨(jA.inn ⟨C,D,r,(a.dl 0 r)⟩),y⟩) ?_
    rintro _ aH ⟨W,rfl,a⟩
    refine s (tQ r r) (kZ (nU a 3 [V (wr (4+(B:Int))),V 0,V 0,T be,T be,.slice (ad W) ([t]:List Ge).length 1] r jT r r) fun aI a=>n (kU ?_))
    replace a:=a.fz 0 0 r r
    obtain rfl:=sm c
    replace j:=oi j
    obtain rfl:=sm j
    exact jB r (tV r mU r jT r (a.bk 2 r)) (mJ (⟨(ad W),1,r,(a.ad [0] [0,2])⟩))
   replace L:=nt L
   exact jD (cb L) (wk (g (s (lU r r (by omega) (by omega)) (s (mi r) (n (a1 (([(⟨#[45]⟩:BA),(⟨#[33]⟩:BA)]:List BA).length - (B+1)) _ _ (by omega) ⟨B+1,r,by omega,⟨r,r,r,r,r,r,y⟩,(a.ad [1,0,2] [1,2]),c⟩))))))
  obtain rfl:B=([(⟨#[45]⟩:BA),(⟨#[33]⟩:BA)]:List BA).length:=by omega
  rw [lu,qA] at c
  exact q (g (s (qL r r (by omega)) (n (q (jD r (ug (a0 _ _ ⟨⟨r,r,r,y⟩,a,sm c⟩)))))))
 clear a
 rintro f w ⟨hf,a,a2⟩
 obtain ⟨b5,rfl⟩:=fV _ _ hf
 clear hf
 subst a2
 replace j:=gi j
 refine q (q (g (s (mp r) ?_)))
 obtain ⟨ag,ah,j⟩:=bs j
 refine sc (ec Dm r) (q9 fu (a.pr [1] [0,2] [1] r) ah) ?_
 rintro _ aJ ⟨rfl,E⟩
 replace a:=a.cn [1] [0,2] E
 refine n ?_
 rcases iv j with ⟨M,j⟩|⟨M,j⟩
 ·refine jJ (cb M) (q (g (s (mp r) (s (xn r) (s (lZ r) (s (l3 r (a.bk 0 r) r) (s (kJ r r) (s (xn r) (s (lZ r) (kZ (t_n a 0 [V (wr (x.a+1))] r mP r r) fun aK a=>n (q (qc a [0] [2] [] (by kernel_rfl) ?_))))))))))))
  replace a:=a.drew
  have F:=(a.ad [0] [2])
  refine pF 0 r (mp r) F (pF 1 r (xn r) F (pF 2 r (yV r) F (uF 3 r (fun hS=>Oy r (hS.bk 0 r) r) F (pF 4 r (mp r) F (pF 5 r (xn r) F (pF 6 r (lZ r) F (uF 7 r (fun hS=>l3 r (hS.bk 0 r) r) F (pF 8 r (xJ r r) F ?_))))))))
  obtain ⟨J,H,j⟩:=bs j
  obtain ⟨aL,a3,H⟩:=kR H
  refine pF 9 r (kW Cu oZ r r a3 (a.dl 2 r) H) F (pF 10 r (OY r) F (tU 11 r (fun _ hS=>jP F8 r r ((uK (ds:=[V J.e,V J.f,T J.a,V J.c]) (hS.dl 0 r) H (fun _ h=>h)) 3 _ r)) (sF F) (pF 12 r (Hq r r) F (hO 13 (os r r (nU a 2 [V 0,V J.c,V 0,T be,T be,sn] r jT r r) fun aM a=>?_)))))
  have F:=(a.ad [0] [2])
  refine ⟨(sF F),(hD (kU ?_))⟩
  replace a:=a.kr (d:=.l none 0 ([]:List Ge)) nZ
  obtain rfl:=sm j
  exact jB r (tV r mU r jT r (a.bk 2 r)) (mJ (⟨none,0,r,(a.ad [0] [0,3])⟩))
 replace M:=nt M
 refine jD (cb M) (wk (q (q (g (s (mp r) ?_)))))
 obtain ⟨ai,aj,j⟩:=bs j
 refine sc (ec vo r) (mY fu (a.pr [0] [1,2] [2] r) aj) ?_
 rintro _ aN ⟨rfl,E⟩
 replace a:=a.cn [0] [1,2] E
 refine n ?_
 rcases iv j with ⟨N,j⟩|⟨N,j⟩
 ·refine jJ (cb N) (q (g (s (mp r) (s (xn r) (s (lZ r) (s (l3 r (a.bk 0 r) r) (s (kJ r r) (s (xn r) (s (lZ r) (kZ (t_n a 0 [V (wr (x.a+1))] r mP r r) fun aO a=>n (q (g (s (mp r) (s (mi r) (s (kJ r r) ?_)))))))))))))))
  obtain ⟨b,ak,al,j⟩:=lX j
  refine sc (ec Ay r) (H_r03_expression (a.pr [0] [1,2] [3] r) al) ?_
  rintro _ aP ⟨o,p,rfl,E⟩
  replace a:=a.cn [0] [1,2] E
  refine sV a (jU jT) fun aQ aR a=>kZ (nU a 0 [V b.e,V b.c,V b.g,T b.b,T b.d,Z o b.a p] r jT r r) fun aS a=>n (q (g (s (mp r) ?_)))
  obtain ⟨am,an,j⟩:=bs j
  refine sc (ec vS r) (lT fu (a.pr [1] [0,2,3] [1] r) an) ?_
  rintro _ aT ⟨rfl,E⟩
  replace a:=a.cn [1] [0,2,3] E
  refine n (q (g (s (ng [V b.e,V b.c,V b.g,T b.b,T b.d,Z o b.a p] mU jT r (a.bk 1 r)) (kZ (nU a 3 [V b.e,V b.c,V b.g,T b.b,T b.d,Z o b.a p] r jT r r) fun aU a=>n (kU ?_)))))
  obtain rfl:=sm j
  exact jB r (tV r mU r jT r (a.bk 3 r)) (mJ (⟨o,p,r,(a.ad [0] [1,0])⟩))
 replace N:=nt N
 refine jD (cb N) (wk (q (g (s (mp r) (s (mi r) ?_)))))
 obtain ⟨m,ao,ap,j⟩:=lX j
 refine sc (ec QC r) (H_r03_target (a.pr [0] [1,2] [3] r) ap) ?_
 rintro _ aV ⟨z,A,rfl,E⟩
 replace a:=a.cn [0] [1,2] E
 refine kZ (nU a 2 [V m.e,V m.c,V m.g,T m.b,T m.d,Z z m.a A] r jT r r) fun aW a=>n (kU ?_)
 obtain rfl:=sm j
 exact jB r (tV r mU r jT r (a.bk 2 r)) (mJ (⟨z,A,r,(a.ad [0] [0,1])⟩))
theorem Gl (fu:Nat)(r_r03_expression:mW) (r_r03_unary:qm) (r_r03_target:oV) (H_r03_expression:pO r_r03_expression) (H_r03_unary:wE r_r03_unary) (H_r03_target:sZ r_r03_target):sZ (wD fu r_r03_expression r_r03_unary r_r03_target):=by
 intro w0 ap F S z t u R U o
 unfold wD at o
 have b:=U.bx
 clear U
 generalize hG:lS _=G at b ⊢
 refine cf Try.func128 r (lM [(0,Pt z),(1,V S)] ⟨r,r,y⟩ fun aq=>q (g (sV b (jU jT) fun w1 W b=>n (q (g (s (mp r) ?_))))))
 obtain ⟨p,c,h2,o⟩:=lX o
 refine sc (ec BN r) (qj fu (b.pr [1] [0] [0] r) h2) ?_
 rintro _ w2 ⟨rfl,v⟩
 replace b:=b.cn [1] [0] v
 refine s (mD r) (n (q ?_))
 obtain ⟨Y3,m,o⟩:=bs o
 refine nT (fun f w=>Has f [(0,Pt z),(1,V S),(4,Pt W),(5,T p)]∧Bx w0 w ap G [.box z 102 #[Z t c.l u,V c.a,V c.c,V c.e],.box W 138 #[V 0,V 0,V 0,T be,T be,sn]] [.l t u c.l]∧Ld.go ()=Y3) (fun J3 D=>?_) ?_
 ·unfold vI at m
  refine q (g (s (mp r) (s (xn r) (s (qV r) (s (BK r (b.bk 0 r) r) (s (kH r r) (s (kQ r) ?_)))))))
  rcases iv m with ⟨H,m⟩|⟨H,m⟩
  ·rw [decide_eq_true H]
   refine ku r (s (mp r) ?_)
   obtain ⟨X,h5,m⟩:=bs m
   refine ku r (sc (ec vo r) (mY fu (b.pr [0] [1] [0] r) h5) ?_)
   rintro _ w5 ⟨rfl,v⟩
   replace b:=b.cn [0] [1] v
   refine s (kG r r) (n ?_)
   rcases iv m with ⟨E,m⟩|⟨E,m⟩
   ·refine jJ (cb E) (q (g (s (mp r) (s (xn r) (s (lZ r) (s (l3 r (b.bk 0 r) r) (s (kJ r r) (s (xn r) (s (lZ r) (kZ (t_n b 0 [V (wr (c.a+1))] r mP r r) fun w7 b=>n (q (g (s (kY r) (s (mp r) ?_))))))))))))))
    obtain ⟨A,Y,h8,m⟩:=lX m
    refine sc (ec BN r) (qj fu (b.pr [0] [1] [1] r) h8) ?_
    rintro _ w8 ⟨rfl,v⟩
    replace b:=b.cn [0] [1] v
    refine s (uo r r r) (kZ (nU b 1 [V 2,V 0,V 0,T p,T A,sn] r jT r r) fun w9 b=>n (kU ?_))
    replace b:=b.kr (d:=.l none 0 ([]:List Ge)) nZ
    obtain rfl:=sm m
    replace o:=oi o
    obtain rfl:=sm o
    exact jB r (tV r mU r jT r (b.bk 1 r)) (mJ (⟨none,0,r,(b.ad [0] [0,1])⟩))
   replace E:=nt E
   exact jD (cb E) (wk (D _ _ ⟨⟨r,r,r,r,y⟩,(b.dp [1]),sm m⟩))
  rw [decide_eq_false H]
  exact jL r (jL r (s (jZ r r) (n (jD r (wk (D _ _ ⟨⟨r,r,r,r,y⟩,(b.dp [0]),sm m⟩))))))
 clear b
 rintro f w ⟨hf,b,I⟩
 obtain ⟨aq,rfl⟩:=fV _ _ hf
 clear hf
 subst I
 replace o:=gi o
 refine q (q (g (s (mp r) (s (xn r) (s (qV r) (s (BK r (b.bk 0 r) r) (s (kH r r) (s (kQ r) ?_))))))))
 rcases iv o with ⟨B,o⟩|⟨B,o⟩
 ·rw [decide_eq_true B]
  refine ku r (s (mp r) ?_)
  obtain ⟨J,K,o⟩:=bs o
  refine ku r (sc (ec vo r) (mY fu (b.pr [0] [1] [0] r) K) ?_)
  rintro _ a5 ⟨rfl,v⟩
  replace b:=b.cn [0] [1] v
  refine s (kG r r) (n ?_)
  rcases iv o with ⟨x,o⟩|⟨x,o⟩
  ·refine jJ (cb x) (q (g (s (mp r) (s (xn r) (s (lZ r) (s (l3 r (b.bk 0 r) r) (s (kJ r r) (s (xn r) (s (lZ r) (kZ (t_n b 0 [V (wr (c.a+1))] r mP r r) fun a6 b=>n (q (g (s (mp r) (s (mi r) (s (kJ r r) ?_)))))))))))))))
   obtain ⟨a,L,M,o⟩:=lX o
   refine sc (ec Ay r) (H_r03_expression (b.pr [0] [1] [1] r) M) ?_
   rintro _ a7 ⟨h,j,rfl,v⟩
   replace b:=b.cn [0] [1] v
   refine sV b (jU jT) fun a8 a9 b=>kZ (nU b 0 [V a.e,V a.c,V a.g,T a.b,T a.d,Z h a.a j] r jT r r) fun aa b=>n (q (g (s (mp r) ?_)))
   obtain ⟨N,Q,o⟩:=bs o
   refine sc (ec vS r) (lT fu (b.pr [1] [0,2] [1] r) Q) ?_
   rintro _ ab ⟨rfl,v⟩
   replace b:=b.cn [1] [0,2] v
   refine n (q (g (s (kY r) (s (ng [V a.e,V a.c,V a.g,T a.b,T a.d,Z h a.a j] mU jT r (b.bk 1 r)) (nM (jN b [[V a.e,V a.c,V a.g,T a.b,T a.d,Z h a.a j]] ([a]:List Ge) (kS r) r r (by decide) ⟨(jA.inn ⟨h,j,r,(b.dl 1 r)⟩),y⟩) ?_)))))
   rintro _ ac ⟨C,rfl,b⟩
   refine s (Bj r r r) (kZ (nU b 3 [V 3,V 0,V 0,T p,T be,.slice (ad C) ([a]:List Ge).length 1] r jT r r) fun ae b=>n (kU ?_))
   replace b:=b.fz 0 0 r r
   obtain rfl:=sm o
   exact jB r (tV r mU r jT r (b.bk 2 r)) (mJ (⟨(ad C),1,r,(b.ad [0] [0,1])⟩))
  replace x:=nt x
  refine jD (cb x) (wk (q (g (s (kY r) (s (DF r r) (kZ (nU b 1 [V 1,V 0,V 0,T p,T be,sn] r jT r r) fun af b=>n (kU ?_)))))))
  replace b:=b.kr (d:=.l none 0 ([]:List Ge)) nZ
  obtain rfl:=sm o
  exact jB r (tV r mU r jT r (b.bk 1 r)) (mJ (⟨none,0,r,(b.ad [0] [0,2])⟩))
 rw [decide_eq_false B]
 refine jL r (jL r (s (jZ r r) (n (jD r (wk (q (g (s (kY r) (s (DF r r) (kZ (nU b 1 [V 1,V 0,V 0,T p,T be,sn] r jT r r) fun ag b=>n (kU ?_)))))))))))
 replace b:=b.kr (d:=.l none 0 ([]:List Ge)) nZ
 obtain rfl:=sm o
 exact jB r (tV r mU r jT r (b.bk 1 r)) (mJ (⟨none,0,r,(b.arr [0] r)⟩))
theorem zJ (fu:Nat):pO (lW fu)∧wE (yI fu)∧sZ (sJ fu):=by
 induction fu with
 | zero=>exact ⟨by intro a b;intros;exact nn (by assumption),by intro a b;intros;exact nn (by assumption),by intro a b;intros;exact nn (by assumption)⟩
 | succ fu ih=>exact ⟨Dt fu (lW fu) (yI fu) (sJ fu) ih.1 ih.2.1 ih.2.2,Ip fu (lW fu) (yI fu) (sJ fu) ih.1 ih.2.1 ih.2.2,Gl fu (lW fu) (yI fu) (sJ fu) ih.1 ih.2.1 ih.2.2⟩
theorem rA (fu:Nat):pO (lW fu):=(zJ fu).1
theorem GQ (fu:Nat):sZ (sJ fu):=(zJ fu).2.2
def DV (m:gP→Option ((List Ge) × gP)):Prop:=∀ {k:World} {p:Nat→Prop} {i:gP} {j:Nat} {a:Option Addr} {b:Nat} {R:(List Ge) × gP},Pre k p [.box j 102 #[Z a i.l b,V i.a,V i.c,V i.e]] [.l a b i.l]→m i=some R→
 Calls Try.prog 127 #[Pt j] k (qQ fun v w=>jy R fun o c=>∃ (d:OA)(f:Nat)(h:LV),v=Z d o f∧Bx k w p (lS [.box j 102 #[Z a i.l b,V i.a,V i.c,V i.e]]) [O k.heap.size d f 138 Ge h,.box j 102 #[Z a c.l b,V c.a,V c.c,V c.e]] [.els h o,.l a b c.l])
def oQ (fu:Nat):Nat→(List jY)→Int→Int→Int→(List Ge)→Option (Ld (List jY × Int × Int × Int × List Ge) ((List Ge) × gP))
 | 0,_,_,_,_,_=>none
 | k+1,b,c,d,a,h=>
 if a=0 then
  (mq fu (⟨b,c,d,a⟩:gP) 0 (⟨#[44]⟩:BA)).bind fun i=>
  if i=true then
   (lW fu (⟨b,(wr (c+1)),d,a⟩:gP) 1 0).bind fun o=>
   jy o fun j f=>
   (app h ([j]:List Ge)).bind fun m=>
   oQ fu k f.l f.a f.c f.e m
  else
   some (.go (b,c,d,a,h))
 else
  some (.go (b,c,d,a,h))
def sI (fu:Nat)(a:gP):Option (Ld (List Ge × List jY × Int × Int × Int) ((List Ge) × gP)):=
 if a.e=0 then
  (mq fu a 0 (⟨#[41]⟩:BA)).bind fun j=>
  if (!j)=true then
   (lW fu a 1 0).bind fun p=>
   jy p fun k b=>
   (app ([]:List Ge) ([k]:List Ge)).bind fun m=>
   (oQ fu fu b.l b.a b.c b.e m).bind fun p=>p.el (fun p=>
   jy p fun c p=>jy p fun d p=>jy p fun f p=>jy p fun h i=>
   some (.go (i,c,d,f,h))
   ) (fun o=>some (.out o))
  else
   some (.go (([]:List Ge),a.l,a.a,a.c,a.e))
 else
  some (.go (([]:List Ge),a.l,a.a,a.c,a.e))
def sQ (fu:Nat)(i:gP):Option ((List Ge) × gP):=
 (lI fu i (⟨#[40]⟩:BA)).bind fun b=>
 (sI fu b).bind fun j=>j.el (fun j=>
 jy j fun c j=>jy j fun d j=>jy j fun e j=>jy j fun f h=>
 (lI fu (⟨d,e,f,h⟩:gP) (⟨#[41]⟩:BA)).bind fun a=>
 some (c,a)
 ) (fun o=>some o)
theorem DN (fu:Nat):DV (sQ fu):=by
 intro w0 aR x0 K v x R hP J
 unfold sQ at J
 have c:=hP.bx
 clear hP
 generalize hG:lS _=G at c ⊢
 refine cf Try.func127 r (lM [(0,Pt K)] ⟨r,y⟩ fun aS=>q (g (s (mG r) (n (q (g (s (mG r) (n (q (g (s (mp r) ?_)))))))))))
 obtain ⟨A,h1,J⟩:=bs J
 refine sc (ec vS r) (lT fu (c.pr [0] [] [0] r) h1) ?_
 rintro _ w1 ⟨rfl,U⟩
 replace c:=c.cn [0] [] U
 refine n (q ?_)
 replace c:=c.Bv Ge 138
 obtain ⟨Y3,b,J⟩:=bs J
 refine nT (fun f w=>∃ (N:List Ge) (E:OA)(F:Nat)(H:LV)(Q:List jY) (W:Int)(X:Int)(Y:Int),Has f [(0,Pt K),(3,Z E N F)]∧Bx w0 w aR G [O w0.heap.size E F 138 Ge H,.box K 102 #[Z v Q x,V W,V X,V Y]] [.l v x Q,.els H N]∧Ld.go (N,Q,W,X,Y)=Y3) (fun J3 a2=>?_) ?_
 ·unfold sI at b
  refine q (g (s (mp r) (s (xn r) (s (qV r) (s (BK r (c.bk 1 r) r) (s (kH r r) (s (kQ r) ?_)))))))
  rcases iv b with ⟨h4,b⟩|⟨h4,b⟩
  ·rw [decide_eq_true h4]
   refine ku r (s (mp r) ?_)
   obtain ⟨aq,h5,b⟩:=bs b
   refine ku r (sc (ec vo r) (mY fu (c.pr [1] [0] [1] r) h5) ?_)
   rintro _ w5 ⟨rfl,U⟩
   replace c:=c.cn [1] [0] U
   refine ku r (s (Ae r) (s (kG r r) (n ?_)))
   rcases iv b with ⟨h6,b⟩|⟨h6,b⟩
   ·refine jJ (cb h6) (q (g (s (nL r) (s (mp r) ?_))))
    obtain ⟨B,S,h7,b⟩:=lX b
    refine sc (ec Ay r) (rA fu (c.pr [0] [1] [2] r) h7) ?_
    rintro _ w7 ⟨L,M,rfl,U⟩
    replace c:=c.cn [0] [1] U
    refine nM (jN c [[V B.e,V B.c,V B.g,T B.b,T B.d,Z L B.a M]] ([B]:List Ge) (kS r) r r (by decide) ⟨(jA.inn ⟨L,M,r,(c.dl 0 r)⟩),y⟩) ?_
    rintro _ w8 ⟨b8,rfl,c⟩
    obtain ⟨r9,ae,b⟩:=bs b
    refine nM (kL c 2 4 r r tX jT r (by decide) (by decide) (Nat.le_refl _) r r (c.zN 0 0 r r) ae) ?_
    rintro _ w9 ⟨A9,C9,Q9,rfl,c⟩
    refine s (mG r) (n ?_)
    obtain ⟨a7,a,b⟩:=bs b
    refine nT (fun f w=>∃ (d:List jY) (o:Int)(t:Int)(u:Int)(p:List Ge) (h:OA)(j:Nat)(m:LV),Has f [(0,Pt K),(3,Z h p j)]∧Bx w0 w aR G [.box K 102 #[Z v d x,V o,V t,V u],O w0.heap.size h j 138 Ge m] [.l v x d,.els m p]∧Ld.go (d,o,t,u,p)=a7) (fun aB a1=>?_) ?_
    ·refine nS (kE (fun aT f w=>∃ (d:List jY) (o:Int)(t:Int)(u:Int)(p:List Ge) (h:OA)(j:Nat)(m:LV),Has f [(0,Pt K),(3,Z h p j)]∧Bx w0 w aR G [.box K 102 #[Z v d x,V o,V t,V u],O w0.heap.size h j 138 Ge m] [.l v x d,.els m p]∧oQ fu aT d o t u p=some a7) fu ⟨S.l,S.a,S.c,S.e,r9,A9,C9,Q9,⟨r,r,y⟩,(c.ad [1,2] [2,4]),a⟩ ?_)
     clear c a
     rintro a3 f w ⟨d,o,t,u,p,h,j,m,hf,c,a⟩ aC a8
     obtain ⟨aS,rfl⟩:=fV _ _ hf
     clear hf
     cases a3 with
     | zero=>exact nn a
     | succ a3=>
      rw [oQ] at a
      refine q (q (g (s (mp r) (s (xn r) (s (qV r) (s (BK r (c.bk 0 r) r) (s (kH r r) (s (kQ r) ?_))))))))
      rcases iv a with ⟨a4,a⟩|⟨a4,a⟩
      ·rw [decide_eq_true a4]
       refine ku r (s (mp r) ?_)
       obtain ⟨af,ag,a⟩:=bs a
       refine ku r (sc (ec vo r) (mY fu (c.pr [0] [1] [0] r) ag) ?_)
       rintro _ aD ⟨rfl,U⟩
       replace c:=c.cn [0] [1] U
       refine s (kG r r) (n ?_)
       rcases iv a with ⟨a0,a⟩|⟨a0,a⟩
       ·refine jJ (cb a0) (wk (nS (q (g (s (mp r) (s (xn r) (s (lZ r) (s (l3 r (c.bk 0 r) r) (s (kJ r r) (s (xn r) (s (lZ r) (kZ (t_n c 0 [V (wr (o+1))] r mP r r) fun aE c=>n (g (s (nL r) (s (mp r) ?_)))))))))))))))
        obtain ⟨z,I,ah,a⟩:=lX a
        refine sc (ec Ay r) (rA fu (c.pr [0] [1] [1] r) ah) ?_
        rintro _ aF ⟨C,D,rfl,U⟩
        replace c:=c.cn [0] [1] U
        refine nM (jN c [[V z.e,V z.c,V z.g,T z.b,T z.d,Z C z.a D]] ([z]:List Ge) (kS r) r r (by decide) ⟨(jA.inn ⟨C,D,r,(c.dl 0 r)⟩),y⟩) ?_
        rintro _ aG ⟨aH,rfl,c⟩
        obtain ⟨ai,a9,a⟩:=bs a
        refine nM (kL c 2 5 r r tX jT r (by decide) (by decide) (Nat.le_refl _) r r (c.zN 0 0 r r) a9) ?_
        rintro _ aI ⟨aj,ak,al,rfl,c⟩
        exact s (mG r) (n (a8 a3 _ _ (Nat.lt_succ_self _) ⟨I.l,I.a,I.c,I.e,ai,aj,ak,al,⟨r,r,y⟩,(c.ad [1,2] [2,5]),a⟩))
       replace a0:=nt a0
       exact jD (cb a0) (ug (a1 _ _ ⟨d,o,t,u,p,h,j,m,⟨r,r,y⟩,(c.dp [1,2]),sm a⟩))
      rw [decide_eq_false a4]
      exact jL r (jL r (s (jZ r r) (n (jD r (ug (a1 _ _ ⟨d,o,t,u,p,h,j,m,⟨r,r,y⟩,c,sm a⟩))))))
    clear c
    rintro f w ⟨d,o,t,u,p,h,j,m,hf,c,aa⟩
    obtain ⟨aS,rfl⟩:=fV _ _ hf
    clear hf
    subst aa
    replace b:=gi b
    replace b:=pi (mE b)
    exact a2 _ _ ⟨p,h,j,m,d,o,t,u,⟨r,r,y⟩,(c.arr [1,0] r),sm b⟩
   replace h6:=nt h6
   exact jD (cb h6) (wk (a2 _ _ ⟨([]:List Ge),none,0,[],A.l,A.a,A.c,A.e,⟨r,r,y⟩,(c.ad [1,0] [2,1]),sm b⟩))
  rw [decide_eq_false h4]
  exact jL r (jL r (jL r (s (jZ r r) (n (jD r (wk (a2 _ _ ⟨([]:List Ge),none,0,[],A.l,A.a,A.c,A.e,⟨r,r,y⟩,(c.dp [1,0]),sm b⟩)))))))
 clear c
 rintro f w ⟨N,E,F,H,Q,W,X,Y,hf,c,am⟩
 obtain ⟨aS,rfl⟩:=fV _ _ hf
 clear hf
 subst am
 replace J:=gi J
 replace J:=pi (mE J)
 refine q (g (s (mp r) ?_))
 obtain ⟨an,ao,J⟩:=bs J
 refine sc (ec vS r) (lT fu (c.pr [1] [0] [0] r) ao) ?_
 rintro _ aJ ⟨rfl,U⟩
 replace c:=c.cn [1] [0] U
 refine n (q (g (s (nL r) (s (mG r) (n (kU ?_))))))
 obtain rfl:=sm J
 exact jB r (lq r) (mJ (⟨E,F,H,r,(c.ad [1,0] [2,0])⟩))
def Js (m:gP→Gs→Option (gP × Gs)):Prop:=∀ {B:World} {C:Nat→Prop} {x:gP} {b:Gs} {z:Nat} {c:Option Addr} {d:Nat} {A:Nat} {f:Option Addr} {h:Nat} {i:Option Addr} {j:Nat} {k:Option Addr} {o:Nat} {p:Option Addr} {t:Nat} {R:gP × Gs},Pre B C [.box z 102 #[Z c x.l d,V x.a,V x.c,V x.e],.box A 111 #[V b.e,V b.f,V b.n,T b.b,T b.j,V b.m,V b.g,Z f b.c h,T b.k,V b.i,Z i b.a j,Z k b.d o,Z p b.h t]] [.l c d x.l,.l f h b.c,.l i j b.a,.l k o b.d,.l p t b.h]→m x b=some R→
 Calls Try.prog 111 #[Pt z,Pt A] B (qQ fun v w=>jy R fun u a=>v=.tuple #[]∧Bx B w C (lS [.box z 102 #[Z c x.l d,V x.a,V x.c,V x.e],.box A 111 #[V b.e,V b.f,V b.n,T b.b,T b.j,V b.m,V b.g,Z f b.c h,T b.k,V b.i,Z i b.a j,Z k b.d o,Z p b.h t]]) [.box z 102 #[Z c u.l d,V u.a,V u.c,V u.e],.box A 111 #[V a.e,V a.f,V a.n,T a.b,T a.j,V a.m,V a.g,Z f a.c h,T a.k,V a.i,Z i a.a j,Z k a.d o,Z p a.h t]] [.l c d u.l,.l f h a.c,.l i j a.a,.l k o a.d,.l p t a.h])
def wY (fu:Nat)(a:jY):Option (Ld (Bool) (gP × Gs)):=
 if a.c < 1 then
  some (.go true)
 else
  some (.go (decide (8 < a.c)))
def yP (fu:Nat)(b:gP) (a:Gs):Option (gP × Gs):=
 if b.e≠0 then
  some (b,a)
 else
  (mq fu b 0 (⟨#[105,110,116]⟩:BA)).bind fun k=>
  if (!k)=true then
   (oh fu b).bind fun u=>
   jy u fun m p=>
   some (p,(⟨a.e,a.f,a.n,a.b,m,a.m,a.g,a.c,a.k,a.i,a.a,a.d,a.h⟩:Gs))
  else
   (mq fu (⟨b.l,(wr (b.a+1)),b.c,b.e⟩:gP) 0 (⟨#[91]⟩:BA)).bind fun t=>
   if (!t)=true then
    some ((⟨b.l,(wr (b.a+1)),b.c,b.e⟩:gP),a)
   else
    (oO fu (⟨b.l,(wr ((wr (b.a+1))+1)),b.c,b.e⟩:gP) 0 2).bind fun c=>
    if (!c)=true then
     (oN fu (⟨b.l,(wr ((wr (b.a+1))+1)),b.c,b.e⟩:gP) 7).bind fun d=>
     some (d,a)
    else
     (ix b.l (wr ((wr (b.a+1))+1))).bind fun f=>
     (wY fu f).bind fun u=>u.el (fun h=>
     if h=true then
      (oN fu (⟨b.l,(wr ((wr (b.a+1))+1)),b.c,b.e⟩:gP) 5).bind fun i=>
      some (i,(⟨a.e,a.f,a.n,a.b,a.j,f.c,a.g,a.c,a.k,a.i,a.a,a.d,a.h⟩:Gs))
     else
      (lI fu (⟨b.l,(wr ((wr ((wr (b.a+1))+1))+1)),b.c,b.e⟩:gP) (⟨#[93]⟩:BA)).bind fun j=>
      some (j,(⟨a.e,a.f,a.n,a.b,a.j,f.c,a.g,a.c,a.k,a.i,a.a,a.d,a.h⟩:Gs))
     ) (fun o=>some o)
theorem JA (fu:Nat):Js (yP fu):=by
 intro w0 az m b K d j N o p t u v x z A R hP c
 unfold yP at c
 have a:=hP.bx
 clear hP
 generalize hG:lS _=G at a ⊢
 refine cf Try.func111 r (lM [(0,Pt K),(1,Pt N)] ⟨r,r,y⟩ fun aA=>q (q (g (s (mp r) (s (xn r) (s (qV r) (s (BK r (a.bk 0 r) r) (s (rT r r) (n ?_)))))))))
 rcases iv c with ⟨Y,c⟩|⟨Y,c⟩
 ·refine jJ (bt Y) (kU ?_)
  obtain rfl:=sm c
  exact zi (P:=Try.prog) (fn:=Try.f111) r (mJ (⟨r,a⟩))
 refine jD (bf Y) (wk (q (q (g (s (mp r) ?_)))))
 obtain ⟨aa,h2,c⟩:=bs c
 refine sc (ec vo r) (mY fu (a.pr [0] [1] [0] r) h2) ?_
 rintro _ w2 ⟨rfl,H⟩
 replace a:=a.cn [0] [1] H
 refine s (Ae r) (n ?_)
 rcases iv c with ⟨S,c⟩|⟨S,c⟩
 ·refine jJ (cb S) (q (g (s (mp r) (s (mp r) ?_))))
  obtain ⟨L,ab,h4,c⟩:=lX c
  refine sc (ec BN r) (qj fu (a.pr [0] [1] [1] r) h4) ?_
  rintro _ w4 ⟨rfl,H⟩
  replace a:=a.cn [0] [1] H
  refine s (xn r) (s (EY r) (kZ (t_n a 1 [T L] r nX r r) fun w5 a=>n (kU ?_)))
  obtain rfl:=sm c
  exact zi (P:=Try.prog) (fn:=Try.f111) r (mJ (⟨r,(a.dp [0,3,4,5,6])⟩))
 replace S:=nt S
 refine jD (cb S) (wk (q (g (s (mp r) (s (xn r) (s (lZ r) (s (l3 r (a.bk 0 r) r) (s (kJ r r) (s (xn r) (s (lZ r) (kZ (t_n a 0 [V (wr (m.a+1))] r mP r r) fun w6 a=>n (q (q (g (s (mp r) ?_)))))))))))))))
 obtain ⟨ac,h7,c⟩:=bs c
 refine sc (ec vo r) (mY fu (a.pr [0] [1] [1] r) h7) ?_
 rintro _ w7 ⟨rfl,H⟩
 replace a:=a.cn [0] [1] H
 refine s (Ae r) (n ?_)
 rcases iv c with ⟨U,c⟩|⟨U,c⟩
 ·refine jJ (cb U) (kU ?_)
  obtain rfl:=sm c
  exact zi (P:=Try.prog) (fn:=Try.f111) r (mJ (⟨r,(a.dp [2,3,4,5,6])⟩))
 replace U:=nt U
 refine jD (cb U) (wk (q (g (s (mp r) (s (xn r) (s (lZ r) (s (l3 r (a.bk 0 r) r) (s (kJ r r) (s (xn r) (s (lZ r) (kZ (t_n a 0 [V (wr ((wr (m.a+1))+1))] r mP r r) fun w9 a=>n (q (q (g (s (mp r) ?_)))))))))))))))
 obtain ⟨a0,a1,c⟩:=bs c
 refine sc (ec Dm r) (q9 fu (a.pr [0] [1] [2] r) a1) ?_
 rintro _ ai ⟨rfl,H⟩
 replace a:=a.cn [0] [1] H
 refine s (Ae r) (n ?_)
 rcases iv c with ⟨I,c⟩|⟨I,c⟩
 ·refine jJ (cb I) (q (g (s (mp r) ?_)))
  obtain ⟨a2,a3,c⟩:=bs c
  refine sc (ec Du r) (qZ fu (a.pr [0] [1] [3] r) a3) ?_
  rintro _ aj ⟨rfl,H⟩
  replace a:=a.cn [0] [1] H
  refine n (kU ?_)
  obtain rfl:=sm c
  exact zi (P:=Try.prog) (fn:=Try.f111) r (mJ (⟨r,(a.dp [0,5,6,7,8])⟩))
 replace I:=nt I
 refine jD (cb I) (wk (q (qc a [0] [3] [] (by kernel_rfl) ?_)))
 replace a:=a.drew
 have D:=(a.ad [0] [3])
 refine pF 0 r (mp r) D (pF 1 r (mp r) D (pF 2 r (xn r) D (pF 3 r (yV r) D (uF 4 r (fun hS=>Oy r (hS.bk 0 r) r) D (pF 5 r (mp r) D (pF 6 r (xn r) D (pF 7 r (lZ r) D (uF 8 r (fun hS=>l3 r (hS.bk 0 r) r) D ?_))))))))
 obtain ⟨C,F,c⟩:=bs c
 obtain ⟨ak,W,F⟩:=kR F
 refine pF 9 r (kW Cu oZ r r W (a.dl 3 r) F) D (pF 10 r (OY r) D (tU 11 r (fun _ hS=>jP F8 r r ((uK (ds:=[V C.e,V C.f,T C.a,V C.c]) (hS.dl 0 r) F (fun _ h=>h)) 3 _ r)) (sF D) (pF 12 r (xn r) D (pF 13 r (Bl r) D (hO 14 (os r r (t_n a 1 [V C.c] r mP r r) fun al a=>?_))))))
 have D:=(a.ad [0] [3])
 refine ⟨(sF D),(hD (q (q ?_)))⟩
 obtain ⟨a4,B,c⟩:=bs c
 refine nT (fun f w=>∃ (E:Bool),Has f [(0,Pt K),(64,.bool E)]∧Bx w0 w az G [.box K 102 #[Z d m.l j,V (wr ((wr (m.a+1))+1)),V m.c,V m.e],.box N 111 #[V b.e,V b.f,V b.n,T b.b,T b.j,V C.c,V b.g,Z o b.c p,T b.k,V b.i,Z t b.a u,Z v b.d x,Z z b.h A]] [.l d j m.l,.l o p b.c,.l t u b.a,.l v x b.d,.l z A b.h]∧Ld.go E=a4) (fun am M=>?_) ?_
 ·unfold wY at B
  refine g (s (mp r) (s (xn r) (s (Bl r) (s (l3 r (a.bk 1 r) r) (s (qo r r) (s (kQ r) ?_))))))
  rcases iv B with ⟨Q,B⟩|⟨Q,B⟩
  ·rw [decide_eq_true Q]
   exact jL r (jL r (jL r (jL r (jL r (s (kG r r) (n (M _ _ ⟨true,⟨r,r,y⟩,(a.dp [3,4,5,6,7]),sm B⟩)))))))
  rw [decide_eq_false Q]
  exact ku r (s (mp r) (ku r (s (xn r) (ku r (s (Bl r) (ku r (s (l3 r (a.bk 1 r) r) (ku r (s (uZ r r) (s (jZ r r) (n (M _ _ ⟨(decide (8 < C.c)),⟨r,r,y⟩,(a.dp [3,4,5,6,7]),sm B⟩))))))))))))
 clear a
 rintro f w ⟨E,hf,a,X⟩
 obtain ⟨aA,rfl⟩:=fV _ _ hf
 clear hf
 subst X
 replace c:=gi c
 rcases iv c with ⟨J,c⟩|⟨J,c⟩
 ·refine jJ (cb J) (q (g (s (mp r) ?_)))
  obtain ⟨a5,a6,c⟩:=bs c
  refine sc (ec Du r) (qZ fu (a.pr [0] [1] [0] r) a6) ?_
  rintro _ an ⟨rfl,H⟩
  replace a:=a.cn [0] [1] H
  refine n (kU ?_)
  obtain rfl:=sm c
  exact zi (P:=Try.prog) (fn:=Try.f111) r (mJ (⟨r,(a.dp [0,2,3,4,5])⟩))
 replace J:=nt J
 refine jD (cb J) (wk (q (g (s (mp r) (s (xn r) (s (lZ r) (s (l3 r (a.bk 0 r) r) (s (kJ r r) (s (xn r) (s (lZ r) (kZ (t_n a 0 [V (wr ((wr ((wr (m.a+1))+1))+1))] r mP r r) fun ao a=>n (g (s (mp r) ?_)))))))))))))
 obtain ⟨a7,a8,c⟩:=bs c
 refine sc (ec vS r) (lT fu (a.pr [0] [1] [0] r) a8) ?_
 rintro _ ap ⟨rfl,H⟩
 replace a:=a.cn [0] [1] H
 refine n ?_
 obtain rfl:=sm c
 exact zi (P:=Try.prog) (fn:=Try.f111) r (mJ (⟨r,(a.dp [0,2,3,4,5])⟩))
def I7 (m:gP→Gs→Bool→Option (gP × Gs)):Prop:=∀ {D:World} {F:Nat→Prop} {A:gP} {b:Gs} {E:Bool} {B:Nat} {c:Option Addr} {d:Nat} {C:Nat} {f:Option Addr} {h:Nat} {p:Option Addr} {t:Nat} {i:Option Addr} {j:Nat} {k:Option Addr} {o:Nat} {R:gP × Gs},Pre D F [.box B 102 #[Z c A.l d,V A.a,V A.c,V A.e],.box C 111 #[V b.e,V b.f,V b.n,T b.b,T b.j,V b.m,V b.g,Z f b.c h,T b.k,V b.i,Z p b.a t,Z i b.d j,Z k b.h o]] [.l c d A.l,.l f h b.c,.l p t b.a,.l i j b.d,.l k o b.h]→m A b E=some R→
 Calls Try.prog 113 #[Pt B,Pt C,.bool E] D (qQ fun v w=>jy R fun z a=>∃ (u:OA)(x:Nat),v=.tuple #[]∧Bx D w F (lS [.box B 102 #[Z c A.l d,V A.a,V A.c,V A.e],.box C 111 #[V b.e,V b.f,V b.n,T b.b,T b.j,V b.m,V b.g,Z f b.c h,T b.k,V b.i,Z p b.a t,Z i b.d j,Z k b.h o]]) [.box B 102 #[Z c z.l d,V z.a,V z.c,V z.e],.box C 111 #[V a.e,V a.f,V a.n,T a.b,T a.j,V a.m,V a.g,Z f a.c h,T a.k,V a.i,Z u a.a x,Z i a.d j,Z k a.h o]] [.l c d z.l,.l f h a.c,.l u x a.a,.l i j a.d,.l k o a.h])
def wS (fu:Nat)(i:gP) (a:Gs) (j:Bool):Option (Ld (Unit) (gP × Gs)):=
 if i.e=0 then
  if j=true then
   (sw fu i).bind fun b=>
   if b=true then
    (oh fu i).bind fun k=>
    jy k fun c d=>
    (sQ fu d).bind fun k=>
    jy k fun f h=>
    some (.out (h,(⟨a.e,a.f,a.n,a.b,a.j,a.m,a.g,a.c,c,a.i,f,a.d,a.h⟩:Gs)))
   else
    some (.go ())
  else
   some (.go ())
 else
  some (.go ())
def qY (fu:Nat)(d:gP) (a:Gs) (e:Bool):Option (gP × Gs):=
 (wS fu d a e).bind fun f=>f.el (fun _=>
 (lW fu d 1 0).bind fun f=>
 jy f fun b c=>
 some (c,(⟨a.e,a.f,a.n,a.b,a.j,a.m,a.g,a.c,a.k,a.i,([b]:List Ge),a.d,a.h⟩:Gs))
 ) (fun o=>some o)
theorem wW (fu:Nat):I7 (qY fu):=by
 intro w0 am H a x2 I C D J h j A B m o p t R hP E
 unfold qY at E
 have c:=hP.bx
 clear hP
 generalize hG:lS _=G at c ⊢
 refine cf Try.func113 r (lM [(0,Pt I),(1,Pt J),(2,.bool x2)] ⟨r,r,r,y⟩ fun an=>q ?_)
 obtain ⟨Y1,b,E⟩:=bs E
 refine nT (fun f w=>Has f [(0,Pt I),(1,Pt J)]∧Bx w0 w am G [.box I 102 #[Z C H.l D,V H.a,V H.c,V H.e],.box J 111 #[V a.e,V a.f,V a.n,T a.b,T a.j,V a.m,V a.g,Z h a.c j,T a.k,V a.i,Z A a.a B,Z m a.d o,Z p a.h t]] [.l C D H.l,.l h j a.c,.l A B a.a,.l m o a.d,.l p t a.h]∧Ld.go ()=Y1) (fun J1 L=>?_) ?_
 ·unfold wS at b
  refine q (g (s (mp r) (s (xn r) (s (qV r) (s (BK r (c.bk 0 r) r) (s (kH r r) (s (kQ r) ?_)))))))
  rcases iv b with ⟨W,b⟩|⟨W,b⟩
  ·rw [decide_eq_true W]
   refine ku r (s (kQ r) (s (kG r r) (s (kQ r) ?_)))
   rcases iv b with ⟨Q,b⟩|⟨Q,b⟩
   ·rw [Q]
    refine ku r (s (mp r) ?_)
    obtain ⟨a4,h4,b⟩:=bs b
    refine ku r (sc (ec O9 r) (Ea fu (c.pr [0] [1] [0] r) h4) ?_)
    rintro _ w4 ⟨rfl,M⟩
    replace c:=c.cn [0] [1] M
    refine s (kG r r) (n ?_)
    rcases iv b with ⟨S,b⟩|⟨S,b⟩
    ·refine jJ (cb S) (q (g (s (mp r) (s (mp r) ?_))))
     obtain ⟨F,a5,h6,b⟩:=lX b
     refine sc (ec BN r) (qj fu (c.pr [0] [1] [1] r) h6) ?_
     rintro _ w6 ⟨rfl,M⟩
     replace c:=c.cn [0] [1] M
     refine s (xn r) (s (Cc r) (kZ (t_n c 1 [T F] r nX r r) fun w7 c=>n (q (g (s (mp r) (s (mp r) ?_))))))
     obtain ⟨K,a6,h8,b⟩:=lX b
     refine sc (ec WK r) (DN fu (c.pr [0] [1] [0] r) h8) ?_
     rintro _ w8 ⟨u,v,U,rfl,M⟩
     have X:=c.qW.size
     replace c:=c.cn [0] [1] M
     replace c:=c.rb 0 w0.heap.size r X
     refine s (xn r) (s (uT r) (kZ (t_n c 2 [Z u K v] r su r r) fun w9 c=>n (kU ?_)))
     replace c:=c.fz 0 0 r r
     obtain rfl:=sm b
     replace E:=oi E
     obtain rfl:=sm E
     exact zi (P:=Try.prog) (fn:=Try.f113) r (mJ (⟨u,v,r,(c.dp [1,5,0,7,8])⟩))
    replace S:=nt S
    exact jD (cb S) (wk (L _ _ ⟨⟨r,r,y⟩,(c.dp [1,2,3,4,5]),sm b⟩))
   replace Q:=nt Q
   rw [Q]
   exact jL r (jL r (s (jZ r r) (n (jD r (wk (L _ _ ⟨⟨r,r,y⟩,c,sm b⟩))))))
  rw [decide_eq_false W]
  exact jL r (s (jZ r r) (s (kQ r) (jL r (jL r (s (jZ r r) (n (jD r (wk (L _ _ ⟨⟨r,r,y⟩,c,sm b⟩)))))))))
 clear c
 rintro f w ⟨hf,c,Y⟩
 obtain ⟨an,rfl⟩:=fV _ _ hf
 clear hf
 subst Y
 replace E:=gi E
 refine g (s (mp r) (s (mp r) ?_))
 obtain ⟨d,a0,a1,E⟩:=lX E
 refine sc (ec Ay r) (rA fu (c.pr [0] [1] [0] r) a1) ?_
 rintro _ ac ⟨x,z,rfl,M⟩
 replace c:=c.cn [0] [1] M
 refine nM (jN c [[V d.e,V d.c,V d.g,T d.b,T d.d,Z x d.a z]] ([d]:List Ge) (kS r) r r (by decide) ⟨(jA.inn ⟨x,z,r,(c.dl 0 r)⟩),y⟩) ?_
 rintro _ ae ⟨N,rfl,c⟩
 refine s (xn r) (s (uT r) (kZ (t_n c 2 [.slice (ad N) ([d]:List Ge).length 1] r su r r) fun af c=>n ?_))
 replace c:=c.fz 0 0 r r
 obtain rfl:=sm E
 exact zi (P:=Try.prog) (fn:=Try.f113) r (mJ (⟨(ad N),1,r,(c.dp [2,4,0,6,7])⟩))
def GA (m:gP→Gs→Option (gP × Gs)):Prop:=∀ {F:World} {G:Nat→Prop} {C:gP} {b:Gs} {D:Nat} {c:Option Addr} {d:Nat} {E:Nat} {k:Option Addr} {o:Nat} {p:Option Addr} {t:Nat} {f:Option Addr} {h:Nat} {i:Option Addr} {j:Nat} {R:gP × Gs},Pre F G [.box D 102 #[Z c C.l d,V C.a,V C.c,V C.e],.box E 111 #[V b.e,V b.f,V b.n,T b.b,T b.j,V b.m,V b.g,Z k b.c o,T b.k,V b.i,Z p b.a t,Z f b.d h,Z i b.h j]] [.l c d C.l,.l k o b.c,.l p t b.a,.l f h b.d,.l i j b.h]→m C b=some R→
 Calls Try.prog 114 #[Pt D,Pt E] F (qQ fun v w=>jy R fun B a=>∃ (u:OA)(x:Nat)(z:OA)(A:Nat),v=.tuple #[]∧Bx F w G (lS [.box D 102 #[Z c C.l d,V C.a,V C.c,V C.e],.box E 111 #[V b.e,V b.f,V b.n,T b.b,T b.j,V b.m,V b.g,Z k b.c o,T b.k,V b.i,Z p b.a t,Z f b.d h,Z i b.h j]]) [.box D 102 #[Z c B.l d,V B.a,V B.c,V B.e],.box E 111 #[V a.e,V a.f,V a.n,T a.b,T a.j,V a.m,V a.g,Z u a.c x,T a.k,V a.i,Z z a.a A,Z f a.d h,Z i a.h j]] [.l c d B.l,.l u x a.c,.l z A a.a,.l f h a.d,.l i j a.h])
def xw (fu:Nat)(k:gP) (b:Gs):Option (gP × Gs):=
 (sw fu k).bind fun d=>
 if d=true then
  (qY fu k (⟨3,b.f,b.n,b.b,b.j,b.m,b.g,b.c,b.k,b.i,b.a,b.d,b.h⟩:Gs) true).bind fun l=>
  jy l fun e f=>
  some (e,f)
 else
  (sJ fu k 0).bind fun l=>
  jy l fun h i=>
  (lI fu i (⟨#[61]⟩:BA)).bind fun j=>
  (qY fu j (⟨3,b.f,b.n,b.b,b.j,b.m,b.g,([h]:List Ge),b.k,b.i,b.a,b.d,b.h⟩:Gs) true).bind fun l=>
  jy l fun c a=>
  if a.k=(⟨#[]⟩:BA) then
   some (c,(⟨2,a.f,a.n,a.b,a.j,a.m,a.g,a.c,a.k,a.i,a.a,a.d,a.h⟩:Gs))
  else
   some (c,a)
theorem GN (fu:Nat):GA (xw fu):=by
 intro w0 ag M c I E F J w x z A m o p t R S j
 unfold xw at j
 have b:=S.bx
 clear S
 generalize hG:lS _=G at b ⊢
 refine cf Try.func114 r (lM [(0,Pt I),(1,Pt J)] ⟨r,r,y⟩ fun ah=>q (g (s (mp r) (s (xn r) (s (xM r) (kZ (t_n b 1 [V 3] r mP r r) fun w1 b=>n (q (q (g (s (mp r) ?_))))))))))
 obtain ⟨U,h2,j⟩:=bs j
 refine sc (ec O9 r) (Ea fu (b.pr [0] [1] [0] r) h2) ?_
 rintro _ w2 ⟨rfl,D⟩
 replace b:=b.cn [0] [1] D
 refine n ?_
 rcases iv j with ⟨K,j⟩|⟨K,j⟩
 ·refine jJ (cb K) (q (g (s (mp r) (s (mp r) ?_))))
  obtain ⟨W,X,h4,j⟩:=lX j
  refine sc (ec EM r) (wW fu (b.pr [0,1] [] [1,2,3,4,5] r) h4) ?_
  rintro _ w4 ⟨B,C,rfl,D⟩
  replace b:=b.cn [0,1] [] D
  refine n (kU ?_)
  obtain rfl:=sm j
  exact zi (P:=Try.prog) (fn:=Try.f114) r (mJ (⟨w,x,B,C,r,(b.dp [0,1,2,3,4])⟩))
 replace K:=nt K
 refine jD (cb K) (wk (q (g (s (mp r) (s (mp r) ?_)))))
 obtain ⟨h,Y,h5,j⟩:=lX j
 refine sc (ec QC r) (GQ fu (b.pr [0] [1] [1] r) h5) ?_
 rintro _ w5 ⟨u,v,rfl,D⟩
 replace b:=b.cn [0] [1] D
 refine nM (jN b [[V h.e,V h.c,V h.g,T h.b,T h.d,Z u h.a v]] ([h]:List Ge) (kS r) r r (by decide) ⟨(jA.inn ⟨u,v,r,(b.dl 0 r)⟩),y⟩) ?_
 rintro _ w6 ⟨L,rfl,b⟩
 refine s (xn r) (s (xO r) (kZ (t_n b 2 [.slice (ad L) ([h]:List Ge).length 1] r su r r) fun w7 b=>n (q (g (s (mp r) ?_)))))
 obtain ⟨a0,h8,j⟩:=bs j
 refine sc (ec vS r) (lT fu (b.pr [1] [0,2] [2] r) h8) ?_
 rintro _ w8 ⟨rfl,D⟩
 replace b:=b.cn [1] [0,2] D
 refine n (q (g (s (mp r) (s (mp r) ?_))))
 replace b:=b.fz 1 1 r r
 obtain ⟨N,a,Q,j⟩:=lX j
 refine sc (ec EM r) (wW fu (b.pr [0,1] [] [1,0,7,8,9] r) Q) ?_
 rintro _ a5 ⟨d,f,rfl,D⟩
 replace b:=b.cn [0,1] [] D
 refine n (q (g (s (mp r) (s (xn r) (s (Cc r) (s (l9 r (b.bk 1 r) r) (s (rJ r r) (n ?_))))))))
 rcases iv j with ⟨H,j⟩|⟨H,j⟩
 ·refine jJ (bt H) (g (s (mp r) (s (xn r) (s (xM r) (kZ (t_n b 1 [V 2] r mP r r) fun a6 b=>n ?_)))))
  obtain rfl:=sm j
  exact zi (P:=Try.prog) (fn:=Try.f114) r (mJ (⟨(ad L),1,d,f,r,(b.dp [0,1,2,3,4])⟩))
 refine jD (bf H) (wk ?_)
 obtain rfl:=sm j
 exact zi (P:=Try.prog) (fn:=Try.f114) r (mJ (⟨(ad L),1,d,f,r,(b.dp [0,1,2,3,4])⟩))
abbrev uy:=gP→Int→Option ((List jO) × Int × gP)
abbrev pY:=gP→Int→Option (jO × gP)
def xA (m:gP→Int→Option ((List Gs) × Int × gP)):Prop:=∀ {k:World} {u:Nat→Prop} {i:gP} {o:Int} {j:Nat} {a:Option Addr} {b:Nat} {R:(List Gs) × Int × gP},Pre k u [.box j 102 #[Z a i.l b,V i.a,V i.c,V i.e]] [.l a b i.l]→m i o=some R→
 Calls Try.prog 66 #[Pt j,V o] k (qQ fun v w=>jy R fun p R=>jy R fun t c=>∃ (d:OA)(f:Nat)(h:LV),v=.tuple #[Z d p f,V t]∧Bx k w u (lS [.box j 102 #[Z a i.l b,V i.a,V i.c,V i.e]]) [O k.heap.size d f 111 Gs h,.box j 102 #[Z a c.l b,V c.a,V c.c,V c.e]] [.els h p,.l a b c.l])
def uM (m:gP→Int→Option (Gs × gP)):Prop:=∀ {z:World} {B:Nat→Prop} {u:gP} {A:Int} {x:Nat} {a:Option Addr} {b:Nat} {R:Gs × gP},Pre z B [.box x 102 #[Z a u.l b,V u.a,V u.c,V u.e]] [.l a b u.l]→m u A=some R→
 Calls Try.prog 94 #[Pt x,V A] z (qQ fun v w=>jy R fun c d=>∃ (f:OA)(h:Nat)(i:OA)(j:Nat)(k:OA)(o:Nat)(p:OA)(t:Nat),v=.agg #[V c.e,V c.f,V c.n,T c.b,T c.j,V c.m,V c.g,Z f c.c h,T c.k,V c.i,Z i c.a j,Z k c.d o,Z p c.h t]∧Bx z w B (lS [.box x 102 #[Z a u.l b,V u.a,V u.c,V u.e]]) [.box x 102 #[Z a d.l b,V d.a,V d.c,V d.e]] [.l f h c.c,.l i j c.a,.l k o c.d,.l p t c.h,.l a b d.l])
def pq (fu:Nat)(r_r03_block:uy) (r_r03_statement:pY) (m:Int):Nat→(List Gs)→(List jY)→Int→Int→Int→Option (Ld (List Gs × List jY × Int × Int × Int) ((List Gs) × Int × gP))
 | 0,_,_,_,_,_=>none
 | t+1,i,b,c,d,a=>
 if a=0 then
  (mq fu (⟨b,c,d,a⟩:gP) 0 (⟨#[125]⟩:BA)).bind fun o=>
  if (!o)=true then
   (xB fu (⟨b,c,d,a⟩:gP)).bind fun p=>
   if (!p)=true then
    (oN fu (⟨b,c,d,a⟩:gP) 7).bind fun j=>
    pq fu r_r03_block r_r03_statement m t i j.l j.a j.c j.e
   else
    if 8 < m then
     (oN fu (⟨b,c,d,a⟩:gP) 5).bind fun f=>
     pq fu r_r03_block r_r03_statement m t i f.l f.a f.c f.e
    else
     (r_r03_statement (⟨b,c,d,a⟩:gP) m).bind fun v=>
     jy v fun k h=>
     (app i ([k]:List Gs)).bind fun u=>
     pq fu r_r03_block r_r03_statement m t u h.l h.a h.c h.e
  else
   some (.go (i,b,c,d,a))
 else
  some (.go (i,b,c,d,a))
def xE (fu:Nat)(r_r03_block:uy) (r_r03_statement:pY) (a:List jY) (b:Int)(c:Int):Option (Ld (Int) ((List Gs) × Int × gP)):=
 if c=0 then
  (ix a b).bind fun d=>
  some (.go d.f)
 else
  some (.go 0)
def yE (fu:Nat)(r_r03_block:uy) (r_r03_statement:pY) (k:gP) (m:Int):Option ((List Gs) × Int × gP):=
 (lI fu k (⟨#[123]⟩:BA)).bind fun a=>
 (pq fu r_r03_block r_r03_statement m fu ([]:List Gs) a.l a.a a.c a.e).bind fun p=>p.el (fun p=>
 jy p fun i p=>jy p fun b p=>jy p fun c p=>jy p fun j d=>
 (xE fu r_r03_block r_r03_statement b c d).bind fun p=>p.el (fun f=>
 (lI fu (⟨b,c,j,d⟩:gP) (⟨#[125]⟩:BA)).bind fun h=>
 some (i,f,h)
 ) (fun o=>some o)
 ) (fun o=>some o)
def sD (fu:Nat)(r_r03_block:uy) (r_r03_statement:pY) (b:gP) (c:jY):Option (Ld (BA × Int) (Gs × gP)):=
 (oO fu b 0 3).bind fun a=>
 if a=true then
  some (.go (c.a,(wr (b.a+1))))
 else
  some (.go ((⟨#[]⟩:BA),b.a))
def sO (fu:Nat)(r_r03_block:uy) (r_r03_statement:pY) (b:gP) (x1:Int):Option (Gs × gP):=
 (ix b.l b.a).bind fun i=>
 (sD fu r_r03_block r_r03_statement b i).bind fun a7=>a7.el (fun a7=>
 jy a7 fun d c=>
 if d=(⟨#[118,97,114]⟩:BA) then
  (oh fu (⟨b.l,c,b.c,b.e⟩:gP)).bind fun a7=>
  jy a7 fun t u=>
  (lI fu u (⟨#[58]⟩:BA)).bind fun v=>
  (yP fu v (⟨1,i.f,0,t,be,0,0,([]:List Ge),be,0,([]:List Ge),([]:List Gs),([]:List Gs)⟩:Gs)).bind fun a7=>
  jy a7 fun w x=>
  (lI fu w (⟨#[59]⟩:BA)).bind fun z=>
  some (x,z)
 else
  if d=(⟨#[105,102]⟩:BA) then
   (lW fu (⟨b.l,c,b.c,b.e⟩:gP) 1 0).bind fun a7=>
   jy a7 fun f A=>
   (r_r03_block A (wr (x1+1))).bind fun a7=>
   jy a7 fun h a7=>jy a7 fun a2 a=>
   if a.e=0 then
    (mq fu a 0 (⟨#[101,108,115,101]⟩:BA)).bind fun B=>
    if B=true then
     (r_r03_block (⟨a.l,(wr (a.a+1)),a.c,a.e⟩:gP) (wr (x1+1))).bind fun a7=>
     jy a7 fun C a7=>jy a7 fun a3 D=>
     some ((⟨4,i.f,0,be,be,0,0,([]:List Ge),be,0,([f]:List Ge),h,C⟩:Gs),D)
    else
     some ((⟨4,i.f,0,be,be,0,0,([]:List Ge),be,0,([f]:List Ge),h,([]:List Gs)⟩:Gs),a)
   else
    some ((⟨4,i.f,0,be,be,0,0,([]:List Ge),be,0,([f]:List Ge),h,([]:List Gs)⟩:Gs),a)
  else
   if d=(⟨#[119,104,105,108,101]⟩:BA) then
    (lW fu (⟨b.l,c,b.c,b.e⟩:gP) 1 0).bind fun a7=>
    jy a7 fun E F=>
    (r_r03_block F (wr (x1+1))).bind fun a7=>
    jy a7 fun G a7=>jy a7 fun a4 H=>
    some ((⟨5,i.f,0,be,be,0,0,([]:List Ge),be,0,([E]:List Ge),G,([]:List Gs)⟩:Gs),H)
   else
    if d=(⟨#[116,114,121]⟩:BA) then
     (r_r03_block (⟨b.l,c,b.c,b.e⟩:gP) (wr (x1+1))).bind fun a7=>
     jy a7 fun I a7=>jy a7 fun a5 J=>
     (lI fu J (⟨#[99,97,116,99,104]⟩:BA)).bind fun K=>
     (oh fu K).bind fun a7=>
     jy a7 fun L M=>
     (r_r03_block M (wr (x1+1))).bind fun a7=>
     jy a7 fun N a7=>jy a7 fun a6 P=>
     some ((⟨8,i.f,0,L,be,0,0,([]:List Ge),be,0,([]:List Ge),I,N⟩:Gs),P)
    else
     if d=(⟨#[114,101,116,117,114,110]⟩:BA) then
      (qY fu (⟨b.l,c,b.c,b.e⟩:gP) (⟨6,i.f,0,be,be,0,0,([]:List Ge),be,0,([]:List Ge),([]:List Gs),([]:List Gs)⟩:Gs) true).bind fun a7=>
      jy a7 fun Q R=>
      (lI fu Q (⟨#[59]⟩:BA)).bind fun S=>
      some (R,S)
     else
      if d=(⟨#[116,104,114,111,119]⟩:BA) then
       (qY fu (⟨b.l,c,b.c,b.e⟩:gP) (⟨7,i.f,0,be,be,0,0,([]:List Ge),be,0,([]:List Ge),([]:List Gs),([]:List Gs)⟩:Gs) false).bind fun a7=>
       jy a7 fun U W=>
       (lI fu U (⟨#[59]⟩:BA)).bind fun X=>
       some (W,X)
      else
       if d=(⟨#[112,114,105,110,116]⟩:BA) then
        (qY fu (⟨b.l,c,b.c,b.e⟩:gP) (⟨9,i.f,0,be,be,0,0,([]:List Ge),be,0,([]:List Ge),([]:List Gs),([]:List Gs)⟩:Gs) false).bind fun a7=>
        jy a7 fun Y a0=>
        (lI fu Y (⟨#[59]⟩:BA)).bind fun j=>
        some (a0,j)
       else
        (xw fu (⟨b.l,c,b.c,b.e⟩:gP) (⟨0,i.f,0,be,be,0,0,([]:List Ge),be,0,([]:List Ge),([]:List Gs),([]:List Gs)⟩:Gs)).bind fun a7=>
        jy a7 fun k m=>
        (lI fu k (⟨#[59]⟩:BA)).bind fun p=>
        some (m,p)
 ) (fun o=>some o)
def tC:Nat→(gP→Int→Option ((List Gs) × Int × gP)) × (gP→Int→Option (Gs × gP))
 | 0=>((fun _ _=>none),(fun _ _=>none))
 | fu+1=>(yE fu ((tC fu).1) ((tC fu).2),sO fu ((tC fu).1) ((tC fu).2))
def vT (fu:Nat):=(tC fu).1
def vG (fu:Nat):=(tC fu).2
theorem I4 (fu:Nat)(r_r03_block:uy) (r_r03_statement:pY) (H_r03_block:xA r_r03_block) (H_r03_statement:uM r_r03_statement):xA (yE fu r_r03_block r_r03_statement):=by
 intro w0 aQ x0 x1 N x z R hP B
 unfold yE at B
 have b:=hP.bx
 clear hP
 generalize hG:lS _=G at b ⊢
 refine cf Try.func66 r (lM [(0,Pt N),(1,V x1)] ⟨r,r,y⟩ fun aR=>q (g (s (mG r) (s (xi r) (n (q (g (s (mG r) (n (q (g (s (mp r) ?_))))))))))))
 obtain ⟨S,h1,B⟩:=bs B
 refine sc (ec vS r) (lT fu (b.pr [0] [] [0] r) h1) ?_
 rintro _ w1 ⟨rfl,X⟩
 replace b:=b.cn [0] [] X
 refine n (q ?_)
 replace b:=b.Bv Gs 111
 obtain ⟨Y2,a,B⟩:=bs B
 refine nT (fun f w=>∃ (o:List Gs) (c:OA)(d:Nat)(j:LV)(p:List jY) (t:Int)(u:Int)(v:Int),Has f [(0,Pt N),(6,Z c o d)]∧Bx w0 w aQ G [O w0.heap.size c d 111 Gs j,.box N 102 #[Z x p z,V t,V u,V v]] [.l x z p,.els j o]∧Ld.go (o,p,t,u,v)=Y2) (fun J2 a6=>?_) ?_
 ·refine nS (kE (fun aS f w=>∃ (o:List Gs) (c:OA)(d:Nat)(j:LV)(p:List jY) (t:Int)(u:Int)(v:Int),Has f [(0,Pt N),(1,V x1),(6,Z c o d)]∧Bx w0 w aQ G [O w0.heap.size c d 111 Gs j,.box N 102 #[Z x p z,V t,V u,V v]] [.l x z p,.els j o]∧pq fu r_r03_block r_r03_statement x1 aS o p t u v=some Y2) fu ⟨([]:List Gs),none,0,[],S.l,S.a,S.c,S.e,⟨r,r,r,y⟩,(b.dp [1,0]),a⟩ ?_)
  clear b a
  rintro n2 f w ⟨o,c,d,j,p,t,u,v,hf,b,a⟩ K2 a2
  obtain ⟨aR,rfl⟩:=fV _ _ hf
  clear hf
  cases n2 with
  | zero=>exact nn a
  | succ n2=>
   rw [pq] at a
   refine q (q (g (s (mp r) (s (xn r) (s (qV r) (s (BK r (b.bk 1 r) r) (s (kH r r) (s (kQ r) ?_))))))))
   rcases iv a with ⟨h4,a⟩|⟨h4,a⟩
   ·rw [decide_eq_true h4]
    refine ku r (s (mp r) ?_)
    obtain ⟨av,h5,a⟩:=bs a
    refine ku r (sc (ec vo r) (mY fu (b.pr [1] [0] [0] r) h5) ?_)
    rintro _ w5 ⟨rfl,X⟩
    replace b:=b.cn [1] [0] X
    refine ku r (s (Ae r) (s (kG r r) (n ?_)))
    rcases iv a with ⟨h6,a⟩|⟨h6,a⟩
    ·refine jJ (cb h6) (wk (nS (q (g (s (mp r) ?_)))))
     obtain ⟨aw,h7,a⟩:=bs a
     refine sc (ec X8 r) (GL fu (b.pr [0] [1] [1] r) h7) ?_
     rintro _ w7 ⟨rfl,X⟩
     replace b:=b.cn [0] [1] X
     refine s (Ae r) (n ?_)
     rcases iv a with ⟨h8,a⟩|⟨h8,a⟩
     ·refine jJ (cb h8) (g (s (mp r) ?_))
      obtain ⟨U,h9,a⟩:=bs a
      refine sc (ec Du r) (qZ fu (b.pr [0] [1] [2] r) h9) ?_
      rintro _ w9 ⟨rfl,X⟩
      replace b:=b.cn [0] [1] X
      exact n (a2 n2 _ _ (Nat.lt_succ_self _) ⟨o,c,d,j,U.l,U.a,U.c,U.e,⟨r,r,r,y⟩,(b.ad [1,0] [0,4]),a⟩)
     replace h8:=nt h8
     refine jD (cb h8) (q (g (s (mi r) (s (uZ r r) (n ?_)))))
     rcases iv a with ⟨a3,a⟩|⟨a3,a⟩
     ·refine jJ (bt a3) (g (s (mp r) ?_))
      obtain ⟨L,ah,a⟩:=bs a
      refine sc (ec Du r) (qZ fu (b.pr [0] [1] [2] r) ah) ?_
      rintro _ aB ⟨rfl,X⟩
      replace b:=b.cn [0] [1] X
      exact n (a2 n2 _ _ (Nat.lt_succ_self _) ⟨o,c,d,j,L.l,L.a,L.c,L.e,⟨r,r,r,y⟩,(b.ad [1,0] [0,4]),a⟩)
     refine jD (bf a3) (g (s (nL r) (s (mp r) (s (mi r) ?_))))
     obtain ⟨m,M,ai,a⟩:=lX a
     refine sc (ec Xe r) (H_r03_statement (b.pr [0] [1] [2] r) ai) ?_
     rintro _ aC ⟨C,D,E,F,H,I,J,K,rfl,X⟩
     replace b:=b.cn [0] [1] X
     refine nM (jN b [[V m.e,V m.f,V m.n,T m.b,T m.j,V m.m,V m.g,Z C m.c D,T m.k,V m.i,Z E m.a F,Z H m.d I,Z J m.h K]] ([m]:List Gs) (rD r) r r (by decide) ⟨(jO.inn ⟨C,D,E,F,H,I,J,K,r,(b.dl 0 r),(b.dl 1 r),(b.dl 2 r),(b.dl 3 r)⟩),y⟩) ?_
     rintro _ aD ⟨aE,rfl,b⟩
     obtain ⟨aj,aa,a⟩:=bs a
     refine nM (kL b 2 9 r r Af jQ r (by decide) (by decide) (Nat.le_refl _) r r (b.zN 0 0 r r) aa) ?_
     rintro _ aF ⟨ak,al,am,rfl,b⟩
     exact s (mG r) (n (a2 n2 _ _ (Nat.lt_succ_self _) ⟨aj,ak,al,am,M.l,M.a,M.c,M.e,⟨r,r,r,y⟩,(b.ad [2,1] [5,9]),a⟩))
    replace h6:=nt h6
    exact jD (cb h6) (ug (a6 _ _ ⟨o,c,d,j,p,t,u,v,⟨r,r,y⟩,(b.ad [1,0] [1,2]),sm a⟩))
   rw [decide_eq_false h4]
   exact jL r (jL r (jL r (s (jZ r r) (n (jD r (ug (a6 _ _ ⟨o,c,d,j,p,t,u,v,⟨r,r,y⟩,b,sm a⟩)))))))
 clear b
 rintro f w ⟨o,c,d,j,p,t,u,v,hf,b,an⟩
 obtain ⟨aR,rfl⟩:=fV _ _ hf
 clear hf
 subst an
 replace B:=gi B
 replace B:=pi (mE B)
 refine q (g (s (xi r) (n (q ?_))))
 obtain ⟨ao,A,B⟩:=bs B
 refine nT (fun f w=>∃ (Q:Int),Has f [(0,Pt N),(6,Z c o d),(7,V Q)]∧Bx w0 w aQ G [O w0.heap.size c d 111 Gs j,.box N 102 #[Z x p z,V t,V u,V v]] [.l x z p,.els j o]∧Ld.go Q=ao) (fun aG a1=>?_) ?_
 ·unfold xE at A
  refine q (g (s (mp r) (s (xn r) (s (qV r) (s (BK r (b.bk 1 r) r) (s (kH r r) (n ?_)))))))
  rcases iv A with ⟨a4,A⟩|⟨a4,A⟩
  ·refine jJ (bt a4) (qc b [1] [0] [] (by kernel_rfl) ?_)
   replace b:=b.drew
   have Y:=(b.ad [1] [0])
   refine pF 0 r (mp r) Y (pF 1 r (xn r) Y (pF 2 r (yV r) Y (uF 3 r (fun hS=>Oy r (hS.bk 0 r) r) Y (pF 4 r (mp r) Y (pF 5 r (xn r) Y (pF 6 r (lZ r) Y (uF 7 r (fun hS=>l3 r (hS.bk 0 r) r) Y ?_)))))))
   obtain ⟨a0,W,A⟩:=bs A
   obtain ⟨aH,ab,W⟩:=kR W
   exact pF 8 r (kW Cu oZ r r ab (b.dl 0 r) W) Y (pF 9 r (Io r) Y (tU 10 r (fun _ hS=>jP F8 r r ((uK (ds:=[V a0.e,V a0.f,T a0.a,V a0.c]) (hS.dl 0 r) W (fun _ h=>h)) 1 _ r)) (sF Y) (pF 11 r (xi r) Y (hD (a1 _ _ ⟨a0.f,⟨r,r,r,y⟩,b,sm A⟩)))))
  exact jD (bf a4) (wk (a1 _ _ ⟨0,⟨r,r,r,y⟩,b,sm A⟩))
 clear b
 rintro f w ⟨Q,hf,b,ac⟩
 obtain ⟨aR,rfl⟩:=fV _ _ hf
 clear hf
 subst ac
 replace B:=gi B
 refine q (g (s (mp r) ?_))
 obtain ⟨ap,aq,B⟩:=bs B
 refine sc (ec vS r) (lT fu (b.pr [1] [0] [0] r) aq) ?_
 rintro _ aI ⟨rfl,X⟩
 replace b:=b.cn [1] [0] X
 refine n (q (g (s (nL r) (s (mi r) (s (mG r) (s (xi r) (n (kU ?_))))))))
 obtain rfl:=sm B
 exact qd r (lq r) (lq r) (mJ (mJ (⟨c,d,j,r,(b.ad [1,0] [2,0])⟩)))
theorem DW (fu:Nat)(r_r03_block:uy) (r_r03_statement:pY) (H_r03_block:xA r_r03_block) (H_r03_statement:uM r_r03_statement):uM (sO fu r_r03_block r_r03_statement):=by
 intro w0 cN x0 x1 ap a5 a6 R hP p
 unfold sO at p
 have a:=hP.bx
 clear hP
 generalize hG:lS _=G at a ⊢
 refine cf Try.func94 r ?_
 refine lM [(0,Pt ap),(1,V x1)] ⟨r,r,y⟩ fun cO=>?_
 refine q (g (sV a (jU jQ) fun w1 b1 a=>?_))
 refine n (q (qc a [1] [0] [] (by kernel_rfl) ?_))
 replace a:=a.drew
 have hs:=(a.arr [1] r)
 refine pF 0 r (mp r) hs (pF 1 r (xn r) hs (pF 2 r (yV r) hs (uF 3 r (fun hS=>Oy r (hS.bk 0 r) r) hs (pF 4 r (mp r) hs (pF 5 r (xn r) hs (pF 6 r (lZ r) hs (uF 7 r (fun hS=>l3 r (hS.bk 0 r) r) hs ?_)))))))
 obtain ⟨Q,ak,p⟩:=bs p
 obtain ⟨k2,aG,ak⟩:=kR ak
 refine pF 8 r (kW Cu oZ r r aG (a.dl 0 r) ak) hs (pF 9 r (Io r) hs (tU 10 r (fun _ hS=>jP F8 r r ((uK (ds:=[V Q.e,V Q.f,T Q.a,V Q.c]) (hS.dl 0 r) ak (fun _ h=>h)) 1 _ r)) (sF hs) (pF 11 r (Rl r) hs ?_)))
 refine hO 12 (oo r r (nD a (jU jQ)) ?_)
 rintro _ w3 ⟨b3,rfl,a⟩
 have hs:=(a.arr [2] r)
 refine ⟨(sF hs),?_⟩
 refine hO 13 (os r r (nU a 0 [V 0,V Q.f,V 0,T be,T be,V 0,V 0,sn,T be,V 0,sn,sn,sn] r jQ r r) fun w4 a=>?_)
 have hs:=(a.arr [2] r)
 refine ⟨(sF hs),?_⟩
 refine hD (q (g (s (mD r) (n (q ?_)))))
 obtain ⟨Y5,ah,p⟩:=bs p
 refine nT (fun f w=>∃ (al:BA) (am:Int),Has f [(0,Pt ap),(1,V x1),(4,Pt b1),(5,Pt b3),(6,T al)]∧Bx w0 w cN G [.box b3 111 #[V 0,V Q.f,V 0,T be,T be,V 0,V 0,sn,T be,V 0,sn,sn,sn],.box b1 111 #[V 0,V 0,V 0,T be,T be,V 0,V 0,sn,T be,V 0,sn,sn,sn],.box ap 102 #[Z a5 x0.l a6,V am,V x0.c,V x0.e]] [.l a5 a6 x0.l]∧Ld.go (al,am)=Y5) (fun J5 aH=>?_) ?_
 ·unfold sD at ah
  refine q (g (s (mp r) ?_))
  obtain ⟨bK,h6,ah⟩:=bs ah
  refine sc (ec Dm r) (q9 fu (a.pr [2] [0,1] [0] r) h6) ?_
  rintro _ w6 ⟨rfl,J⟩
  replace a:=a.cn [2] [0,1] J
  refine n ?_
  rcases iv ah with ⟨h7,ah⟩|⟨h7,ah⟩
  ·refine jJ (cb h7) (q (qc a [0] [1] [] (by kernel_rfl) ?_))
   replace a:=a.drew
   have hs:=(a.ad [0] [1])
   refine pF 0 r (mp r) hs (pF 1 r (xn r) hs (pF 2 r (yV r) hs (uF 3 r (fun hS=>Oy r (hS.bk 0 r) r) hs (pF 4 r (mp r) hs (pF 5 r (xn r) hs (pF 6 r (lZ r) hs (uF 7 r (fun hS=>l3 r (hS.bk 0 r) r) hs (pF 8 r (kW Cu oZ r r aG (a.dl 1 r) ak) hs (pF 9 r (Il r) hs (tU 10 r (fun _ hS=>jP uz r r ((uK (ds:=[V Q.e,V Q.f,T Q.a,V Q.c]) (hS.dl 0 r) ak (fun _ h=>h)) 2 _ r)) (sF hs) (pF 11 r (mD r) hs (hD (g ?_)))))))))))))
   refine s (mp r) (s (xn r) (s (lZ r) (s (l3 r (a.bk 0 r) r) (s (kJ r r) (s (xn r) (s (lZ r) (kZ (t_n a 0 [V (wr (x0.a+1))] r mP r r) fun w8 a=>?_)))))))
   refine n ?_
   exact aH _ _ ⟨Q.a,(wr (x0.a+1)),⟨r,r,r,r,r,y⟩,(a.ad [1,2,0] [1]),sm ah⟩
  replace h7:=nt h7
  refine jD (cb h7) (wk ?_)
  exact aH _ _ ⟨(⟨#[]⟩:BA),x0.a,⟨r,r,r,r,r,y⟩,(a.ad [1,2,0] [1]),sm ah⟩
 clear a
 rintro f w ⟨al,am,hf,a,aP⟩
 obtain ⟨cO,rfl⟩:=fV _ _ hf
 clear hf
 subst aP
 replace p:=gi p
 replace p:=pi p
 refine q (q (g (s (kY r) (n (nS (q (g (s (rJ r r) (s (ko r) (n ?_))))))))))
 rcases iv p with ⟨h9,p⟩|⟨h9,p⟩
 ·refine jJ (bt h9) (q (g (s (mp r) ?_)))
  obtain ⟨an,aR,aS,p⟩:=lX p
  refine sc (ec BN r) (qj fu (a.pr [2] [0,1] [0] r) aS) ?_
  rintro _ bS ⟨rfl,J⟩
  replace a:=a.cn [2] [0,1] J
  refine s (xM r) (kZ (t_n a 1 [V 1] r mP r r) fun bT a=>?_)
  refine s (zB r) (kZ (t_n a 1 [T an] r nX r r) fun bU a=>?_)
  refine n (q (g (s (mp r) ?_)))
  obtain ⟨aT,aU,p⟩:=bs p
  refine sc (ec vS r) (lT fu (a.pr [0] [1,2] [0] r) aU) ?_
  rintro _ bV ⟨rfl,J⟩
  replace a:=a.cn [0] [1,2] J
  refine n (q (g (s (mp r) ?_)))
  replace a:=a.kr (d:=.l none 0 ([]:List Ge)) nZ
  replace a:=a.kr (d:=.l none 0 ([]:List Ge)) nZ
  replace a:=a.kr (d:=.l none 0 ([]:List Gs)) nZ
  replace a:=a.kr (d:=.l none 0 ([]:List Gs)) nZ
  obtain ⟨aV,c,aW,p⟩:=lX p
  refine sc (ec Vp r) (JA fu (a.pr [0,1] [2] [4,3,2,1,0] r) aW) ?_
  rintro _ bW ⟨rfl,J⟩
  replace a:=a.cn [0,1] [2] J
  refine n (g (s (mp r) ?_))
  obtain ⟨aX,aY,p⟩:=bs p
  refine sc (ec vS r) (lT fu (a.pr [0] [1,2] [0] r) aY) ?_
  rintro _ bX ⟨rfl,J⟩
  replace a:=a.cn [0] [1,2] J
  refine n (q (g (s (ng [V c.e,V c.f,V c.n,T c.b,T c.j,V c.m,V c.g,Z none c.c 0,T c.k,V c.i,Z none c.a 0,Z none c.d 0,Z none c.h 0] lV jQ r (a.bk 1 r)) (kZ (nU a 2 [V c.e,V c.f,V c.n,T c.b,T c.j,V c.m,V c.g,Z none c.c 0,T c.k,V c.i,Z none c.a 0,Z none c.d 0,Z none c.h 0] r jQ r r) fun bY a=>?_))))
  refine n (kU ?_)
  obtain rfl:=sm p
  refine jB r (tV r lV r jQ r (a.bk 2 r)) ?_
  exact mJ (⟨none,0,none,0,none,0,none,0,r,(a.ad [0] [2,3,4,5,0])⟩)
 refine jD (bf h9) (q (g (s (rJ r r) (s (ko r) (n ?_)))))
 rcases iv p with ⟨ar,p⟩|⟨ar,p⟩
 ·refine jJ (bt ar) (q (g (s (mp r) ?_)))
  obtain ⟨v,aZ,b0,p⟩:=lX p
  refine sc (ec Ay r) (rA fu (a.pr [2] [0,1] [0] r) b0) ?_
  rintro _ bZ ⟨ab,ac,rfl,J⟩
  replace a:=a.cn [2] [0,1] J
  refine nM (jN a [[V v.e,V v.c,V v.g,T v.b,T v.d,Z ab v.a ac]] ([v]:List Ge) (kS r) r r (by decide) ⟨(jA.inn ⟨ab,ac,r,(a.dl 0 r)⟩),y⟩) ?_
  rintro _ c0 ⟨a1,rfl,a⟩
  refine s (xM r) (kZ (t_n a 2 [V 4] r mP r r) fun c1 a=>?_)
  refine s (uT r) (kZ (t_n a 2 [.slice (ad a1) ([v]:List Ge).length 1] r su r r) fun c2 a=>?_)
  refine n (q (g (s (mp r) (s (mi r) (s (kJ r r) ?_)))))
  obtain ⟨B,b2,a7,b4,p⟩:=vB p
  refine sc (ec Ib r) (H_r03_block (a.pr [1] [0,2,3] [2] r) b4) ?_
  rintro _ c3 ⟨t,u,aB,rfl,J⟩
  have ag:=a.qW.size
  replace a:=a.cn [1] [0,2,3] J
  replace a:=a.rb 0 w0.heap.size r ag
  refine s sM (s (kg r r) (s (kg r r) (s (xC r) (kZ (t_n a 3 [Z t B u] r za r r) fun c4 a=>?_))))
  refine n (q (g (s (mp r) (s (xn r) (s (qV r) (s (BK r (a.bk 1 r) r) (s (kH r r) (s (kQ r) ?_))))))))
  rcases iv p with ⟨au,p⟩|⟨au,p⟩
  ·rw [decide_eq_true au]
   refine ku r (s (mp r) ?_)
   obtain ⟨b5,b6,p⟩:=bs p
   refine ku r ?_
   refine sc (ec vo r) (mY fu (a.pr [1] [0,2,3,4] [1] r) b6) ?_
   rintro _ c5 ⟨rfl,J⟩
   replace a:=a.cn [1] [0,2,3,4] J
   refine s (kG r r) (n ?_)
   rcases iv p with ⟨ao,p⟩|⟨ao,p⟩
   ·refine jJ (cb ao) (q (g (s (mp r) (s (xn r) (s (lZ r) (s (l3 r (a.bk 0 r) r) (s (kJ r r) (s (xn r) (s (lZ r) (kZ (t_n a 0 [V (wr (a7.a+1))] r mP r r) fun c6 a=>?_))))))))))
    refine n (g (s (mp r) (s (mi r) (s (kJ r r) ?_))))
    obtain ⟨a8,b7,b8,b9,p⟩:=vB p
    refine sc (ec Ib r) (H_r03_block (a.pr [0] [1,2,3,4] [2] r) b9) ?_
    rintro _ c7 ⟨C,D,aC,rfl,J⟩
    have ag:=a.qW.size
    replace a:=a.cn [0] [1,2,3,4] J
    replace a:=a.rb 0 w0.heap.size r ag
    refine s sM (s (kg r r) (s (kg r r) (s (wh r) (kZ (t_n a 4 [Z C a8 D] r za r r) fun c8 a=>?_))))
    refine n (q (g (s (ng [V 4,V Q.f,V 0,T be,T be,V 0,V 0,sn,T be,V 0,.slice (ad a1) ([v]:List Ge).length 1,Z t B u,Z C a8 D] lV jQ r (a.bk 4 r)) (kZ (nU a 5 [V 4,V Q.f,V 0,T be,T be,V 0,V 0,sn,T be,V 0,.slice (ad a1) ([v]:List Ge).length 1,Z t B u,Z C a8 D] r jQ r r) fun c9 a=>?_))))
    refine n (kU ?_)
    replace a:=a.fz 3 5 r r
    replace a:=a.fz 2 4 r r
    replace a:=a.fz 0 2 r r
    replace a:=a.kr (d:=.l none 0 ([]:List Ge)) nZ
    obtain rfl:=sm p
    refine jB r (tV r lV r jQ r (a.bk 2 r)) ?_
    exact mJ (⟨none,0,(ad a1),1,t,u,C,D,r,(a.ad [0] [0,3,2,1,4])⟩)
   replace ao:=nt ao
   refine jD (cb ao) (wk (q (g (s (ng [V 4,V Q.f,V 0,T be,T be,V 0,V 0,sn,T be,V 0,.slice (ad a1) ([v]:List Ge).length 1,Z t B u,sn] lV jQ r (a.bk 3 r)) (kZ (nU a 4 [V 4,V Q.f,V 0,T be,T be,V 0,V 0,sn,T be,V 0,.slice (ad a1) ([v]:List Ge).length 1,Z t B u,sn] r jQ r r) fun cc a=>?_)))))
   refine n (kU ?_)
   replace a:=a.fz 2 3 r r
   replace a:=a.fz 1 2 r r
   replace a:=a.kr (d:=.l none 0 ([]:List Ge)) nZ
   replace a:=a.kr (d:=.l none 0 ([]:List Gs)) nZ
   obtain rfl:=sm p
   refine jB r (tV r lV r jQ r (a.bk 2 r)) ?_
   exact mJ (⟨none,0,(ad a1),1,t,u,none,0,r,(a.ad [0] [1,3,2,0,5])⟩)
  rw [decide_eq_false au]
  refine jL r (jL r (s (jZ r r) (n (jD r (wk (q (g (s (ng [V 4,V Q.f,V 0,T be,T be,V 0,V 0,sn,T be,V 0,.slice (ad a1) ([v]:List Ge).length 1,Z t B u,sn] lV jQ r (a.bk 3 r)) (kZ (nU a 4 [V 4,V Q.f,V 0,T be,T be,V 0,V 0,sn,T be,V 0,.slice (ad a1) ([v]:List Ge).length 1,Z t B u,sn] r jQ r r) fun cd a=>?_)))))))))
  refine n (kU ?_)
  replace a:=a.fz 2 2 r r
  replace a:=a.fz 0 1 r r
  replace a:=a.kr (d:=.l none 0 ([]:List Ge)) nZ
  replace a:=a.kr (d:=.l none 0 ([]:List Gs)) nZ
  obtain rfl:=sm p
  refine jB r (tV r lV r jQ r (a.bk 2 r)) ?_
  exact mJ (⟨none,0,(ad a1),1,t,u,none,0,r,(a.ad [0] [1,3,2,0,4])⟩)
 refine jD (bf ar) (q (g (s (rJ r r) (s (ko r) (n ?_)))))
 rcases iv p with ⟨av,p⟩|⟨av,p⟩
 ·refine jJ (bt av) (q (g (s (mp r) ?_)))
  obtain ⟨A,ba,bb,p⟩:=lX p
  refine sc (ec Ay r) (rA fu (a.pr [2] [0,1] [0] r) bb) ?_
  rintro _ ce ⟨ae,af,rfl,J⟩
  replace a:=a.cn [2] [0,1] J
  refine nM (jN a [[V A.e,V A.c,V A.g,T A.b,T A.d,Z ae A.a af]] ([A]:List Ge) (kS r) r r (by decide) ⟨(jA.inn ⟨ae,af,r,(a.dl 0 r)⟩),y⟩) ?_
  rintro _ cg ⟨aj,rfl,a⟩
  refine s (xM r) (kZ (t_n a 2 [V 5] r mP r r) fun ch a=>?_)
  refine s (uT r) (kZ (t_n a 2 [.slice (ad aj) ([A]:List Ge).length 1] r su r r) fun ci a=>?_)
  refine n (g (s (mp r) (s (mi r) (s (kJ r r) ?_))))
  obtain ⟨a9,bc,bd,bg,p⟩:=vB p
  refine sc (ec Ib r) (H_r03_block (a.pr [1] [0,2,3] [2] r) bg) ?_
  rintro _ cj ⟨E,F,aD,rfl,J⟩
  have ag:=a.qW.size
  replace a:=a.cn [1] [0,2,3] J
  replace a:=a.rb 0 w0.heap.size r ag
  refine s sM (s (kg r r) (s (kg r r) (s (xC r) (kZ (t_n a 3 [Z E a9 F] r za r r) fun ck a=>?_))))
  refine n (q (g (s (ng [V 5,V Q.f,V 0,T be,T be,V 0,V 0,sn,T be,V 0,.slice (ad aj) ([A]:List Ge).length 1,Z E a9 F,sn] lV jQ r (a.bk 3 r)) (kZ (nU a 4 [V 5,V Q.f,V 0,T be,T be,V 0,V 0,sn,T be,V 0,.slice (ad aj) ([A]:List Ge).length 1,Z E a9 F,sn] r jQ r r) fun cm a=>?_))))
  refine n (kU ?_)
  replace a:=a.fz 2 2 r r
  replace a:=a.fz 0 1 r r
  replace a:=a.kr (d:=.l none 0 ([]:List Ge)) nZ
  replace a:=a.kr (d:=.l none 0 ([]:List Gs)) nZ
  obtain rfl:=sm p
  refine jB r (tV r lV r jQ r (a.bk 2 r)) ?_
  exact mJ (⟨none,0,(ad aj),1,E,F,none,0,r,(a.ad [0] [1,3,2,0,4])⟩)
 refine jD (bf av) (q (g (s (rJ r r) (s (ko r) (n ?_)))))
 rcases iv p with ⟨aw,p⟩|⟨aw,p⟩
 ·refine jJ (bt aw) (q (g (s (xM r) (kZ (t_n a 0 [V 8] r mP r r) fun cn a=>?_))))
  refine n (q (g (s (mp r) (s (mi r) (s (kJ r r) ?_)))))
  obtain ⟨a2,bh,bi,bj,p⟩:=vB p
  refine sc (ec Ib r) (H_r03_block (a.pr [2] [0,1] [0] r) bj) ?_
  rintro _ co ⟨x,z,aE,rfl,J⟩
  have ag:=a.qW.size
  replace a:=a.cn [2] [0,1] J
  replace a:=a.rb 0 w0.heap.size r ag
  refine s sM (s (kg r r) (s (kg r r) (s (xC r) (kZ (t_n a 2 [Z x a2 z] r za r r) fun QN a=>?_))))
  refine n (q (g (s (mp r) ?_)))
  obtain ⟨bl,bm,p⟩:=bs p
  refine sc (ec vS r) (lT fu (a.pr [1] [0,2,3] [1] r) bm) ?_
  rintro _ cp ⟨rfl,J⟩
  replace a:=a.cn [1] [0,2,3] J
  refine n (q (g (s (mp r) ?_)))
  obtain ⟨a4,bn,bo,p⟩:=lX p
  refine sc (ec BN r) (qj fu (a.pr [0] [1,2,3] [0] r) bo) ?_
  rintro _ cq ⟨rfl,J⟩
  replace a:=a.cn [0] [1,2,3] J
  refine s (zB r) (kZ (t_n a 2 [T a4] r nX r r) fun cr a=>?_)
  refine n (g (s (mp r) (s (mi r) (s (kJ r r) ?_))))
  obtain ⟨aa,bp,bq,br,p⟩:=vB p
  refine sc (ec Ib r) (H_r03_block (a.pr [0] [1,2,3] [0] r) br) ?_
  rintro _ ct ⟨H,I,aF,rfl,J⟩
  have ag:=a.qW.size
  replace a:=a.cn [0] [1,2,3] J
  replace a:=a.rb 0 w0.heap.size r ag
  refine s sM (s (kg r r) (s (kg r r) (s (wh r) (kZ (t_n a 3 [Z H aa I] r za r r) fun cu a=>?_))))
  refine n (q (g (s (ng [V 8,V Q.f,V 0,T a4,T be,V 0,V 0,sn,T be,V 0,sn,Z x a2 z,Z H aa I] lV jQ r (a.bk 3 r)) (kZ (nU a 4 [V 8,V Q.f,V 0,T a4,T be,V 0,V 0,sn,T be,V 0,sn,Z x a2 z,Z H aa I] r jQ r r) fun cv a=>?_))))
  refine n (kU ?_)
  replace a:=a.fz 2 4 r r
  replace a:=a.fz 0 1 r r
  replace a:=a.kr (d:=.l none 0 ([]:List Ge)) nZ
  replace a:=a.kr (d:=.l none 0 ([]:List Ge)) nZ
  obtain rfl:=sm p
  refine jB r (tV r lV r jQ r (a.bk 2 r)) ?_
  exact mJ (⟨none,0,none,0,x,z,H,I,r,(a.ad [0] [1,0,3,2,4])⟩)
 refine jD (bf aw) (q (g (s (rJ r r) (s (ko r) (n ?_)))))
 rcases iv p with ⟨ax,p⟩|⟨ax,p⟩
 ·refine jJ (bt ax) (q (g (s (xM r) (kZ (t_n a 0 [V 6] r mP r r) fun cw a=>?_))))
  refine n (q (g (s (mp r) ?_)))
  replace a:=a.kr (d:=.l none 0 ([]:List Ge)) nZ
  replace a:=a.kr (d:=.l none 0 ([]:List Ge)) nZ
  replace a:=a.kr (d:=.l none 0 ([]:List Gs)) nZ
  replace a:=a.kr (d:=.l none 0 ([]:List Gs)) nZ
  obtain ⟨bu,j,bv,p⟩:=lX p
  refine sc (ec EM r) (wW fu (a.pr [2,0] [1] [4,3,2,1,0] r) bv) ?_
  rintro _ cx ⟨S,U,rfl,J⟩
  replace a:=a.cn [2,0] [1] J
  refine n (g (s (mp r) ?_))
  obtain ⟨bw,bz,p⟩:=bs p
  refine sc (ec vS r) (lT fu (a.pr [0] [1,2] [0] r) bz) ?_
  rintro _ cy ⟨rfl,J⟩
  replace a:=a.cn [0] [1,2] J
  refine n (q (g (s (ng [V j.e,V j.f,V j.n,T j.b,T j.j,V j.m,V j.g,Z none j.c 0,T j.k,V j.i,Z S j.a U,Z none j.d 0,Z none j.h 0] lV jQ r (a.bk 1 r)) (kZ (nU a 2 [V j.e,V j.f,V j.n,T j.b,T j.j,V j.m,V j.g,Z none j.c 0,T j.k,V j.i,Z S j.a U,Z none j.d 0,Z none j.h 0] r jQ r r) fun cz a=>?_))))
  refine n (kU ?_)
  obtain rfl:=sm p
  refine jB r (tV r lV r jQ r (a.bk 2 r)) ?_
  exact mJ (⟨none,0,S,U,none,0,none,0,r,(a.ad [0] [2,3,4,5,0])⟩)
 refine jD (bf ax) (q (g (s (rJ r r) (s (ko r) (n ?_)))))
 rcases iv p with ⟨ay,p⟩|⟨ay,p⟩
 ·refine jJ (bt ay) (q (g (s (xM r) (kZ (t_n a 0 [V 7] r mP r r) fun cA a=>?_))))
  refine n (q (g (s (mp r) ?_)))
  replace a:=a.kr (d:=.l none 0 ([]:List Ge)) nZ
  replace a:=a.kr (d:=.l none 0 ([]:List Ge)) nZ
  replace a:=a.kr (d:=.l none 0 ([]:List Gs)) nZ
  replace a:=a.kr (d:=.l none 0 ([]:List Gs)) nZ
  obtain ⟨bA,m,bB,p⟩:=lX p
  refine sc (ec EM r) (wW fu (a.pr [2,0] [1] [4,3,2,1,0] r) bB) ?_
  rintro _ cB ⟨W,X,rfl,J⟩
  replace a:=a.cn [2,0] [1] J
  refine n (g (s (mp r) ?_))
  obtain ⟨bC,bD,p⟩:=bs p
  refine sc (ec vS r) (lT fu (a.pr [0] [1,2] [0] r) bD) ?_
  rintro _ cC ⟨rfl,J⟩
  replace a:=a.cn [0] [1,2] J
  refine n (q (g (s (ng [V m.e,V m.f,V m.n,T m.b,T m.j,V m.m,V m.g,Z none m.c 0,T m.k,V m.i,Z W m.a X,Z none m.d 0,Z none m.h 0] lV jQ r (a.bk 1 r)) (kZ (nU a 2 [V m.e,V m.f,V m.n,T m.b,T m.j,V m.m,V m.g,Z none m.c 0,T m.k,V m.i,Z W m.a X,Z none m.d 0,Z none m.h 0] r jQ r r) fun cD a=>?_))))
  refine n (kU ?_)
  obtain rfl:=sm p
  refine jB r (tV r lV r jQ r (a.bk 2 r)) ?_
  exact mJ (⟨none,0,W,X,none,0,none,0,r,(a.ad [0] [2,3,4,5,0])⟩)
 refine jD (bf ay) (q (g (s (rJ r r) (s (ko r) (n ?_)))))
 rcases iv p with ⟨az,p⟩|⟨az,p⟩
 ·refine jJ (bt az) (q (g (s (xM r) (kZ (t_n a 0 [V 9] r mP r r) fun cE a=>?_))))
  refine n (q (g (s (mp r) ?_)))
  replace a:=a.kr (d:=.l none 0 ([]:List Ge)) nZ
  replace a:=a.kr (d:=.l none 0 ([]:List Ge)) nZ
  replace a:=a.kr (d:=.l none 0 ([]:List Gs)) nZ
  replace a:=a.kr (d:=.l none 0 ([]:List Gs)) nZ
  obtain ⟨bE,o,bF,p⟩:=lX p
  refine sc (ec EM r) (wW fu (a.pr [2,0] [1] [4,3,2,1,0] r) bF) ?_
  rintro _ cF ⟨Y,a0,rfl,J⟩
  replace a:=a.cn [2,0] [1] J
  refine n (g (s (mp r) ?_))
  obtain ⟨aM,aJ,p⟩:=bs p
  refine sc (ec vS r) (lT fu (a.pr [0] [1,2] [0] r) aJ) ?_
  rintro _ bL ⟨rfl,J⟩
  replace a:=a.cn [0] [1,2] J
  refine n (q (g (s (ng [V o.e,V o.f,V o.n,T o.b,T o.j,V o.m,V o.g,Z none o.c 0,T o.k,V o.i,Z Y o.a a0,Z none o.d 0,Z none o.h 0] lV jQ r (a.bk 1 r)) (kZ (nU a 2 [V o.e,V o.f,V o.n,T o.b,T o.j,V o.m,V o.g,Z none o.c 0,T o.k,V o.i,Z Y o.a a0,Z none o.d 0,Z none o.h 0] r jQ r r) fun bM a=>?_))))
  refine n (kU ?_)
  obtain rfl:=sm p
  refine jB r (tV r lV r jQ r (a.bk 2 r)) ?_
  exact mJ (⟨none,0,Y,a0,none,0,none,0,r,(a.ad [0] [2,3,4,5,0])⟩)
 refine jD (bf az) (q (g (s (mp r) ?_)))
 replace a:=a.kr (d:=.l none 0 ([]:List Ge)) nZ
 replace a:=a.kr (d:=.l none 0 ([]:List Ge)) nZ
 replace a:=a.kr (d:=.l none 0 ([]:List Gs)) nZ
 replace a:=a.kr (d:=.l none 0 ([]:List Gs)) nZ
 obtain ⟨aN,b,aK,p⟩:=lX p
 refine sc (ec V8 r) (GN fu (a.pr [2,0] [1] [4,3,2,1,0] r) aK) ?_
 rintro _ bN ⟨K,L,M,N,rfl,J⟩
 replace a:=a.cn [2,0] [1] J
 refine n (g (s (mp r) ?_))
 obtain ⟨aO,aL,p⟩:=bs p
 refine sc (ec vS r) (lT fu (a.pr [0] [1,2] [0] r) aL) ?_
 rintro _ bO ⟨rfl,J⟩
 replace a:=a.cn [0] [1,2] J
 refine n (q (g (s (ng [V b.e,V b.f,V b.n,T b.b,T b.j,V b.m,V b.g,Z K b.c L,T b.k,V b.i,Z M b.a N,Z none b.d 0,Z none b.h 0] lV jQ r (a.bk 1 r)) (kZ (nU a 2 [V b.e,V b.f,V b.n,T b.b,T b.j,V b.m,V b.g,Z K b.c L,T b.k,V b.i,Z M b.a N,Z none b.d 0,Z none b.h 0] r jQ r r) fun bP a=>?_))))
 refine n (kU ?_)
 obtain rfl:=sm p
 refine jB r (tV r lV r jQ r (a.bk 2 r)) ?_
 exact mJ (⟨K,L,M,N,none,0,none,0,r,(a.ad [0] [2,3,4,5,0])⟩)
theorem GI (fu:Nat):xA (vT fu)∧uM (vG fu):=by
 induction fu with
 | zero=>exact ⟨by intro a b;intros;exact nn (by assumption),by intro a b;intros;exact nn (by assumption)⟩
 | succ fu ih=>exact ⟨I4 fu (vT fu) (vG fu) ih.1 ih.2,DW fu (vT fu) (vG fu) ih.1 ih.2⟩
theorem Jl (fu:Nat):xA (vT fu):=(GI fu).1
def FR (m:gP→Option (jW × gP)):Prop:=∀ {p:World} {t:Nat→Prop} {j:gP} {k:Nat} {a:Option Addr} {b:Nat} {R:jW × gP},Pre p t [.box k 102 #[Z a j.l b,V j.a,V j.c,V j.e]] [.l a b j.l]→m j=some R→
 Calls Try.prog 45 #[Pt k] p (qQ fun v w=>jy R fun o c=>∃ (d:OA)(f:Nat)(h:OA)(i:Nat),v=.agg #[Z d o.a f,Z h o.b i]∧Bx p w t (lS [.box k 102 #[Z a j.l b,V j.a,V j.c,V j.e]]) [.box k 102 #[Z a c.l b,V c.a,V c.c,V c.e]] [.l d f o.a,.l h i o.b,.l a b c.l])
def qp (fu:Nat):Nat→(List Gr)→(List jY)→Int→Int→Int→Option (Ld (List Gr × List jY × Int × Int × Int) (jW × gP))
 | 0,_,_,_,_,_=>none
 | u+1,h,c,d,f,b=>
 if b=0 then
  (mq fu (⟨c,d,f,b⟩:gP) 0 (⟨#[114,101,99,111,114,100]⟩:BA)).bind fun m=>
  if m=true then
   (oh fu (⟨c,(wr (d+1)),f,b⟩:gP)).bind fun v=>
   jy v fun o p=>
   (lI fu p (⟨#[123]⟩:BA)).bind fun i=>
   (vV fu i).bind fun v=>
   jy v fun j k=>
   (lI fu k (⟨#[125]⟩:BA)).bind fun a=>
   (app h ([(⟨o,j⟩:Gr)]:List Gr)).bind fun t=>
   qp fu u t a.l a.a a.c a.e
  else
   some (.go (h,c,d,f,b))
 else
  some (.go (h,c,d,f,b))
def uN (fu:Nat)(a:gP):Option (Ld (List BA × List jY × Int × Int × Int) (jW × gP)):=
 if a.e=0 then
  (mq fu a 0 (⟨#[41]⟩:BA)).bind fun c=>
  if (!c)=true then
   (vV fu a).bind fun f=>
   jy f fun d b=>
   some (.go (d,b.l,b.a,b.c,b.e))
  else
   some (.go (([]:List BA),a.l,a.a,a.c,a.e))
 else
  some (.go (([]:List BA),a.l,a.a,a.c,a.e))
def qw (fu:Nat):Nat→(List Gn)→(List jY)→Int→Int→Int→Option (Ld (List Gn × List jY × Int × Int × Int) (jW × gP))
 | 0,_,_,_,_,_=>none
 | B+1,h,a,b,d,c=>
 if c=0 then
  (mq fu (⟨a,b,d,c⟩:gP) 0 (⟨#[102,117,110,99]⟩:BA)).bind fun i=>
  if i=true then
   (ix a b).bind fun C=>
   (oh fu (⟨a,(wr (b+1)),d,c⟩:gP)).bind fun F=>
   jy F fun j k=>
   (lI fu k (⟨#[40]⟩:BA)).bind fun m=>
   (uN fu m).bind fun F=>F.el (fun F=>
   jy F fun p F=>jy F fun t F=>jy F fun u F=>jy F fun v w=>
   (lI fu (⟨t,u,v,w⟩:gP) (⟨#[41]⟩:BA)).bind fun x=>
   (vT fu x 1).bind fun F=>
   jy F fun z F=>jy F fun A f=>
   (app z ([(⟨10,A,0,be,be,0,0,([]:List Ge),be,0,([]:List Ge),([]:List Gs),([]:List Gs)⟩:Gs)]:List Gs)).bind fun D=>
   (app h ([(⟨j,C.f,p,D⟩:Gn)]:List Gn)).bind fun E=>
   qw fu B E f.l f.a f.c f.e
   ) (fun o=>some (.out o))
  else
   some (.go (h,a,b,d,c))
 else
  some (.go (h,a,b,d,c))
def u6 (fu:Nat)(u:gP):Option (jW × gP):=
 (qp fu fu ([]:List Gr) u.l u.a u.c u.e).bind fun v=>v.el (fun v=>
 jy v fun h v=>jy v fun k v=>jy v fun m v=>jy v fun p t=>
 (qw fu fu ([]:List Gn) k m p t).bind fun v=>v.el (fun v=>
 jy v fun f v=>jy v fun b v=>jy v fun c v=>jy v fun d a=>
 if a=0 then
  (oO fu (⟨b,c,d,a⟩:gP) 0 0).bind fun i=>
  if (!i)=true then
   (oN fu (⟨b,c,d,a⟩:gP) 7).bind fun j=>
   some ((⟨h,f⟩:jW),j)
  else
   some ((⟨h,f⟩:jW),(⟨b,c,d,a⟩:gP))
 else
  some ((⟨h,f⟩:jW),(⟨b,c,d,a⟩:gP))
 ) (fun o=>some o)
 ) (fun o=>some o)
theorem FW (fu:Nat):FR (u6 fu):=by
 intro w0 cw x0 a2 x z R hP L
 unfold u6 at L
 have a:=hP.bx
 clear hP
 generalize hG:lS _=G at a ⊢
 refine cf Try.func45 r ?_
 refine lM [(0,Pt a2)] ⟨r,y⟩ fun cx=>?_
 refine q (g (sV a (jU sS) fun w1 b1 a=>?_))
 refine n (q (g (sV a (jU sS) fun w2 b2 a=>?_)))
 refine n (q ?_)
 replace a:=a.Bv Gr 127
 obtain ⟨Y3,u,L⟩:=bs L
 refine nT (fun f w=>∃ (p:List Gr) (j:OA)(m:Nat)(t:LV)(F:List jY) (M:Int)(N:Int)(Q:Int),Has f [(0,Pt a2),(2,Pt b1),(3,Pt b2)]∧Bx w0 w cw G [O w0.heap.size j m 127 Gr t,.box b2 26 #[Z j p m,sn],.box b1 26 #[sn,sn],.box a2 102 #[Z x F z,V M,V N,V Q]] [.l x z F,.els t p]∧Ld.go (p,F,M,N,Q)=Y3) (fun J3 aM=>?_) ?_
 ·refine nS (kE (fun cy f w=>∃ (p:List Gr) (j:OA)(m:Nat)(t:LV)(F:List jY) (M:Int)(N:Int)(Q:Int),Has f [(0,Pt a2),(2,Pt b1),(3,Pt b2)]∧Bx w0 w cw G [O w0.heap.size j m 127 Gr t,.box b2 26 #[Z j p m,sn],.box b1 26 #[sn,sn],.box a2 102 #[Z x F z,V M,V N,V Q]] [.l x z F,.els t p]∧qp fu cy p F M N Q=some Y3) fu ⟨([]:List Gr),none,0,[],x0.l,x0.a,x0.c,x0.e,⟨r,r,r,y⟩,(a.dp [1,0]),u⟩ ?_)
  clear a u
  rintro n3 f w ⟨p,j,m,t,F,M,N,Q,hf,a,u⟩ K3 aZ
  obtain ⟨cx,rfl⟩:=fV _ _ hf
  clear hf
  cases n3 with
  | zero=>exact nn u
  | succ n3=>
   rw [qp] at u
   refine q (q (g (s (mp r) (s (xn r) (s (qV r) (s (BK r (a.bk 3 r) r) (s (kH r r) (s (kQ r) ?_))))))))
   rcases iv u with ⟨h5,u⟩|⟨h5,u⟩
   ·rw [decide_eq_true h5]
    refine ku r (s (mp r) ?_)
    obtain ⟨bB,h6,u⟩:=bs u
    refine ku r ?_
    refine sc (ec vo r) (mY fu (a.pr [3] [0,1,2] [0] r) h6) ?_
    rintro _ w6 ⟨rfl,X⟩
    replace a:=a.cn [3] [0,1,2] X
    refine s (kG r r) (n ?_)
    rcases iv u with ⟨h7,u⟩|⟨h7,u⟩
    ·refine jJ (cb h7) (wk (nS (q (g (s (mp r) (s (xn r) (s (lZ r) (s (l3 r (a.bk 0 r) r) (s (kJ r r) (s (xn r) (s (lZ r) (kZ (t_n a 0 [V (wr (M+1))] r mP r r) fun w8 a=>?_))))))))))))
     refine n (q (g (s (mp r) ?_)))
     obtain ⟨a4,bC,h9,u⟩:=lX u
     refine sc (ec BN r) (qj fu (a.pr [0] [1,2,3] [1] r) h9) ?_
     rintro _ w9 ⟨rfl,X⟩
     replace a:=a.cn [0] [1,2,3] X
     refine s (Rm r) (sV a (jU wR) fun bF bG a=>?_)
     refine kZ (nU a 0 [T a4,sn] r wR r r) fun bH a=>?_
     refine n (q (g (s (mp r) ?_)))
     obtain ⟨b3,b4,u⟩:=bs u
     refine sc (ec vS r) (lT fu (a.pr [1] [0,2,3,4] [0] r) b4) ?_
     rintro _ bI ⟨rfl,X⟩
     replace a:=a.cn [1] [0,2,3,4] X
     refine n (q (g (s (mp r) ?_)))
     obtain ⟨a3,b5,b6,u⟩:=lX u
     refine sc (ec TS r) (CW fu (a.pr [0] [1,2,3,4] [0] r) b6) ?_
     rintro _ bJ ⟨H,I,aI,rfl,X⟩
     have aj:=a.qW.size
     replace a:=a.cn [0] [1,2,3,4] X
     replace a:=a.rb 0 w0.heap.size r aj
     refine s (Bt r) (kZ (t_n a 2 [Z H a3 I] r nV r r) fun bK a=>?_)
     refine n (q (g (s (mp r) ?_)))
     obtain ⟨a5,b7,u⟩:=bs u
     refine sc (ec vS r) (lT fu (a.pr [1] [0,2,3,4,5] [1] r) b7) ?_
     rintro _ bL ⟨rfl,X⟩
     replace a:=a.cn [1] [0,2,3,4,5] X
     refine n (g (s (Dk r) (s (Ta r (a.bk 4 r) r) (s (ng [T a4,Z H a3 I] MS wR r (a.bk 2 r)) ?_))))
     replace a:=a.fz 1 1 r r
     refine nM (jN a [[T a4,Z H a3 I]] ([(⟨a4,a3⟩:Gr)]:List Gr) (JI r) r r (by decide) ⟨(nk.inn ⟨H,I,r,(a.dl 0 r)⟩),y⟩) ?_
     rintro _ bM ⟨bN,rfl,a⟩
     obtain ⟨ay,aO,u⟩:=bs u
     refine nM (kL a 3 8 r r GY wR r (by decide) (by decide) (Nat.le_refl _) r r (a.zN 0 0 r r) aO) ?_
     rintro _ bO ⟨az,aA,b8,rfl,a⟩
     refine s (Dk r) (kZ (t_n a 4 [Z az ay aA] r Vk r r) fun bP a=>?_)
     refine n ?_
     exact aZ n3 _ _ (Nat.lt_succ_self _) ⟨ay,az,aA,b8,a5.l,a5.a,a5.c,a5.e,⟨r,r,r,y⟩,(a.ad [3,4,5,1] [2,8]),u⟩
    replace h7:=nt h7
    refine jD (cb h7) (ug ?_)
    exact aM _ _ ⟨p,j,m,t,F,M,N,Q,⟨r,r,r,y⟩,(a.ad [1,2,3,0] [1,2]),sm u⟩
   rw [decide_eq_false h5]
   refine jL r (jL r (s (jZ r r) (n (jD r (ug ?_)))))
   exact aM _ _ ⟨p,j,m,t,F,M,N,Q,⟨r,r,r,y⟩,a,sm u⟩
 clear a
 rintro f w ⟨p,j,m,t,F,M,N,Q,hf,a,b9⟩
 obtain ⟨cx,rfl⟩:=fV _ _ hf
 clear hf
 subst b9
 replace L:=gi L
 replace L:=pi (mE L)
 refine q ?_
 replace a:=a.Bv Gn 82
 obtain ⟨aP,b,L⟩:=bs L
 refine nT (fun f w=>∃ (o:List Gn) (c:OA)(d:Nat)(v:LV)(A:List jY) (C:Int)(D:Int)(E:Int),Has f [(0,Pt a2),(2,Pt b1),(3,Pt b2)]∧Bx w0 w cw G [O w0.heap.size c d 82 Gn v,O w0.heap.size j m 127 Gr t,.box b2 26 #[Z j p m,Z c o d],.box b1 26 #[sn,sn],.box a2 102 #[Z x A z,V C,V D,V E]] [.l x z A,.els v o,.els t p]∧Ld.go (o,A,C,D,E)=aP) (fun bQ ax=>?_) ?_
 ·refine nS (kE (fun cy f w=>∃ (o:List Gn) (c:OA)(d:Nat)(v:LV)(A:List jY) (C:Int)(D:Int)(E:Int),Has f [(0,Pt a2),(2,Pt b1),(3,Pt b2)]∧Bx w0 w cw G [O w0.heap.size c d 82 Gn v,O w0.heap.size j m 127 Gr t,.box b2 26 #[Z j p m,Z c o d],.box b1 26 #[sn,sn],.box a2 102 #[Z x A z,V C,V D,V E]] [.l x z A,.els v o,.els t p]∧qw fu cy o A C D E=some aP) fu ⟨([]:List Gn),none,0,[],F,M,N,Q,⟨r,r,r,y⟩,(a.dp [1,0,2]),b⟩ ?_)
  clear a b
  rintro aB f w ⟨o,c,d,v,A,C,D,E,hf,a,b⟩ bR aQ
  obtain ⟨cx,rfl⟩:=fV _ _ hf
  clear hf
  cases aB with
  | zero=>exact nn b
  | succ aB=>
   rw [qw] at b
   refine q (q (g (s (mp r) (s (xn r) (s (qV r) (s (BK r (a.bk 4 r) r) (s (kH r r) (s (kQ r) ?_))))))))
   rcases iv b with ⟨aC,b⟩|⟨aC,b⟩
   ·rw [decide_eq_true aC]
    refine ku r (s (mp r) ?_)
    obtain ⟨ba,bb,b⟩:=bs b
    refine ku r ?_
    refine sc (ec vo r) (mY fu (a.pr [4] [0,1,2,3] [0] r) bb) ?_
    rintro _ bS ⟨rfl,X⟩
    replace a:=a.cn [4] [0,1,2,3] X
    refine s (kG r r) (n ?_)
    rcases iv b with ⟨ak,b⟩|⟨ak,b⟩
    ·refine jJ (cb ak) (wk (nS (q (qc a [0] [1] [] (by kernel_rfl) ?_))))
     replace a:=a.drew
     have hs:=(a.ad [0] [1])
     refine pF 0 r (mp r) hs (pF 1 r (xn r) hs (pF 2 r (yV r) hs (uF 3 r (fun hS=>Oy r (hS.bk 0 r) r) hs (pF 4 r (mp r) hs (pF 5 r (xn r) hs (pF 6 r (lZ r) hs (uF 7 r (fun hS=>l3 r (hS.bk 0 r) r) hs ?_)))))))
     obtain ⟨Y,ah,b⟩:=bs b
     obtain ⟨bT,aR,ah⟩:=kR ah
     refine pF 8 r (kW Cu oZ r r aR (a.dl 1 r) ah) hs (pF 9 r (Io r) hs (tU 10 r (fun _ hS=>jP F8 r r ((uK (ds:=[V Y.e,V Y.f,T Y.a,V Y.c]) (hS.dl 0 r) ah (fun _ h=>h)) 1 _ r)) (sF hs) (pF 11 r (VW r) hs ?_)))
     refine hO 12 (oo r r (nD a (jU nW)) ?_)
     rintro _ bU ⟨aS,rfl,a⟩
     have hs:=(a.ad [1] [1])
     refine ⟨(sF hs),?_⟩
     refine hO 13 (os r r (nU a 0 [T be,V Y.f,sn,sn] r nW r r) fun bV a=>?_)
     have hs:=(a.ad [1] [1])
     refine ⟨(sF hs),?_⟩
     refine hD (q (g (s (mp r) (s (xn r) (s (lZ r) (s (l3 r (a.bk 1 r) r) (s (kJ r r) (s (xn r) (s (lZ r) (kZ (t_n a 1 [V (wr (C+1))] r mP r r) fun bW a=>?_))))))))))
     refine n (q (g (s (mp r) ?_)))
     obtain ⟨S,bc,bd,b⟩:=lX b
     refine sc (ec BN r) (qj fu (a.pr [1] [0,2,3,4,5] [1] r) bd) ?_
     rintro _ bX ⟨rfl,X⟩
     replace a:=a.cn [1] [0,2,3,4,5] X
     refine s (Kt r) (kZ (t_n a 1 [T S] r nX r r) fun bY a=>?_)
     refine n (q (g (s (mp r) ?_)))
     obtain ⟨U,bg,b⟩:=bs b
     refine sc (ec vS r) (lT fu (a.pr [0] [1,2,3,4,5] [0] r) bg) ?_
     rintro _ bZ ⟨rfl,X⟩
     replace a:=a.cn [0] [1,2,3,4,5] X
     refine n (q ?_)
     replace a:=a.Bv BA 9
     obtain ⟨bh,B,b⟩:=bs b
     refine nT (fun f w=>∃ (W:List BA) (J:OA)(K:Nat)(a6:LV)(a7:List jY) (ac:Int)(ae:Int)(af:Int),Has f [(0,Pt a2),(2,Pt b1),(3,Pt b2),(5,Pt aS)]∧Bx w0 w cw G [O w0.heap.size J K 9 BA a6,.box a2 102 #[Z x a7 z,V ac,V ae,V af],.box aS 82 #[T S,V Y.f,Z J W K,sn],O w0.heap.size c d 82 Gn v,O w0.heap.size j m 127 Gr t,.box b2 26 #[Z j p m,Z c o d],.box b1 26 #[sn,sn]] [.l x z a7,.els a6 W,.els v o,.els t p]∧Ld.go (W,a7,ac,ae,af)=bh) (fun c0 al=>?_) ?_
     ·unfold uN at B
      refine q (g (s (mp r) (s (xn r) (s (qV r) (s (BK r (a.bk 1 r) r) (s (kH r r) (s (kQ r) ?_)))))))
      rcases iv B with ⟨aD,B⟩|⟨aD,B⟩
      ·rw [decide_eq_true aD]
       refine ku r (s (mp r) ?_)
       obtain ⟨bi,bj,B⟩:=bs B
       refine ku r ?_
       refine sc (ec vo r) (mY fu (a.pr [1] [0,2,3,4,5,6] [1] r) bj) ?_
       rintro _ c1 ⟨rfl,X⟩
       replace a:=a.cn [1] [0,2,3,4,5,6] X
       refine ku r (s (Ae r) (s (kG r r) (n ?_)))
       rcases iv B with ⟨am,B⟩|⟨am,B⟩
       ·refine jJ (cb am) (g (s (mp r) ?_))
        obtain ⟨ag,a8,bl,B⟩:=lX B
        refine sc (ec TS r) (CW fu (a.pr [0] [1,2,3,4,5,6] [2] r) bl) ?_
        rintro _ c2 ⟨a0,a1,ai,rfl,X⟩
        have aj:=a.qW.size
        replace a:=a.cn [0] [1,2,3,4,5,6] X
        replace a:=a.rb 0 w0.heap.size r aj
        refine s (F4 r) (kZ (t_n a 3 [Z a0 ag a1] r nV r r) fun c3 a=>?_)
        refine n ?_
        exact al _ _ ⟨ag,a0,a1,ai,a8.l,a8.a,a8.c,a8.e,⟨r,r,r,r,y⟩,(a.ad [0,1,3,4,5,6,7] [1,0,8,9]),sm B⟩
       replace am:=nt am
       refine jD (cb am) (wk ?_)
       exact al _ _ ⟨([]:List BA),none,0,[],U.l,U.a,U.c,U.e,⟨r,r,r,r,y⟩,(a.ad [1,0,2,3,4,5,6] [2,1,6,7]),sm B⟩
      rw [decide_eq_false aD]
      refine jL r (jL r (jL r (s (jZ r r) (n (jD r (wk ?_))))))
      exact al _ _ ⟨([]:List BA),none,0,[],U.l,U.a,U.c,U.e,⟨r,r,r,r,y⟩,(a.dp [1,0,5,6]),sm B⟩
     clear a
     rintro f w ⟨W,J,K,a6,a7,ac,ae,af,hf,a,aT⟩
     obtain ⟨cx,rfl⟩:=fV _ _ hf
     clear hf
     subst aT
     replace b:=gi b
     replace b:=pi (mE b)
     refine q (g (s (mp r) ?_))
     obtain ⟨bm,bn,b⟩:=bs b
     refine sc (ec vS r) (lT fu (a.pr [1] [0,2,3,4,5,6] [0] r) bn) ?_
     rintro _ c4 ⟨rfl,X⟩
     replace a:=a.cn [1] [0,2,3,4,5,6] X
     refine n (q (g (s (mp r) ?_)))
     obtain ⟨bo,an,a9,bp,b⟩:=vB b
     refine sc (ec Ib r) (Jl fu (a.pr [0] [1,2,3,4,5,6] [0] r) bp) ?_
     rintro _ c5 ⟨aJ,aK,aL,rfl,X⟩
     have aj:=a.qW.size
     replace a:=a.cn [0] [1,2,3,4,5,6] X
     replace a:=a.rb 0 w0.heap.size r aj
     refine s sM (s (kg r r) (s (kg r r) (s (mG r) (s (xi r) (n (q (g (s (nL r) (s (mi r) (s (Nz r r) (nM (jN a [[V 10,V an,V 0,T be,T be,V 0,V 0,sn,T be,V 0,sn,sn,sn]] ([(⟨10,an,0,be,be,0,0,([]:List Ge),be,0,([]:List Ge),([]:List Gs),([]:List Gs)⟩:Gs)]:List Gs) (rD r) r r (by decide) ⟨(jO.inn ⟨none,0,none,0,none,0,none,0,r,nZ,nZ,nZ,nZ⟩),y⟩) ?_)))))))))))
     rintro _ c6 ⟨c7,rfl,a⟩
     obtain ⟨ao,aU,b⟩:=bs b
     refine nM (kL a 1 1 r r Af jQ r (by decide) (by decide) (Nat.le_refl _) r r (a.zN 0 0 r r) aU) ?_
     rintro _ c8 ⟨ap,aq,c9,rfl,a⟩
     refine s (CZ r) (kZ (t_n a 4 [Z ap ao aq] r za r r) fun cc a=>?_)
     refine n (g (s (Al r) (s (Oz r (a.bk 7 r) r) (s (ng [T S,V Y.f,Z J W K,Z ap ao aq] El nW r (a.bk 4 r)) ?_))))
     replace a:=a.fz 3 5 r r
     replace a:=a.fz 1 2 r r
     refine nM (jN a [[T S,V Y.f,Z J W K,Z ap ao aq]] ([(⟨S,Y.f,W,ao⟩:Gn)]:List Gn) (JJ r) r r (by decide) ⟨(nK.inn ⟨J,K,ap,aq,r,(a.dl 1 r),(a.dl 0 r)⟩),y⟩) ?_
     rintro _ cd ⟨ce,rfl,a⟩
     obtain ⟨aE,aV,b⟩:=bs b
     refine nM (kL a 4 7 r r Cv nW r (by decide) (by decide) (Nat.le_refl _) r r (a.zN 0 0 r r) aV) ?_
     rintro _ cg ⟨aF,aG,bq,rfl,a⟩
     refine s (Al r) (kZ (t_n a 6 [Z aF aE aG] r RI r r) fun ch a=>?_)
     refine n ?_
     exact aQ aB _ _ (Nat.lt_succ_self _) ⟨aE,aF,aG,bq,a9.l,a9.a,a9.c,a9.e,⟨r,r,r,y⟩,(a.ad [4,5,6,7,2] [4,7,8]),b⟩
    replace ak:=nt ak
    refine jD (cb ak) (ug ?_)
    exact ax _ _ ⟨o,c,d,v,A,C,D,E,⟨r,r,r,y⟩,(a.ad [1,2,3,4,0] [1,2,3]),sm b⟩
   rw [decide_eq_false aC]
   refine jL r (jL r (s (jZ r r) (n (jD r (ug ?_)))))
   exact ax _ _ ⟨o,c,d,v,A,C,D,E,⟨r,r,r,y⟩,a,sm b⟩
 clear a
 rintro f w ⟨o,c,d,v,A,C,D,E,hf,a,aW⟩
 obtain ⟨cx,rfl⟩:=fV _ _ hf
 clear hf
 subst aW
 replace L:=gi L
 replace L:=pi (mE L)
 refine q (q (g (s (mp r) (s (xn r) (s (qV r) (s (BK r (a.bk 4 r) r) (s (kH r r) (s (kQ r) ?_))))))))
 rcases iv L with ⟨aH,L⟩|⟨aH,L⟩
 ·rw [decide_eq_true aH]
  refine ku r (s (mp r) ?_)
  obtain ⟨br,bu,L⟩:=bs L
  refine ku r ?_
  refine sc (ec Dm r) (q9 fu (a.pr [4] [0,1,2,3] [0] r) bu) ?_
  rintro _ ci ⟨rfl,X⟩
  replace a:=a.cn [4] [0,1,2,3] X
  refine ku r (s (Ae r) (s (kG r r) (n ?_)))
  rcases iv L with ⟨ar,L⟩|⟨ar,L⟩
  ·refine jJ (cb ar) (g (s (mp r) ?_))
   obtain ⟨bv,bw,L⟩:=bs L
   refine sc (ec Du r) (qZ fu (a.pr [0] [1,2,3,4] [1] r) bw) ?_
   rintro _ cj ⟨rfl,X⟩
   replace a:=a.cn [0] [1,2,3,4] X
   refine n (q (g (s (ng [Z j p m,Z c o d] Ca sS r (a.bk 3 r)) (kZ (nU a 4 [Z j p m,Z c o d] r sS r r) fun ck a=>?_))))
   refine n (kU ?_)
   replace a:=a.fz 2 4 r r
   replace a:=a.fz 1 4 r r
   obtain rfl:=sm L
   refine jB r (tV r Ca r sS r (a.bk 2 r)) ?_
   exact mJ (⟨j,m,c,d,r,(a.ad [0] [1,0,2])⟩)
  replace ar:=nt ar
  refine jD (cb ar) (wk (q (g (s (ng [Z j p m,Z c o d] Ca sS r (a.bk 3 r)) (kZ (nU a 4 [Z j p m,Z c o d] r sS r r) fun cm a=>?_)))))
  refine n (kU ?_)
  replace a:=a.fz 2 3 r r
  replace a:=a.fz 1 3 r r
  obtain rfl:=sm L
  refine jB r (tV r Ca r sS r (a.bk 2 r)) ?_
  exact mJ (⟨j,m,c,d,r,(a.ad [0] [1,0,3])⟩)
 rw [decide_eq_false aH]
 refine jL r (jL r (jL r (s (jZ r r) (n (jD r (wk (q (g (s (ng [Z j p m,Z c o d] Ca sS r (a.bk 2 r)) (kZ (nU a 3 [Z j p m,Z c o d] r sS r r) fun cn a=>?_))))))))))
 refine n (kU ?_)
 replace a:=a.fz 1 2 r r
 replace a:=a.fz 0 2 r r
 obtain rfl:=sm L
 refine jB r (tV r Ca r sS r (a.bk 1 r)) ?_
 exact mJ (⟨j,m,c,d,r,(a.ad [2] [1,0,2])⟩)
def I6 (m:BA→Option (jW × Int × Int)):Prop:=∀ {f:World} {k:Nat→Prop} {h:BA}  {R:jW × Int × Int},Pre f k [] []→m h=some R→
 Calls Try.prog 32 #[T h] f (qQ fun v w=>jy R fun e R=>jy R fun i j=>∃ (a:OA)(b:Nat)(c:OA)(d:Nat),v=.tuple #[.agg #[Z a e.a b,Z c e.b d],V i,V j]∧Bx f w k (lS []) [] [.l a b e.a,.l c d e.b])
def vX (fu:Nat)(h:BA):Option (jW × Int × Int):=
 (zu fu h).bind fun i=>
 jy i fun c i=>jy i fun d b=>
 if b≠0 then
  some ((⟨([]:List Gr),([]:List Gn)⟩:jW),d,b)
 else
  (u6 fu (⟨c,0,0,0⟩:gP)).bind fun i=>
  jy i fun f a=>
  if a.e≠0 then
   some ((⟨([]:List Gr),([]:List Gn)⟩:jW),a.c,a.e)
  else
   some (f,0,0)
theorem CS (fu:Nat):I6 (vX fu):=by
 intro E a3 F R z j
 unfold vX at j
 have a:=z.bx
 clear z
 generalize Q:lS _=G at a ⊢
 refine cf Try.func32 r (lM [(0,T F)] ⟨r,y⟩ fun a4=>q (g (sV a (jU sS) fun S U a=>s (xi r) (s (xi r) (n (q (g (s (kY r) ?_))))))))
 obtain ⟨A,B,C,H,j⟩:=vB j
 refine sc (ec Xu r) (Ky fu (a.pr [] [0] [] r) H) ?_
 rintro _ W ⟨p,t,u,rfl,v⟩
 have w:=a.qW.size
 replace a:=a.cn [] [0] v
 replace a:=a.rb 0 E.heap.size r w
 refine s sM (s (kg r r) (s (kg r r) (s (kg r r) (s (mG r) (s (xi r) (s (xi r) (n (q (q (g (s (mi r) (s (rT r r) (n ?_)))))))))))))
 rcases iv j with ⟨x,j⟩|⟨x,j⟩
 ·refine jJ (bt x) (q (g (s Tc (s (mi r) (s (mi r) (kZ (nU a 1 [sn,sn] r sS r r) fun X a=>s (xi r) (s (xi r) (n (kU ?_)))))))))
  replace a:=a.kr (d:=.l none 0 ([]:List Gr)) nZ
  replace a:=a.kr (d:=.l none 0 ([]:List Gn)) nZ
  obtain rfl:=sm j
  exact xI r (tV r Ca r sS r (a.bk 1 r)) (lq r) (lq r) (mJ (mJ (⟨none,0,none,0,r,(a.ad [] [1,0])⟩)))
 refine jD (bf x) (wk (q (g (s (nL r) (s (QU r) (sV a (yY r) fun Y b7 a=>s (Me r) (n (q (g (s (mp r) ?_))))))))))
 replace a:=a.fz 1 0 r r
 obtain ⟨h,D,I,j⟩:=lX j
 refine sc (ec X7 r) (FW fu (a.pr [0] [1] [0] r) I) ?_
 rintro _ w9 ⟨b,c,e,f,rfl,v⟩
 replace a:=a.cn [0] [1] v
 refine sV a (jU sS) fun J K a=>kZ (nU a 0 [Z b h.a c,Z e h.b f] r sS r r) fun L a=>n (q (q (g (s (mp r) (s (xn r) (s (qV r) (s (BK r (a.bk 1 r) r) (s (rT r r) (n ?_)))))))))
 rcases iv j with ⟨o,j⟩|⟨o,j⟩
 ·refine jJ (bt o) (q (qc a [1] [] [] (by kernel_rfl) ?_))
  replace a:=a.drew
  have m:=(a.ad [1] [])
  refine pF 0 r (Tc) m (pF 1 r (mp r) m (pF 2 r (xn r) m (pF 3 r (P8 r) m (uF 4 r (fun hS=>l3 r (hS.bk 0 r) r) m (pF 5 r (mp r) m (pF 6 r (xn r) m (pF 7 r (qV r) m (uF 8 r (fun hS=>BK r (hS.bk 0 r) r) m (hO 9 (os r r (nU a 2 [sn,sn] r sS r r) fun M a=>?_))))))))))
  have m:=(a.ad [1] [])
  refine ⟨(sF m),(pF 10 r (xi r) m (pF 11 r (xi r) m (hD (kU ?_))))⟩
  replace a:=a.kr (d:=.l none 0 ([]:List Gr)) nZ
  replace a:=a.kr (d:=.l none 0 ([]:List Gn)) nZ
  obtain rfl:=sm j
  exact xI r (tV r Ca r sS r (a.bk 2 r)) (lq r) (lq r) (mJ (mJ (⟨none,0,none,0,r,(a.ad [] [1,0])⟩)))
 refine jD (bf o) (wk (q (g (s (ng [Z b h.a c,Z e h.b f] Ca sS r (a.bk 0 r)) (kZ (nU a 2 [Z b h.a c,Z e h.b f] r sS r r) fun N a=>s (xi r) (s (xi r) (n (kU ?_))))))))
 obtain rfl:=sm j
 exact xI r (tV r Ca r sS r (a.bk 2 r)) (lq r) (lq r) (mJ (mJ (⟨b,c,e,f,r,(a.ad [] [0,1])⟩)))
end
end Go.Proofs.Ytfglbdkfnphjgaa
