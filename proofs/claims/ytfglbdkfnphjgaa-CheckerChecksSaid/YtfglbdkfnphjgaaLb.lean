/- Contracts, printed by gen3.py. -/
import Derived.Test.YtfglbdkfnphjgaaZt
import Derived.Test.YtfglbdkfnphjgaaLa
set_option linter.unusedVariables false
set_option maxHeartbeats 12800000
set_option linter.unusedSimpArgs false
set_option maxRecDepth 4000
namespace Go.Proofs.Ytfglbdkfnphjgaa
open Go.RowKit Go.Fw
noncomputable section
def Kr (m:jy→Int→Option (jy)):Prop:=∀ {h:World} {j:Nat→Prop} {d:jy} {i:Int} {f:Nat} {a:Option Addr} {b:Nat} {c:jy},Pre h j [.box f 102 #[Z a d.l b,V d.a,V d.c,V d.e]] [.l a b d.l]→m d i=some c→
 Calls Try.prog 68 #[Pt f,V i] h (rA fun v w=>v=.tuple #[]∧Bx h w j (lT [.box f 102 #[Z a d.l b,V d.a,V d.c,V d.e]]) [.box f 102 #[Z a c.l b,V c.a,V c.c,V c.e]] [.l a b c.l])
def qy (fu:Nat)(a:jy) (b:Int):Option (jy):=
 if a.e=0 then
  (ix a.l a.a).bind fun c=>
  some (⟨a.l,a.a,c.c,b⟩:jy)
 else
  some a
theorem ui (fu:Nat):Kr (qy fu):=by
 intro A F j u t d f z x o
 unfold qy at o
 have b:=x.bx
 clear x
 generalize B:lT _=G at b ⊢
 refine cf Try.func68 r (l8 [(0,Pt t),(1,V u)] ⟨r,r,y⟩ fun H=>q (g (s (mp r) (s (xn r) (s (tJ r) (s (CU r (b.bk 0 r) r) (s (kK r r) (n ?_))))))))
 rcases iv o with ⟨v,o⟩|⟨v,o⟩
 ·refine jH (bt v) (Ff b [] [0] [0] [0] [16,19] (by kernel_rfl) ?_)
  replace b:=b.drew
  have a:=(b.arr [] r)
  have c:=b
  refine pL 0 r (mp r) a c (pL 1 r (mp r) a c (pL 2 r (mi r) a c (pL 3 r (mp r) a c (pL 4 r (xn r) a c (pL 5 r (zJ r) a c (tS 1 6 r (fun _ hS=>NJ r (hS.bk 0 r) r) (mF a c) (pL 7 r (mp r) a c (pL 8 r (xn r) a c (pL 9 r (mP r) a c (tS 1 10 r (fun _ hS=>l3 r (hS.bk 0 r) r) (mF a c) ?_))))))))))
  obtain ⟨p,m,o⟩:=bs o
  obtain ⟨C,w,m⟩:=kG m
  refine pL 11 r (kZ CW qJ r r w (b.dl 0 r) m) a c (pL 12 r (Jz r) a c (tU 13 r (fun _ hS=>kC E8 r r ((vB (ds:=[V p.e,V p.c,T p.a,V p.d]) (hS.dl 0 r) m (fun _ h=>h)) 1 _ r)) (mF a c) (pL 14 r (xn r) a c (pL 15 r (tJ r) a c (hO 16 (os r r (lW b 0 [V u] r PZ r r) fun D b=>?_))))))
  have a:=(b.arr [] r)
  refine ⟨(sy 16 a),(tP 17 r (fun _=>xn r) (sy 16 a) (tP 18 r (fun _=>OB r) (sy 16 a) (hO 19 (os r r (lW b 0 [V p.c] r pI r r) fun E b=>?_))))⟩
  have a:=(b.arr [] r)
  refine ⟨(sy 16 a),(hD ?_)⟩
  obtain rfl:=sm o
  exact zV (P:=Try.prog) (fn:=Try.f68) r ⟨r,b⟩
 refine jI (bf v) (wk ?_)
 obtain rfl:=sm o
 exact zV (P:=Try.prog) (fn:=Try.f68) r ⟨r,b⟩
def NB (m:jy→Int→BA→Option (Bool)):Prop:=∀ {f:World} {k:Nat→Prop} {c:jy} {h:Int} {i:BA} {d:Nat} {a:Option Addr} {b:Nat} {j:Bool},Pre f k [.box d 102 #[Z a c.l b,V c.a,V c.c,V c.e]] [.l a b c.l]→m c h i=some j→
 Calls Try.prog 62 #[Pt d,V h,T i] f (rA fun v w=>v=.bool j∧Bx f w k (lT [.box d 102 #[Z a c.l b,V c.a,V c.c,V c.e]]) [.box d 102 #[Z a c.l b,V c.a,V c.c,V c.e]] [.l a b c.l])
def ng (fu:Nat)(a:jy) (c:Int)(d:BA):Option (Bool):=
 if (a.l.length:Int)≤(wr (a.a+c)) then
  some false
 else
  (ix a.l (wr (a.a+c))).bind fun b=>
  if b.e=3 then
   some (decide (b.a=d))
  else
   if b.e=4 then
    some (decide (b.a=d))
   else
    some false
theorem nQ (fu:Nat):NB (ng fu):=by
 intro B J p z A o j m C x c
 unfold ng at c
 have b:=x.bx
 clear x
 generalize D:lT _=G at b ⊢
 refine cf Try.func62 r (l8 [(0,Pt o),(1,V z),(2,T A)] ⟨r,r,r,y⟩ fun K=>q (g (s (jT r) (n (q (q (oJ b [0] [] [] (by kernel_rfl) ?_)))))))
 replace b:=b.drew
 have a:=(b.dp [])
 refine pF 0 r (mp r) a (pF 1 r (xn r) a (pF 2 r (mP r) a (uF 3 r (fun hS=>l3 r (hS.bk 0 r) r) a (pF 4 r (mi r) a (pF 5 r (kN r r) a (pF 6 r (mp r) a (pF 7 r (xn r) a (pF 8 r (zJ r) a (uF 9 r (fun hS=>NJ r (hS.bk 0 r) r) a (pF 10 r (lg CW r) a (pF 11 r (BQ r r) a (hD ?_))))))))))))
 rcases iv c with ⟨t,c⟩|⟨t,c⟩
 ·refine jH (bt t) (q (g (s (jT r) (n (kP ?_)))))
  obtain rfl:=sm c
  exact jC r (kT r) ⟨r,b⟩
 refine jI (bf t) (wk (q (oJ b [0] [0] [] (by kernel_rfl) ?_)))
 replace b:=b.drew
 have a:=b
 refine pF 0 r (mp r) a (pF 1 r (xn r) a (pF 2 r (zJ r) a (uF 3 r (fun hS=>NJ r (hS.bk 0 r) r) a (pF 4 r (mp r) a (pF 5 r (xn r) a (pF 6 r (mP r) a (uF 7 r (fun hS=>l3 r (hS.bk 0 r) r) a (pF 8 r (mi r) a (pF 9 r (kN r r) a ?_)))))))))
 obtain ⟨d,f,c⟩:=bs c
 obtain ⟨E,u,f⟩:=kG f
 refine pF 10 r (kZ CW qJ r r u (b.dl 0 r) f) a (uF 11 r (fun hS=>L9 [V d.e,V d.c,T d.a,V d.d] Cz qJ r (hS.dl 0 r) f) a (hO 12 (oo r r (rF b (ko qJ)) ?_)))
 rintro _ F ⟨H,rfl,b⟩
 have a:=(b.arr [1] r)
 refine ⟨(sF a),(hO 13 (os r r (nE b 0 [V d.e,V d.c,T d.a,V d.d] r qJ r r) fun I b=>?_))⟩
 have a:=(b.arr [1] r)
 refine ⟨(sF a),(hD (q (g (s (L6 r) (s (l3 r (b.bk 0 r) r) (s (kK r r) (s (jY r) ?_)))))))⟩
 rcases iv c with ⟨v,c⟩|⟨v,c⟩
 ·rw [decide_eq_true v]
  refine jB r (jB r (jB r (s (jO r r) (s (jY r) (jW r (s (JN r) (jW r (s (l9 r (b.bk 0 r) r) (jW r (s (lh r) (jW r (s (rH r r) (s (jO r r) (s (jT r) (n (kP ?_))))))))))))))))
  obtain rfl:=sm c
  exact jC r (kT r) ⟨r,(b.arr [1] r)⟩
 rw [decide_eq_false v]
 refine jW r (s (L6 r) (jW r (s (l3 r (b.bk 0 r) r) (jW r (s (kK r r) (s (jZ r r) (s (jY r) ?_)))))))
 rcases iv c with ⟨w,c⟩|⟨w,c⟩
 ·rw [decide_eq_true w]
  refine jW r (s (JN r) (jW r (s (l9 r (b.bk 0 r) r) (jW r (s (lh r) (jW r (s (rH r r) (s (jO r r) (s (jT r) (n (kP ?_)))))))))))
  obtain rfl:=sm c
  exact jC r (kT r) ⟨r,(b.arr [1] r)⟩
 rw [decide_eq_false w]
 refine jB r (jB r (jB r (jB r (s (jZ r r) (s (jT r) (n (kP ?_)))))))
 obtain rfl:=sm c
 exact jC r (kT r) ⟨r,(b.arr [1] r)⟩
def Li (m:jy→Int→Int→Option (Bool)):Prop:=∀ {f:World} {k:Nat→Prop} {c:jy} {h:Int} {i:Int} {d:Nat} {a:Option Addr} {b:Nat} {j:Bool},Pre f k [.box d 102 #[Z a c.l b,V c.a,V c.c,V c.e]] [.l a b c.l]→m c h i=some j→
 Calls Try.prog 67 #[Pt d,V h,V i] f (rA fun v w=>v=.bool j∧Bx f w k (lT [.box d 102 #[Z a c.l b,V c.a,V c.c,V c.e]]) [.box d 102 #[Z a c.l b,V c.a,V c.c,V c.e]] [.l a b c.l])
def qx (fu:Nat)(a:jy) (b:Int)(c:Int):Option (Bool):=
 if (wr (a.a+b)) < (a.l.length:Int) then
  (ix a.l (wr (a.a+b))).bind fun d=>
  some (decide (d.e=c))
 else
  some false
theorem um (fu:Nat):Li (qx fu):=by
 intro z D o w x m f j A v d
 unfold qx at d
 have b:=v.bx
 clear v
 generalize B:lT _=G at b ⊢
 refine cf Try.func67 r (l8 [(0,Pt m),(1,V w),(2,V x)] ⟨r,r,r,y⟩ fun E=>q (g (s (jT r) (n (q (oJ b [0] [0] [] (by kernel_rfl) ?_))))))
 replace b:=b.drew
 have a:=b
 refine pF 0 r (mp r) a (pF 1 r (xn r) a (pF 2 r (mP r) a (uF 3 r (fun hS=>l3 r (hS.bk 0 r) r) a (pF 4 r (mi r) a (pF 5 r (kN r r) a (pF 6 r (mp r) a (pF 7 r (xn r) a (pF 8 r (zJ r) a (uF 9 r (fun hS=>NJ r (hS.bk 0 r) r) a (pF 10 r (lg CW r) a (pF 11 r (qR r r) a (pF 12 r (jY r) a ?_))))))))))))
 rcases iv d with ⟨t,d⟩|⟨t,d⟩
 ·rw [decide_eq_true t]
  have a:=b
  refine pF 13 r (mp r) a (pF 14 r (xn r) a (pF 15 r (zJ r) a (uF 16 r (fun hS=>NJ r (hS.bk 0 r) r) a (pF 17 r (mp r) a (pF 18 r (xn r) a (pF 19 r (mP r) a (uF 20 r (fun hS=>l3 r (hS.bk 0 r) r) a (pF 21 r (mi r) a (pF 22 r (kN r r) a ?_)))))))))
  obtain ⟨p,c,d⟩:=bs d
  obtain ⟨C,u,c⟩:=kG c
  refine pF 23 r (kZ CW qJ r r u (b.dl 0 r) c) a (pF 24 r (L6 r) a (tU 25 r (fun _ hS=>kC E8 r r ((vB (ds:=[V p.e,V p.c,T p.a,V p.d]) (hS.dl 0 r) c (fun _ h=>h)) 0 _ r)) (sF a) (pF 26 r (mi r) a (pF 27 r (kK r r) a (pF 28 r (jO r r) a (pF 29 r (jT r) a (hD (kP ?_))))))))
  obtain rfl:=sm d
  exact jC r (kT r) ⟨r,b⟩
 rw [decide_eq_false t]
 have a:=b
 refine pR 13 r (by kernel_rfl) r (sF a) (pR 14 r (by kernel_rfl) r (sF a) (pR 15 r (by kernel_rfl) r (sF a) (pR 16 r (by kernel_rfl) r (sF a) (pR 17 r (by kernel_rfl) r (sF a) (pR 18 r (by kernel_rfl) r (sF a) (pR 19 r (by kernel_rfl) r (sF a) (pR 20 r (by kernel_rfl) r (sF a) (pR 21 r (by kernel_rfl) r (sF a) (pR 22 r (by kernel_rfl) r (sF a) (pR 23 r (by kernel_rfl) r (sF a) (pR 24 r (by kernel_rfl) r (sF a) (pR 25 r (by kernel_rfl) r (sF a) (pR 26 r (by kernel_rfl) r (sF a) (pR 27 r (by kernel_rfl) r (sF a) (pF 28 r (jZ r r) a (pF 29 r (jT r) a (hD (kP ?_))))))))))))))))))
 obtain rfl:=sm d
 exact jC r (kT r) ⟨r,b⟩
def Lx (m:jy→BA→Option (jy)):Prop:=∀ {h:World} {j:Nat→Prop} {d:jy} {i:BA} {f:Nat} {a:Option Addr} {b:Nat} {c:jy},Pre h j [.box f 102 #[Z a d.l b,V d.a,V d.c,V d.e]] [.l a b d.l]→m d i=some c→
 Calls Try.prog 64 #[Pt f,T i] h (rA fun v w=>v=.tuple #[]∧Bx h w j (lT [.box f 102 #[Z a d.l b,V d.a,V d.c,V d.e]]) [.box f 102 #[Z a c.l b,V c.a,V c.c,V c.e]] [.l a b c.l])
def lY (fu:Nat)(a:jy) (d:BA):Option (jy):=
 if a.e≠0 then
  some a
 else
  (ng fu a 0 d).bind fun b=>
  if (!b)=true then
   (qy fu a 7).bind fun c=>
   some c
  else
   some (⟨a.l,(wr (a.a+1)),a.c,a.e⟩:jy)
theorem mG (fu:Nat):Lx (lY fu):=by
 intro A F f v h c d w p b
 unfold lY at b
 have a:=p.bx
 clear p
 generalize B:lT _=G at a ⊢
 refine cf Try.func64 r (l8 [(0,Pt h),(1,T v)] ⟨r,r,y⟩ fun H=>q (q (g (s (mp r) (s (xn r) (s (tJ r) (s (CU r (a.bk 0 r) r) (s (mI r r) (n ?_)))))))))
 rcases iv b with ⟨m,b⟩|⟨m,b⟩
 ·refine jH (bt m) (kP ?_)
  obtain rfl:=sm b
  exact zV (P:=Try.prog) (fn:=Try.f64) r ⟨r,a⟩
 refine jI (bf m) (wk (q (q (g (s (mp r) (s (lh r) ?_))))))
 obtain ⟨t,x,b⟩:=bs b
 refine sc (ec wD r) (nQ fu (a.pr [0] [] [0] r) x) ?_
 rintro _ C ⟨rfl,o⟩
 replace a:=a.cn [0] [] o
 refine s (xc r) (n ?_)
 rcases iv b with ⟨j,b⟩|⟨j,b⟩
 ·refine jH (cb j) (q (g (s (mp r) ?_)))
  obtain ⟨u,z,b⟩:=bs b
  refine sc (ec DX r) (ui fu (a.pr [0] [] [1] r) z) ?_
  rintro _ D ⟨rfl,o⟩
  replace a:=a.cn [0] [] o
  refine n (kP ?_)
  obtain rfl:=sm b
  exact zV (P:=Try.prog) (fn:=Try.f64) r ⟨r,(a.dp [0])⟩
 replace j:=nt j
 refine jI (cb j) (wk (g (s (mp r) (s (xn r) (s (mP r) (s (l3 r (a.bk 0 r) r) (s (kN r r) (s (xn r) (s (mP r) (lu (lW a 0 [V (wr (f.a+1))] r pI r r) fun E a=>n ?_))))))))))
 obtain rfl:=sm b
 exact zV (P:=Try.prog) (fn:=Try.f64) r ⟨r,(a.dp [1])⟩
def KT (m:jy→Option (BA × jy)):Prop:=∀ {h:World} {j:Nat→Prop} {d:jy} {f:Nat} {a:Option Addr} {b:Nat} {R:BA × jy},Pre h j [.box f 102 #[Z a d.l b,V d.a,V d.c,V d.e]] [.l a b d.l]→m d=some R→
 Calls Try.prog 63 #[Pt f] h (rA fun v w=>iA R fun i c=>v=T i∧Bx h w j (lT [.box f 102 #[Z a d.l b,V d.a,V d.c,V d.e]]) [.box f 102 #[Z a c.l b,V c.a,V c.c,V c.e]] [.l a b c.l])
def pV (fu:Nat)(a:jy):Option (BA × jy):=
 if a.e≠0 then
  some ((⟨#[]⟩:BA),a)
 else
  (qx fu a 0 1).bind fun b=>
  if (!b)=true then
   (qy fu a 7).bind fun c=>
   some ((⟨#[]⟩:BA),c)
  else
   (ix a.l (wr ((wr (a.a+1)) - 1))).bind fun d=>
   some (d.a,(⟨a.l,(wr (a.a+1)),a.c,a.e⟩:jy))
theorem rX (fu:Nat):KT (pV fu):=by
 intro D K j o d f R x b
 unfold pV at b
 have a:=x.bx
 clear x
 generalize E:lT _=G at a ⊢
 refine cf Try.func63 r (l8 [(0,Pt o)] ⟨r,y⟩ fun L=>q (g (s (mZ r) (n (q (q (g (s (mp r) (s (xn r) (s (tJ r) (s (CU r (a.bk 0 r) r) (s (mI r r) (n ?_)))))))))))))
 rcases iv b with ⟨u,b⟩|⟨u,b⟩
 ·refine jH (bt u) (q (g (s (mZ r) (n (kP ?_)))))
  obtain rfl:=sm b
  exact jC r (kT r) (lw (⟨r,a⟩))
 refine jI (bf u) (wk (q (q (g (s (mp r) ?_)))))
 obtain ⟨z,B,b⟩:=bs b
 refine sc (ec D7 r) (um fu (a.pr [0] [] [0] r) B) ?_
 rintro _ F ⟨rfl,v⟩
 replace a:=a.cn [0] [] v
 refine s (xc r) (n ?_)
 rcases iv b with ⟨p,b⟩|⟨p,b⟩
 ·refine jH (cb p) (q (g (s (mp r) ?_)))
  obtain ⟨A,C,b⟩:=bs b
  refine sc (ec DX r) (ui fu (a.pr [0] [] [1] r) C) ?_
  rintro _ H ⟨rfl,v⟩
  replace a:=a.cn [0] [] v
  refine n (q (g (s (mZ r) (n (kP ?_)))))
  obtain rfl:=sm b
  exact jC r (kT r) (lw (⟨r,(a.dp [0])⟩))
 replace p:=nt p
 refine jI (cb p) (wk (q (g (s (mp r) (s (xn r) (s (mP r) (s (l3 r (a.bk 0 r) r) (s (kN r r) (s (xn r) (s (mP r) (lu (lW a 0 [V (wr (j.a+1))] r pI r r) fun I a=>n (q (oJ a [0] [1] [] (by kernel_rfl) ?_)))))))))))))
 replace a:=a.drew
 have c:=(a.dp [1])
 refine pF 0 r (mp r) c (pF 1 r (xn r) c (pF 2 r (zJ r) c (uF 3 r (fun hS=>NJ r (hS.bk 0 r) r) c (pF 4 r (mp r) c (pF 5 r (xn r) c (pF 6 r (mP r) c (uF 7 r (fun hS=>l3 r (hS.bk 0 r) r) c (pF 8 r (xS r r) c ?_))))))))
 obtain ⟨t,m,b⟩:=bs b
 obtain ⟨J,w,m⟩:=kG m
 refine pF 9 r (kZ CW qJ r r w (a.dl 1 r) m) c (pF 10 r (JN r) c (tU 11 r (fun _ hS=>kC uk r r ((vB (ds:=[V t.e,V t.c,T t.a,V t.d]) (hS.dl 0 r) m (fun _ h=>h)) 2 _ r)) (sF c) (pF 12 r (mZ r) c (hD (kP ?_)))))
 obtain rfl:=sm b
 exact jC r (kT r) (lw (⟨r,(a.dp [1])⟩))
def Jj (m:jy→Option ((List BA) × jy)):Prop:=∀ {k:World} {p:Nat→Prop} {i:jy} {j:Nat} {a:Option Addr} {b:Nat} {R:(List BA) × jy},Pre k p [.box j 102 #[Z a i.l b,V i.a,V i.c,V i.e]] [.l a b i.l]→m i=some R→
 Calls Try.prog 65 #[Pt j] k (rA fun v w=>iA R fun o c=>∃ (d:OA)(f:Nat)(h:LV),v=Z d o f∧Bx k w p (lT [.box j 102 #[Z a i.l b,V i.a,V i.c,V i.e]]) [O k.heap.size d f 9 BA h,.box j 102 #[Z a c.l b,V c.a,V c.c,V c.e]] [.els h o,.l a b c.l])
def sS (fu:Nat):Nat→(List BA)→(List kv)→Int→Int→Int→Option (Ld (List BA × List kv × Int × Int × Int) ((List BA) × jy))
 | 0,_,_,_,_,_=>none
 | o+1,h,b,c,d,a=>
 if a=0 then
  (ng fu (⟨b,c,d,a⟩:jy) 0 (⟨#[44]⟩:BA)).bind fun i=>
  if i=true then
   (lY fu (⟨b,c,d,a⟩:jy) (⟨#[44]⟩:BA)).bind fun j=>
   (pV fu j).bind fun p=>
   iA p fun k f=>
   (app h ([k]:List BA)).bind fun m=>
   sS fu o m f.l f.a f.c f.e
  else
   some (.go (h,b,c,d,a))
 else
  some (.go (h,b,c,d,a))
def xq (fu:Nat)(j:jy):Option ((List BA) × jy):=
 (pV fu j).bind fun k=>
 iA k fun b a=>
 (sS fu fu ([b]:List BA) a.l a.a a.c a.e).bind fun k=>k.el (fun k=>
 iA k fun c k=>iA k fun d k=>iA k fun f k=>iA k fun h i=>
 some (c,(⟨d,f,h,i⟩:jy))
 ) (fun o=>some o)
theorem DK (fu:Nat):Jj (xq fu):=by
 intro J aj K C u v R Y x
 unfold xq at x
 have m:=Y.bx
 clear Y
 generalize hG:lT _=G at m ⊢
 refine cf Try.func65 r (l8 [(0,Pt C)] ⟨r,y⟩ fun ak=>q (g (s (nL r) (n (q (g (s (mp r) ?_)))))))
 obtain ⟨z,A,h1,x⟩:=lV x
 refine sc (ec CF r) (rX fu (m.pr [0] [] [0] r) h1) ?_
 rintro _ w1 ⟨rfl,E⟩
 replace m:=m.cn [0] [] E
 refine qE (jV m [[T z]] ([z]:List BA) (Aw r) r r (by decide) ⟨r,y⟩) ?_
 rintro _ w2 ⟨b2,rfl,m⟩
 refine s (nL r) (n (q ?_))
 obtain ⟨Y3,a,x⟩:=bs x
 refine oG (fun f w=>∃ (h:List BA) (b:OA)(c:Nat)(d:LV)(j:List kv) (o:Int)(p:Int)(t:Int),Has f [(3,Z b h c)]∧Bx J w aj G [O J.heap.size b c 9 BA d,.box C 102 #[Z u j v,V o,V p,V t]] [.l u v j,.els d h]∧Ld.go (h,j,o,p,t)=Y3) (fun J3 F=>?_) ?_
 ·refine oF (kI (fun al f w=>∃ (h:List BA) (b:OA)(c:Nat)(d:LV)(j:List kv) (o:Int)(p:Int)(t:Int),Has f [(0,Pt C),(3,Z b h c)]∧Bx J w aj G [O J.heap.size b c 9 BA d,.box C 102 #[Z u j v,V o,V p,V t]] [.l u v j,.els d h]∧sS fu al h j o p t=some Y3) fu ⟨([z]:List BA),(ad b2),1,[[T z]],A.l,A.a,A.c,A.e,⟨r,r,y⟩,(m.dp [1,0]),a⟩ ?_)
  clear m a
  rintro L f w ⟨h,b,c,d,j,o,p,t,hf,m,a⟩ K3 M
  obtain ⟨ak,rfl⟩:=gP _ _ hf
  clear hf
  cases L with
  | zero=>exact nn a
  | succ L=>
   rw [sS] at a
   refine q (q (g (s (mp r) (s (xn r) (s (tJ r) (s (CU r (m.bk 1 r) r) (s (kK r r) (s (jY r) ?_))))))))
   rcases iv a with ⟨N,a⟩|⟨N,a⟩
   ·rw [decide_eq_true N]
    refine jW r (s (mp r) ?_)
    obtain ⟨a1,h5,a⟩:=bs a
    refine jW r (sc (ec wD r) (nQ fu (m.pr [1] [0] [0] r) h5) ?_)
    rintro _ w5 ⟨rfl,E⟩
    replace m:=m.cn [1] [0] E
    refine s (jO r r) (n ?_)
    rcases iv a with ⟨H,a⟩|⟨H,a⟩
    ·refine jH (cb H) (wk (oF (q (g (s (mp r) ?_)))))
     obtain ⟨a2,h7,a⟩:=bs a
     refine sc (ec xx r) (mG fu (m.pr [0] [1] [1] r) h7) ?_
     rintro _ w7 ⟨rfl,E⟩
     replace m:=m.cn [0] [1] E
     refine n (g (s (mH r) (s (mp r) ?_)))
     obtain ⟨D,B,h8,a⟩:=lV a
     refine sc (ec CF r) (rX fu (m.pr [0] [1] [0] r) h8) ?_
     rintro _ w8 ⟨rfl,E⟩
     replace m:=m.cn [0] [1] E
     refine qE (jV m [[T D]] ([D]:List BA) (Aw r) r r (by decide) ⟨r,y⟩) ?_
     rintro _ w9 ⟨b9,rfl,m⟩
     obtain ⟨Q,I,a⟩:=bs a
     refine qE (kS m 2 5 r r kM qc r (by decide) (by decide) (Nat.le_refl _) r r (m.Ay 0 0 r r) I) ?_
     rintro _ a8 ⟨S,U,W,rfl,m⟩
     exact s (nL r) (n (M L _ _ (Nat.lt_succ_self _) ⟨Q,S,U,W,B.l,B.a,B.c,B.e,⟨r,r,y⟩,(m.ad [2,1] [1,5]),a⟩))
    replace H:=nt H
    exact jI (cb H) (ve (F _ _ ⟨h,b,c,d,j,o,p,t,⟨r,y⟩,(m.ad [1,0] [1,2]),sm a⟩))
   rw [decide_eq_false N]
   exact jB r (jB r (s (jZ r r) (n (jI r (ve (F _ _ ⟨h,b,c,d,j,o,p,t,⟨r,y⟩,m,sm a⟩))))))
 clear m
 rintro f w ⟨h,b,c,d,j,o,p,t,hf,m,X⟩
 obtain ⟨ak,rfl⟩:=gP _ _ hf
 clear hf
 subst X
 replace x:=gi x
 replace x:=pi (mf x)
 refine q (g (s (mH r) (s (nL r) (n (kP ?_)))))
 obtain rfl:=sm x
 exact jC r (kT r) (lw (⟨b,c,d,r,(m.dp [1,0])⟩))
def Ho (m:jy→Option (Bool)):Prop:=∀ {f:World} {i:Nat→Prop} {c:jy} {d:Nat} {a:Option Addr} {b:Nat} {h:Bool},Pre f i [.box d 102 #[Z a c.l b,V c.a,V c.c,V c.e]] [.l a b c.l]→m c=some h→
 Calls Try.prog 136 #[Pt d] f (rA fun v w=>v=.bool h∧Bx f w i (lT [.box d 102 #[Z a c.l b,V c.a,V c.c,V c.e]]) [.box d 102 #[Z a c.l b,V c.a,V c.c,V c.e]] [.l a b c.l])
def x9 (fu:Nat)(a:jy):Option (Bool):=
 (qx fu a 0 1).bind fun b=>
 if b=true then
  some true
 else
  (qx fu a 0 2).bind fun c=>
  if c=true then
   some true
  else
   (ng fu a 0 (⟨#[40]⟩:BA)).bind fun d=>
   if d=true then
    some true
   else
    (ng fu a 0 (⟨#[45]⟩:BA)).bind fun e=>
    if e=true then
     some true
    else
     (ng fu a 0 (⟨#[33]⟩:BA)).bind fun f=>
     some f
theorem H7 (fu:Nat):Ho (x9 fu):=by
 intro E N o h d f F p a
 unfold x9 at a
 have b:=p.bx
 clear p
 generalize H:lT _=G at b ⊢
 refine cf Try.func136 r (l8 [(0,Pt h)] ⟨r,y⟩ fun Q=>q (g (s (jT r) (n (q (g (s (mp r) ?_)))))))
 obtain ⟨t,z,a⟩:=bs a
 refine sc (ec D7 r) (um fu (b.pr [0] [] [0] r) z) ?_
 rintro _ I ⟨rfl,c⟩
 replace b:=b.cn [0] [] c
 refine s (jY r) ?_
 rcases iv a with ⟨i,a⟩|⟨i,a⟩
 ·rw [i]
  refine jB r (jB r (s (jO r r) (s (jY r) (jB r (jB r (s (jO r r) (s (jY r) (jB r (jB r (s (jO r r) (s (jY r) (jB r (jB r (s (jO r r) (s (jT r) (n (kP ?_)))))))))))))))))
  obtain rfl:=sm a
  exact jC r (kT r) ⟨r,(b.dp [1])⟩
 replace i:=nt i
 rw [i]
 refine jW r (s (mp r) ?_)
 obtain ⟨u,A,a⟩:=bs a
 refine jW r (sc (ec D7 r) (um fu (b.pr [0] [] [1] r) A) ?_)
 rintro _ J ⟨rfl,c⟩
 replace b:=b.cn [0] [] c
 refine s (jZ r r) (s (jY r) ?_)
 rcases iv a with ⟨j,a⟩|⟨j,a⟩
 ·rw [j]
  refine jB r (jB r (s (jO r r) (s (jY r) (jB r (jB r (s (jO r r) (s (jY r) (jB r (jB r (s (jO r r) (s (jT r) (n (kP ?_)))))))))))))
  obtain rfl:=sm a
  exact jC r (kT r) ⟨r,(b.dp [2])⟩
 replace j:=nt j
 rw [j]
 refine jW r (s (mp r) ?_)
 obtain ⟨v,B,a⟩:=bs a
 refine jW r (sc (ec wD r) (nQ fu (b.pr [0] [] [2] r) B) ?_)
 rintro _ K ⟨rfl,c⟩
 replace b:=b.cn [0] [] c
 refine s (jZ r r) (s (jY r) ?_)
 rcases iv a with ⟨k,a⟩|⟨k,a⟩
 ·rw [k]
  refine jB r (jB r (s (jO r r) (s (jY r) (jB r (jB r (s (jO r r) (s (jT r) (n (kP ?_)))))))))
  obtain rfl:=sm a
  exact jC r (kT r) ⟨r,(b.dp [3])⟩
 replace k:=nt k
 rw [k]
 refine jW r (s (mp r) ?_)
 obtain ⟨w,C,a⟩:=bs a
 refine jW r (sc (ec wD r) (nQ fu (b.pr [0] [] [3] r) C) ?_)
 rintro _ L ⟨rfl,c⟩
 replace b:=b.cn [0] [] c
 refine s (jZ r r) (s (jY r) ?_)
 rcases iv a with ⟨m,a⟩|⟨m,a⟩
 ·rw [m]
  refine jB r (jB r (s (jO r r) (s (jT r) (n (kP ?_)))))
  obtain rfl:=sm a
  exact jC r (kT r) ⟨r,(b.dp [4])⟩
 replace m:=nt m
 rw [m]
 refine jW r (s (mp r) ?_)
 obtain ⟨x,D,a⟩:=bs a
 refine jW r (sc (ec wD r) (nQ fu (b.pr [0] [] [4] r) D) ?_)
 rintro _ M ⟨rfl,c⟩
 replace b:=b.cn [0] [] c
 refine s (jZ r r) (s (jT r) (n (kP ?_)))
 obtain rfl:=sm a
 exact jC r (kT r) ⟨r,(b.dp [5])⟩
def Kg (m:jy→Option (Int × Int)):Prop:=∀ {f:World} {j:Nat→Prop} {c:jy} {d:Nat} {a:Option Addr} {b:Nat} {R:Int × Int},Pre f j [.box d 102 #[Z a c.l b,V c.a,V c.c,V c.e]] [.l a b c.l]→m c=some R→
 Calls Try.prog 125 #[Pt d] f (rA fun v w=>iA R fun h i=>v=.tuple #[V h,V i]∧Bx f w j (lT [.box d 102 #[Z a c.l b,V c.a,V c.c,V c.e]]) [.box d 102 #[Z a c.l b,V c.a,V c.c,V c.e]] [.l a b c.l])
def sQ (fu:Nat)(c:jy):List BA→Nat→Option (Ld (Unit) (Int × Int))
 | [],_=>some (.go ())
 | d :: e,b=>
 (ng fu c 0 d).bind fun a=>
 if a=true then
  (ix ([3,3,4,4,4,2,2,2,1,1,1,1]:List Int) (b:Int)).bind fun f=>
  some (.out (f,(wr (6+(b:Int)))))
 else
  sQ fu c e (b+1)
def zu (fu:Nat)(a:jy):Option (Int × Int):=
 (sQ fu a ([(⟨#[43]⟩:BA),(⟨#[45]⟩:BA),(⟨#[42]⟩:BA),(⟨#[47]⟩:BA),(⟨#[37]⟩:BA),(⟨#[38]⟩:BA),(⟨#[124]⟩:BA),(⟨#[94]⟩:BA),(⟨#[60]⟩:BA),(⟨#[60,61]⟩:BA),(⟨#[61,61]⟩:BA),(⟨#[33,61]⟩:BA)]:List BA) 0).bind fun b=>b.el (fun _=>
 some (0,0)
 ) (fun o=>some o)
theorem JM (fu:Nat):Kg (zu fu):=by
 intro t a1 i j b c R E m
 unfold zu at m
 have d:=E.bx
 clear E
 generalize Q:lT _=G at d ⊢
 refine cf Try.func125 r (l8 [(0,Pt j)] ⟨r,y⟩ fun a2=>q (g (s (xi r) (s (xi r) (n (q (g (qE (jV d [[T (⟨#[43]⟩:BA)],[T (⟨#[45]⟩:BA)],[T (⟨#[42]⟩:BA)],[T (⟨#[47]⟩:BA)],[T (⟨#[37]⟩:BA)],[T (⟨#[38]⟩:BA)],[T (⟨#[124]⟩:BA)],[T (⟨#[94]⟩:BA)],[T (⟨#[60]⟩:BA)],[T (⟨#[60,61]⟩:BA)],[T (⟨#[61,61]⟩:BA)],[T (⟨#[33,61]⟩:BA)]] ([(⟨#[43]⟩:BA),(⟨#[45]⟩:BA),(⟨#[42]⟩:BA),(⟨#[47]⟩:BA),(⟨#[37]⟩:BA),(⟨#[38]⟩:BA),(⟨#[124]⟩:BA),(⟨#[94]⟩:BA),(⟨#[60]⟩:BA),(⟨#[60,61]⟩:BA),(⟨#[61,61]⟩:BA),(⟨#[33,61]⟩:BA)]:List BA) (El r r r r r r r r r r r r) r r (by decide) ⟨r,⟨r,⟨r,⟨r,⟨r,⟨r,⟨r,⟨r,⟨r,⟨r,⟨r,⟨r,y⟩⟩⟩⟩⟩⟩⟩⟩⟩⟩⟩⟩) ?_))))))))
 rintro _ S ⟨x,rfl,d⟩
 refine s (nL r) (n (q (g (qE (jV d [[V 3],[V 3],[V 4],[V 4],[V 4],[V 2],[V 2],[V 2],[V 1],[V 1],[V 1],[V 1]] ([3,3,4,4,4,2,2,2,1,1,1,1]:List Int) (Ns r r r r r r r r r r r r) r r (by decide) ⟨r,⟨r,⟨r,⟨r,⟨r,⟨r,⟨r,⟨r,⟨r,⟨r,⟨r,⟨r,y⟩⟩⟩⟩⟩⟩⟩⟩⟩⟩⟩⟩) ?_))))
 rintro _ U ⟨z,rfl,d⟩
 refine s (nL r) (n (q (q (g (s (mH r) (s (lg kM r) (s (mi r) (n ?_))))))))
 have I:=(d.vw 1 1 r r).bd
 obtain ⟨F,a,m⟩:=bs m
 refine oG (fun f w=>Has f []∧Bx t w a1 G [O t.heap.size (ad z) 12 3 Int [[V 3],[V 3],[V 4],[V 4],[V 4],[V 2],[V 2],[V 2],[V 1],[V 1],[V 1],[V 1]],O t.heap.size (ad x) 12 9 BA [[T (⟨#[43]⟩:BA)],[T (⟨#[45]⟩:BA)],[T (⟨#[42]⟩:BA)],[T (⟨#[47]⟩:BA)],[T (⟨#[37]⟩:BA)],[T (⟨#[38]⟩:BA)],[T (⟨#[124]⟩:BA)],[T (⟨#[94]⟩:BA)],[T (⟨#[60]⟩:BA)],[T (⟨#[60,61]⟩:BA)],[T (⟨#[61,61]⟩:BA)],[T (⟨#[33,61]⟩:BA)]],.box j 102 #[Z b i.l c,V i.a,V i.c,V i.e]] [.els [[V 3],[V 3],[V 4],[V 4],[V 4],[V 2],[V 2],[V 2],[V 1],[V 1],[V 1],[V 1]] ([3,3,4,4,4,2,2,2,1,1,1,1]:List Int),.els [[T (⟨#[43]⟩:BA)],[T (⟨#[45]⟩:BA)],[T (⟨#[42]⟩:BA)],[T (⟨#[47]⟩:BA)],[T (⟨#[37]⟩:BA)],[T (⟨#[38]⟩:BA)],[T (⟨#[124]⟩:BA)],[T (⟨#[94]⟩:BA)],[T (⟨#[60]⟩:BA)],[T (⟨#[60,61]⟩:BA)],[T (⟨#[61,61]⟩:BA)],[T (⟨#[33,61]⟩:BA)]] ([(⟨#[43]⟩:BA),(⟨#[45]⟩:BA),(⟨#[42]⟩:BA),(⟨#[47]⟩:BA),(⟨#[37]⟩:BA),(⟨#[38]⟩:BA),(⟨#[124]⟩:BA),(⟨#[94]⟩:BA),(⟨#[60]⟩:BA),(⟨#[60,61]⟩:BA),(⟨#[61,61]⟩:BA),(⟨#[33,61]⟩:BA)]:List BA),.l b c i.l]∧Ld.go ()=F) (fun W A=>?_) ?_
 ·refine oF (kI (fun a3 f w=>∃ (k:Nat),a3=([(⟨#[43]⟩:BA),(⟨#[45]⟩:BA),(⟨#[42]⟩:BA),(⟨#[47]⟩:BA),(⟨#[37]⟩:BA),(⟨#[38]⟩:BA),(⟨#[124]⟩:BA),(⟨#[94]⟩:BA),(⟨#[60]⟩:BA),(⟨#[60,61]⟩:BA),(⟨#[61,61]⟩:BA),(⟨#[33,61]⟩:BA)]:List BA).length - k∧k≤([(⟨#[43]⟩:BA),(⟨#[45]⟩:BA),(⟨#[42]⟩:BA),(⟨#[47]⟩:BA),(⟨#[37]⟩:BA),(⟨#[38]⟩:BA),(⟨#[124]⟩:BA),(⟨#[94]⟩:BA),(⟨#[60]⟩:BA),(⟨#[60,61]⟩:BA),(⟨#[61,61]⟩:BA),(⟨#[33,61]⟩:BA)]:List BA).length∧Has f [(12,V (k:Int)),(0,Pt j),(5,.slice (ad z) ([3,3,4,4,4,2,2,2,1,1,1,1]:List Int).length 12),(10,.slice (ad x) ([(⟨#[43]⟩:BA),(⟨#[45]⟩:BA),(⟨#[42]⟩:BA),(⟨#[47]⟩:BA),(⟨#[37]⟩:BA),(⟨#[38]⟩:BA),(⟨#[124]⟩:BA),(⟨#[94]⟩:BA),(⟨#[60]⟩:BA),(⟨#[60,61]⟩:BA),(⟨#[61,61]⟩:BA),(⟨#[33,61]⟩:BA)]:List BA).length 12),(11,V ((([(⟨#[43]⟩:BA),(⟨#[45]⟩:BA),(⟨#[42]⟩:BA),(⟨#[47]⟩:BA),(⟨#[37]⟩:BA),(⟨#[38]⟩:BA),(⟨#[124]⟩:BA),(⟨#[94]⟩:BA),(⟨#[60]⟩:BA),(⟨#[60,61]⟩:BA),(⟨#[61,61]⟩:BA),(⟨#[33,61]⟩:BA)]:List BA).length:Nat):Int))]∧Bx t w a1 G [O t.heap.size (ad z) 12 3 Int [[V 3],[V 3],[V 4],[V 4],[V 4],[V 2],[V 2],[V 2],[V 1],[V 1],[V 1],[V 1]],O t.heap.size (ad x) 12 9 BA [[T (⟨#[43]⟩:BA)],[T (⟨#[45]⟩:BA)],[T (⟨#[42]⟩:BA)],[T (⟨#[47]⟩:BA)],[T (⟨#[37]⟩:BA)],[T (⟨#[38]⟩:BA)],[T (⟨#[124]⟩:BA)],[T (⟨#[94]⟩:BA)],[T (⟨#[60]⟩:BA)],[T (⟨#[60,61]⟩:BA)],[T (⟨#[61,61]⟩:BA)],[T (⟨#[33,61]⟩:BA)]],.box j 102 #[Z b i.l c,V i.a,V i.c,V i.e]] [.els [[V 3],[V 3],[V 4],[V 4],[V 4],[V 2],[V 2],[V 2],[V 1],[V 1],[V 1],[V 1]] ([3,3,4,4,4,2,2,2,1,1,1,1]:List Int),.els [[T (⟨#[43]⟩:BA)],[T (⟨#[45]⟩:BA)],[T (⟨#[42]⟩:BA)],[T (⟨#[47]⟩:BA)],[T (⟨#[37]⟩:BA)],[T (⟨#[38]⟩:BA)],[T (⟨#[124]⟩:BA)],[T (⟨#[94]⟩:BA)],[T (⟨#[60]⟩:BA)],[T (⟨#[60,61]⟩:BA)],[T (⟨#[61,61]⟩:BA)],[T (⟨#[33,61]⟩:BA)]] ([(⟨#[43]⟩:BA),(⟨#[45]⟩:BA),(⟨#[42]⟩:BA),(⟨#[47]⟩:BA),(⟨#[37]⟩:BA),(⟨#[38]⟩:BA),(⟨#[124]⟩:BA),(⟨#[94]⟩:BA),(⟨#[60]⟩:BA),(⟨#[60,61]⟩:BA),(⟨#[61,61]⟩:BA),(⟨#[33,61]⟩:BA)]:List BA),.l b c i.l]∧sQ fu i (([(⟨#[43]⟩:BA),(⟨#[45]⟩:BA),(⟨#[42]⟩:BA),(⟨#[47]⟩:BA),(⟨#[37]⟩:BA),(⟨#[38]⟩:BA),(⟨#[124]⟩:BA),(⟨#[94]⟩:BA),(⟨#[60]⟩:BA),(⟨#[60,61]⟩:BA),(⟨#[61,61]⟩:BA),(⟨#[33,61]⟩:BA)]:List BA).drop k) k=some F) (([(⟨#[43]⟩:BA),(⟨#[45]⟩:BA),(⟨#[42]⟩:BA),(⟨#[47]⟩:BA),(⟨#[37]⟩:BA),(⟨#[38]⟩:BA),(⟨#[124]⟩:BA),(⟨#[94]⟩:BA),(⟨#[60]⟩:BA),(⟨#[60,61]⟩:BA),(⟨#[61,61]⟩:BA),(⟨#[33,61]⟩:BA)]:List BA).length) ⟨0,r,Nat.zero_le _,⟨r,r,r,r,r,y⟩,d,a⟩ ?_)
  clear d a
  rintro a3 f w ⟨k,rfl,J,hf,d,a⟩ X B
  obtain ⟨a2,rfl⟩:=gP _ _ hf
  clear hf
  rcases Nat.lt_or_ge k ([(⟨#[43]⟩:BA),(⟨#[45]⟩:BA),(⟨#[42]⟩:BA),(⟨#[47]⟩:BA),(⟨#[37]⟩:BA),(⟨#[38]⟩:BA),(⟨#[124]⟩:BA),(⟨#[94]⟩:BA),(⟨#[60]⟩:BA),(⟨#[60,61]⟩:BA),(⟨#[61,61]⟩:BA),(⟨#[33,61]⟩:BA)]:List BA).length with u | u
  ·obtain ⟨K,p⟩:=lL (l:=([(⟨#[43]⟩:BA),(⟨#[45]⟩:BA),(⟨#[42]⟩:BA),(⟨#[47]⟩:BA),(⟨#[37]⟩:BA),(⟨#[38]⟩:BA),(⟨#[124]⟩:BA),(⟨#[94]⟩:BA),(⟨#[60]⟩:BA),(⟨#[60,61]⟩:BA),(⟨#[61,61]⟩:BA),(⟨#[33,61]⟩:BA)]:List BA)) u
   rw [mO p,sQ] at a
   refine q (g (s (qQ r r (by omega)) (n (q (jH r (wk (q (oF (q (g (s (mi r) (s (kZ kM qc r r r (d.vw 1 1 r r) p) (s (kC uk r r ((vB (ds:=[T K]) (d.vw 1 1 r r) p (fun _ h=>h)) 0 _ r)) (s (xi r) (s (mZ r) (n (q (g (s (mp r) (s (lh r) ?_))))))))))))))))))))
   obtain ⟨H,L,a⟩:=bs a
   refine sc (ec wD r) (nQ fu (d.pr [2] [0,1] [2] r) L) ?_
   rintro _ Y ⟨rfl,M⟩
   replace d:=d.cn [2] [0,1] M
   refine n ?_
   rcases iv a with ⟨v,a⟩|⟨v,a⟩
   ·refine jH (cb v) (q (g (s (mH r) (s (mi r) ?_))))
    obtain ⟨N,o,a⟩:=bs a
    obtain ⟨k6,C,o⟩:=kG o
    refine s (kZ vz pI r r C (d.vw 1 1 r r) o) (s (kC E8 r r ((vB (ds:=[V N]) (d.vw 1 1 r r) o (fun _ h=>h)) 0 _ r)) (s (mi r) (s (kN r r) (s (xi r) (s (xi r) (n (kP ?_)))))))
    obtain rfl:=sm a
    replace m:=oi m
    obtain rfl:=sm m
    exact rE r (kT r) (kT r) (lw (⟨r,(d.ad [0] [3])⟩))
   replace v:=nt v
   exact jI (cb v) (wk (g (s (ma r r (by omega) (by omega)) (s (mi r) (n (B (([(⟨#[43]⟩:BA),(⟨#[45]⟩:BA),(⟨#[42]⟩:BA),(⟨#[47]⟩:BA),(⟨#[37]⟩:BA),(⟨#[38]⟩:BA),(⟨#[124]⟩:BA),(⟨#[94]⟩:BA),(⟨#[60]⟩:BA),(⟨#[60,61]⟩:BA),(⟨#[61,61]⟩:BA),(⟨#[33,61]⟩:BA)]:List BA).length - (k+1)) _ _ (by omega) ⟨k+1,r,by omega,⟨r,r,r,r,r,y⟩,(d.ad [1,2,0] [1,2,3]),a⟩))))))
  obtain rfl:k=([(⟨#[43]⟩:BA),(⟨#[45]⟩:BA),(⟨#[42]⟩:BA),(⟨#[47]⟩:BA),(⟨#[37]⟩:BA),(⟨#[38]⟩:BA),(⟨#[124]⟩:BA),(⟨#[94]⟩:BA),(⟨#[60]⟩:BA),(⟨#[60,61]⟩:BA),(⟨#[61,61]⟩:BA),(⟨#[33,61]⟩:BA)]:List BA).length:=by omega
  rw [lI,sQ] at a
  exact q (g (s (qH r r (by omega)) (n (q (jI r (ve (A _ _ ⟨y,d,sm a⟩)))))))
 clear d
 rintro f w ⟨hf,d,D⟩
 obtain ⟨a2,rfl⟩:=gP _ _ hf
 clear hf
 subst D
 replace m:=gi m
 refine q (g (s (xi r) (s (xi r) (n (kP ?_)))))
 obtain rfl:=sm m
 exact rE r (kT r) (kT r) (lw (⟨r,(d.ad [2] [2])⟩))
def KS (m:jy→Option (Bool)):Prop:=∀ {f:World} {i:Nat→Prop} {c:jy} {d:Nat} {a:Option Addr} {b:Nat} {h:Bool},Pre f i [.box d 102 #[Z a c.l b,V c.a,V c.c,V c.e]] [.l a b c.l]→m c=some h→
 Calls Try.prog 126 #[Pt d] f (rA fun v w=>v=.bool h∧Bx f w i (lT [.box d 102 #[Z a c.l b,V c.a,V c.c,V c.e]]) [.box d 102 #[Z a c.l b,V c.a,V c.c,V c.e]] [.l a b c.l])
def uQ (fu:Nat)(c:jy):Option (Bool):=
 (qx fu c 0 1).bind fun a=>
 if a=true then
  (ng fu c 1 (⟨#[40]⟩:BA)).bind fun b=>
  some b
 else
  some false
theorem ER (fu:Nat):KS (uQ fu):=by
 intro u A i f c d v k b
 unfold uQ at b
 have a:=k.bx
 clear k
 generalize w:lT _=G at a ⊢
 refine cf Try.func126 r (l8 [(0,Pt f)] ⟨r,y⟩ fun B=>q (g (s (jT r) (n (q (g (s (mp r) ?_)))))))
 obtain ⟨m,p,b⟩:=bs b
 refine sc (ec D7 r) (um fu (a.pr [0] [] [0] r) p) ?_
 rintro _ x ⟨rfl,j⟩
 replace a:=a.cn [0] [] j
 refine s (jY r) ?_
 rcases iv b with ⟨h,b⟩|⟨h,b⟩
 ·rw [h]
  refine jW r (s (mp r) ?_)
  obtain ⟨o,t,b⟩:=bs b
  refine jW r (sc (ec wD r) (nQ fu (a.pr [0] [] [1] r) t) ?_)
  rintro _ z ⟨rfl,j⟩
  replace a:=a.cn [0] [] j
  refine s (jO r r) (s (jT r) (n (kP ?_)))
  obtain rfl:=sm b
  exact jC r (kT r) ⟨r,(a.dp [2])⟩
 replace h:=nt h
 rw [h]
 refine jB r (jB r (s (jZ r r) (s (jT r) (n (kP ?_)))))
 obtain rfl:=sm b
 exact jC r (kT r) ⟨r,(a.dp [1])⟩
def Im (m:jy→Option (Bool)):Prop:=∀ {f:World} {i:Nat→Prop} {c:jy} {d:Nat} {a:Option Addr} {b:Nat} {h:Bool},Pre f i [.box d 102 #[Z a c.l b,V c.a,V c.c,V c.e]] [.l a b c.l]→m c=some h→
 Calls Try.prog 93 #[Pt d] f (rA fun v w=>v=.bool h∧Bx f w i (lT [.box d 102 #[Z a c.l b,V c.a,V c.c,V c.e]]) [.box d 102 #[Z a c.l b,V c.a,V c.c,V c.e]] [.l a b c.l])
def qZ (fu:Nat)(b:jy):List BA→Nat→Option (Ld (Unit) (Bool))
 | [],_=>some (.go ())
 | c :: d,e=>
 (ng fu b 0 c).bind fun a=>
 if a=true then
  some (.out true)
 else
  qZ fu b d (e+1)
def xL (fu:Nat)(b:jy):Option (Bool):=
 (qZ fu b ([(⟨#[118,97,114]⟩:BA),(⟨#[105,102]⟩:BA),(⟨#[119,104,105,108,101]⟩:BA),(⟨#[114,101,116,117,114,110]⟩:BA),(⟨#[116,104,114,111,119]⟩:BA),(⟨#[116,114,121]⟩:BA),(⟨#[112,114,105,110,116]⟩:BA)]:List BA) 0).bind fun c=>c.el (fun _=>
 (qx fu b 0 1).bind fun a=>
 some a
 ) (fun o=>some o)
theorem H6 (fu:Nat):Im (xL fu):=by
 intro u X i j b c M C k
 unfold xL at k
 have d:=C.bx
 clear C
 generalize N:lT _=G at d ⊢
 refine cf Try.func93 r (l8 [(0,Pt j)] ⟨r,y⟩ fun Y=>q (g (s (jT r) (n (q (q (g (qE (jV d [[T (⟨#[118,97,114]⟩:BA)],[T (⟨#[105,102]⟩:BA)],[T (⟨#[119,104,105,108,101]⟩:BA)],[T (⟨#[114,101,116,117,114,110]⟩:BA)],[T (⟨#[116,104,114,111,119]⟩:BA)],[T (⟨#[116,114,121]⟩:BA)],[T (⟨#[112,114,105,110,116]⟩:BA)]] ([(⟨#[118,97,114]⟩:BA),(⟨#[105,102]⟩:BA),(⟨#[119,104,105,108,101]⟩:BA),(⟨#[114,101,116,117,114,110]⟩:BA),(⟨#[116,104,114,111,119]⟩:BA),(⟨#[116,114,121]⟩:BA),(⟨#[112,114,105,110,116]⟩:BA)]:List BA) (OE r r r r r r r) r r (by decide) ⟨r,⟨r,⟨r,⟨r,⟨r,⟨r,⟨r,y⟩⟩⟩⟩⟩⟩⟩) ?_))))))))
 rintro _ Q ⟨v,rfl,d⟩
 refine s (lg kM r) (s (mi r) (n ?_))
 have H:=(d.vw 0 0 r r).bd
 obtain ⟨D,a,k⟩:=bs k
 refine oG (fun f w=>Has f [(0,Pt j)]∧Bx u w X G [O u.heap.size (ad v) 7 9 BA [[T (⟨#[118,97,114]⟩:BA)],[T (⟨#[105,102]⟩:BA)],[T (⟨#[119,104,105,108,101]⟩:BA)],[T (⟨#[114,101,116,117,114,110]⟩:BA)],[T (⟨#[116,104,114,111,119]⟩:BA)],[T (⟨#[116,114,121]⟩:BA)],[T (⟨#[112,114,105,110,116]⟩:BA)]],.box j 102 #[Z b i.l c,V i.a,V i.c,V i.e]] [.els [[T (⟨#[118,97,114]⟩:BA)],[T (⟨#[105,102]⟩:BA)],[T (⟨#[119,104,105,108,101]⟩:BA)],[T (⟨#[114,101,116,117,114,110]⟩:BA)],[T (⟨#[116,104,114,111,119]⟩:BA)],[T (⟨#[116,114,121]⟩:BA)],[T (⟨#[112,114,105,110,116]⟩:BA)]] ([(⟨#[118,97,114]⟩:BA),(⟨#[105,102]⟩:BA),(⟨#[119,104,105,108,101]⟩:BA),(⟨#[114,101,116,117,114,110]⟩:BA),(⟨#[116,104,114,111,119]⟩:BA),(⟨#[116,114,121]⟩:BA),(⟨#[112,114,105,110,116]⟩:BA)]:List BA),.l b c i.l]∧Ld.go ()=D) (fun R x=>?_) ?_
 ·refine oF (kI (fun a0 f w=>∃ (m:Nat),a0=([(⟨#[118,97,114]⟩:BA),(⟨#[105,102]⟩:BA),(⟨#[119,104,105,108,101]⟩:BA),(⟨#[114,101,116,117,114,110]⟩:BA),(⟨#[116,104,114,111,119]⟩:BA),(⟨#[116,114,121]⟩:BA),(⟨#[112,114,105,110,116]⟩:BA)]:List BA).length - m∧m≤([(⟨#[118,97,114]⟩:BA),(⟨#[105,102]⟩:BA),(⟨#[119,104,105,108,101]⟩:BA),(⟨#[114,101,116,117,114,110]⟩:BA),(⟨#[116,104,114,111,119]⟩:BA),(⟨#[116,114,121]⟩:BA),(⟨#[112,114,105,110,116]⟩:BA)]:List BA).length∧Has f [(7,V (m:Int)),(0,Pt j),(5,.slice (ad v) ([(⟨#[118,97,114]⟩:BA),(⟨#[105,102]⟩:BA),(⟨#[119,104,105,108,101]⟩:BA),(⟨#[114,101,116,117,114,110]⟩:BA),(⟨#[116,104,114,111,119]⟩:BA),(⟨#[116,114,121]⟩:BA),(⟨#[112,114,105,110,116]⟩:BA)]:List BA).length 7),(6,V ((([(⟨#[118,97,114]⟩:BA),(⟨#[105,102]⟩:BA),(⟨#[119,104,105,108,101]⟩:BA),(⟨#[114,101,116,117,114,110]⟩:BA),(⟨#[116,104,114,111,119]⟩:BA),(⟨#[116,114,121]⟩:BA),(⟨#[112,114,105,110,116]⟩:BA)]:List BA).length:Nat):Int))]∧Bx u w X G [O u.heap.size (ad v) 7 9 BA [[T (⟨#[118,97,114]⟩:BA)],[T (⟨#[105,102]⟩:BA)],[T (⟨#[119,104,105,108,101]⟩:BA)],[T (⟨#[114,101,116,117,114,110]⟩:BA)],[T (⟨#[116,104,114,111,119]⟩:BA)],[T (⟨#[116,114,121]⟩:BA)],[T (⟨#[112,114,105,110,116]⟩:BA)]],.box j 102 #[Z b i.l c,V i.a,V i.c,V i.e]] [.els [[T (⟨#[118,97,114]⟩:BA)],[T (⟨#[105,102]⟩:BA)],[T (⟨#[119,104,105,108,101]⟩:BA)],[T (⟨#[114,101,116,117,114,110]⟩:BA)],[T (⟨#[116,104,114,111,119]⟩:BA)],[T (⟨#[116,114,121]⟩:BA)],[T (⟨#[112,114,105,110,116]⟩:BA)]] ([(⟨#[118,97,114]⟩:BA),(⟨#[105,102]⟩:BA),(⟨#[119,104,105,108,101]⟩:BA),(⟨#[114,101,116,117,114,110]⟩:BA),(⟨#[116,104,114,111,119]⟩:BA),(⟨#[116,114,121]⟩:BA),(⟨#[112,114,105,110,116]⟩:BA)]:List BA),.l b c i.l]∧qZ fu i (([(⟨#[118,97,114]⟩:BA),(⟨#[105,102]⟩:BA),(⟨#[119,104,105,108,101]⟩:BA),(⟨#[114,101,116,117,114,110]⟩:BA),(⟨#[116,104,114,111,119]⟩:BA),(⟨#[116,114,121]⟩:BA),(⟨#[112,114,105,110,116]⟩:BA)]:List BA).drop m) m=some D) (([(⟨#[118,97,114]⟩:BA),(⟨#[105,102]⟩:BA),(⟨#[119,104,105,108,101]⟩:BA),(⟨#[114,101,116,117,114,110]⟩:BA),(⟨#[116,104,114,111,119]⟩:BA),(⟨#[116,114,121]⟩:BA),(⟨#[112,114,105,110,116]⟩:BA)]:List BA).length) ⟨0,r,Nat.zero_le _,⟨r,r,r,r,y⟩,d,a⟩ ?_)
  clear d a
  rintro a0 f w ⟨m,rfl,I,hf,d,a⟩ S z
  obtain ⟨Y,rfl⟩:=gP _ _ hf
  clear hf
  rcases Nat.lt_or_ge m ([(⟨#[118,97,114]⟩:BA),(⟨#[105,102]⟩:BA),(⟨#[119,104,105,108,101]⟩:BA),(⟨#[114,101,116,117,114,110]⟩:BA),(⟨#[116,104,114,111,119]⟩:BA),(⟨#[116,114,121]⟩:BA),(⟨#[112,114,105,110,116]⟩:BA)]:List BA).length with p | p
  ·obtain ⟨J,o⟩:=lL (l:=([(⟨#[118,97,114]⟩:BA),(⟨#[105,102]⟩:BA),(⟨#[119,104,105,108,101]⟩:BA),(⟨#[114,101,116,117,114,110]⟩:BA),(⟨#[116,104,114,111,119]⟩:BA),(⟨#[116,114,121]⟩:BA),(⟨#[112,114,105,110,116]⟩:BA)]:List BA)) p
   rw [mO o,qZ] at a
   refine q (g (s (qQ r r (by omega)) (n (q (jH r (wk (q (oF (q (g (s (kZ kM qc r r r (d.vw 0 0 r r) o) (s (kC uk r r ((vB (ds:=[T J]) (d.vw 0 0 r r) o (fun _ h=>h)) 0 _ r)) (s (mZ r) (n (q (g (s (mp r) (s (lh r) ?_))))))))))))))))))
   obtain ⟨E,K,a⟩:=bs a
   refine sc (ec wD r) (nQ fu (d.pr [1] [0] [1] r) K) ?_
   rintro _ U ⟨rfl,A⟩
   replace d:=d.cn [1] [0] A
   refine n ?_
   rcases iv a with ⟨t,a⟩|⟨t,a⟩
   ·refine jH (cb t) (q (g (s (jT r) (n (kP ?_)))))
    obtain rfl:=sm a
    replace k:=oi k
    obtain rfl:=sm k
    exact jC r (kT r) ⟨r,(d.ad [0] [2])⟩
   replace t:=nt t
   exact jI (cb t) (wk (g (s (ma r r (by omega) (by omega)) (s (mi r) (n (z (([(⟨#[118,97,114]⟩:BA),(⟨#[105,102]⟩:BA),(⟨#[119,104,105,108,101]⟩:BA),(⟨#[114,101,116,117,114,110]⟩:BA),(⟨#[116,104,114,111,119]⟩:BA),(⟨#[116,114,121]⟩:BA),(⟨#[112,114,105,110,116]⟩:BA)]:List BA).length - (m+1)) _ _ (by omega) ⟨m+1,r,by omega,⟨r,r,r,r,y⟩,(d.ad [1,0] [1,2]),a⟩))))))
  obtain rfl:m=([(⟨#[118,97,114]⟩:BA),(⟨#[105,102]⟩:BA),(⟨#[119,104,105,108,101]⟩:BA),(⟨#[114,101,116,117,114,110]⟩:BA),(⟨#[116,104,114,111,119]⟩:BA),(⟨#[116,114,121]⟩:BA),(⟨#[112,114,105,110,116]⟩:BA)]:List BA).length:=by omega
  rw [lI,qZ] at a
  exact q (g (s (qH r r (by omega)) (n (q (jI r (ve (x _ _ ⟨⟨r,y⟩,d,sm a⟩)))))))
 clear d
 rintro f w ⟨hf,d,B⟩
 obtain ⟨Y,rfl⟩:=gP _ _ hf
 clear hf
 subst B
 replace k:=gi k
 refine q (g (s (mp r) ?_))
 obtain ⟨F,L,k⟩:=bs k
 refine sc (ec D7 r) (um fu (d.pr [1] [0] [1] r) L) ?_
 rintro _ W ⟨rfl,A⟩
 replace d:=d.cn [1] [0] A
 refine s (jT r) (n (kP ?_))
 obtain rfl:=sm k
 exact jC r (kT r) ⟨r,(d.ad [0] [2])⟩
abbrev nR:=jy→Int→Int→Option (jL × jy)
abbrev rY:=jy→Int→Option (jL × jy)
abbrev qz:=jy→Int→Option (jL × jy)
def qW (m:jy→Int→Int→Option (Ge × jy)):Prop:=∀ {k:World} {t:Nat→Prop} {h:jy} {o:Int} {p:Int} {i:Nat} {a:Option Addr} {b:Nat} {R:Ge × jy},Pre k t [.box i 102 #[Z a h.l b,V h.a,V h.c,V h.e]] [.l a b h.l]→m h o p=some R→
 Calls Try.prog 112 #[Pt i,V o,V p] k (rA fun v w=>iA R fun j c=>∃ (d:OA)(f:Nat),v=.agg #[V j.e,V j.d,V j.j,T j.a,T j.c,Z d j.b f]∧Bx k w t (lT [.box i 102 #[Z a h.l b,V h.a,V h.c,V h.e]]) [.box i 102 #[Z a c.l b,V c.a,V c.c,V c.e]] [.l d f j.b,.l a b c.l])
def xQ (m:jy→Int→Option (Ge × jy)):Prop:=∀ {k:World} {p:Nat→Prop} {h:jy} {o:Int} {i:Nat} {a:Option Addr} {b:Nat} {R:Ge × jy},Pre k p [.box i 102 #[Z a h.l b,V h.a,V h.c,V h.e]] [.l a b h.l]→m h o=some R→
 Calls Try.prog 124 #[Pt i,V o] k (rA fun v w=>iA R fun j c=>∃ (d:OA)(f:Nat),v=.agg #[V j.e,V j.d,V j.j,T j.a,T j.c,Z d j.b f]∧Bx k w p (lT [.box i 102 #[Z a h.l b,V h.a,V h.c,V h.e]]) [.box i 102 #[Z a c.l b,V c.a,V c.c,V c.e]] [.l d f j.b,.l a b c.l])
def vo (m:jy→Int→Option (Ge × jy)):Prop:=∀ {k:World} {p:Nat→Prop} {h:jy} {o:Int} {i:Nat} {a:Option Addr} {b:Nat} {R:Ge × jy},Pre k p [.box i 102 #[Z a h.l b,V h.a,V h.c,V h.e]] [.l a b h.l]→m h o=some R→
 Calls Try.prog 128 #[Pt i,V o] k (rA fun v w=>iA R fun j c=>∃ (d:OA)(f:Nat),v=.agg #[V j.e,V j.d,V j.j,T j.a,T j.c,Z d j.b f]∧Bx k w p (lT [.box i 102 #[Z a h.l b,V h.a,V h.c,V h.e]]) [.box i 102 #[Z a c.l b,V c.a,V c.c,V c.e]] [.l d f j.b,.l a b c.l])
def uC (fu:Nat)(r_r03_expression:nR) (r_r03_unary:rY) (r_r03_target:qz) (f:jy) (h:Int)(i:Int):Option (Ld (Int × Int × Int × BA × BA × List Ge × List kv × Int × Int × Int) (Ge × jy)):=
 if h=5 then
  (r_r03_unary f i).bind fun j=>
  iA j fun a c=>
  some (.go (a.e,a.d,a.j,a.a,a.c,a.b,c.l,c.a,c.c,c.e))
 else
  (r_r03_expression f (wr (h+1)) i).bind fun j=>
  iA j fun b d=>
  some (.go (b.e,b.d,b.j,b.a,b.c,b.b,d.l,d.a,d.c,d.e))
def qh (fu:Nat)(r_r03_expression:nR) (r_r03_unary:rY) (r_r03_target:qz) (v:Int)(w:Int):Nat→Int→Int→Int→BA→BA→(List Ge)→(List kv)→Int→Int→Int→Option (Ld (Int × Int × Int × BA × BA × List Ge × List kv × Int × Int × Int) (Ge × jy))
 | 0,_,_,_,_,_,_,_,_,_,_=>none
 | x+1,c,d,f,h,i,j,k,m,o,a=>
 if a=0 then
  if v < 5 then
   (zu fu (⟨k,m,o,a⟩:jy)).bind fun z=>
   iA z fun u p=>
   if u≠v then
    some (.out ((⟨c,d,f,h,i,j⟩:Ge),(⟨k,m,o,a⟩:jy)))
   else
    (r_r03_expression (⟨k,(wr (m+1)),o,a⟩:jy) (wr (v+1)) w).bind fun z=>
    iA z fun t b=>
    if v=1 then
     some (.out ((⟨p,0,0,be,be,([(⟨c,d,f,h,i,j⟩:Ge),t]:List Ge)⟩:Ge),b))
    else
     qh fu r_r03_expression r_r03_unary r_r03_target v w x p 0 0 be be ([(⟨c,d,f,h,i,j⟩:Ge),t]:List Ge) b.l b.a b.c b.e
  else
   some (.go (c,d,f,h,i,j,k,m,o,a))
 else
  some (.go (c,d,f,h,i,j,k,m,o,a))
def uH (fu:Nat)(r_r03_expression:nR) (r_r03_unary:rY) (r_r03_target:qz) (D:jy) (B:Int)(C:Int):Option (Ge × jy):=
 (uC fu r_r03_expression r_r03_unary r_r03_target D B C).bind fun E=>E.el (fun E=>
 iA E fun c E=>iA E fun d E=>iA E fun e E=>iA E fun f E=>iA E fun h E=>iA E fun i E=>iA E fun j E=>iA E fun k E=>iA E fun l a=>
 (qh fu r_r03_expression r_r03_unary r_r03_target B C fu c d e f h i j k l a).bind fun E=>E.el (fun E=>
 iA E fun m E=>iA E fun p E=>iA E fun t E=>iA E fun u E=>iA E fun v E=>iA E fun w E=>iA E fun x E=>iA E fun z E=>iA E fun A b=>
 some ((⟨m,p,t,u,v,w⟩:Ge),(⟨x,z,A,b⟩:jy))
 ) (fun o=>some o)
 ) (fun o=>some o)
def sV (fu:Nat)(r_r03_expression:nR) (r_r03_unary:rY) (r_r03_target:qz) (d:jy) (j:Int):List BA→Nat→Option (Ld (Unit) (Ge × jy))
 | [],_=>some (.go ())
 | h :: i,f=>
 (ng fu d 0 h).bind fun a=>
 if a=true then
  (r_r03_unary (⟨d.l,(wr (d.a+1)),d.c,d.e⟩:jy) (wr (j+1))).bind fun k=>
  iA k fun b c=>
  some (.out ((⟨(wr (4+(f:Int))),0,0,be,be,([b]:List Ge)⟩:Ge),c))
 else
  sV fu r_r03_expression r_r03_unary r_r03_target d j i (f+1)
def zq (fu:Nat)(r_r03_expression:nR) (r_r03_unary:rY) (r_r03_target:qz) (a:jy) (t:Int):Option (Ge × jy):=
 if a.e≠0 then
  some ((⟨0,0,0,be,be,([]:List Ge)⟩:Ge),a)
 else
  (x9 fu a).bind fun m=>
  if (!m)=true then
   (qy fu a 7).bind fun p=>
   some ((⟨0,0,0,be,be,([]:List Ge)⟩:Ge),p)
  else
   if 8 < t then
    (qy fu a 5).bind fun b=>
    some ((⟨0,0,0,be,be,([]:List Ge)⟩:Ge),b)
   else
    (sV fu r_r03_expression r_r03_unary r_r03_target a t ([(⟨#[45]⟩:BA),(⟨#[33]⟩:BA)]:List BA) 0).bind fun v=>v.el (fun _=>
    (qx fu a 0 2).bind fun c=>
    if c=true then
     (ix a.l (wr ((wr (a.a+1)) - 1))).bind fun u=>
     some ((⟨0,u.d,0,be,be,([]:List Ge)⟩:Ge),(⟨a.l,(wr (a.a+1)),a.c,a.e⟩:jy))
    else
     (ng fu a 0 (⟨#[40]⟩:BA)).bind fun d=>
     if d=true then
      (r_r03_expression (⟨a.l,(wr (a.a+1)),a.c,a.e⟩:jy) 1 (wr (t+1))).bind fun v=>
      iA v fun f h=>
      (lY fu h (⟨#[41]⟩:BA)).bind fun i=>
      some (f,i)
     else
      (r_r03_target a t).bind fun v=>
      iA v fun j k=>
      some (j,k)
    ) (fun o=>some o)
def wR (fu:Nat)(r_r03_expression:nR) (r_r03_unary:rY) (r_r03_target:qz) (b:BA) (a:jy):Option (Ld (Unit) (Ge × jy)):=
 if a.e=0 then
  (ng fu a 0 (⟨#[46]⟩:BA)).bind fun c=>
  if c=true then
   (pV fu (⟨a.l,(wr (a.a+1)),a.c,a.e⟩:jy)).bind fun h=>
   iA h fun d f=>
   some (.out ((⟨2,0,0,b,d,([]:List Ge)⟩:Ge),f))
  else
   some (.go ())
 else
  some (.go ())
def yg (fu:Nat)(r_r03_expression:nR) (r_r03_unary:rY) (r_r03_target:qz) (i:jy) (j:Int):Option (Ge × jy):=
 (pV fu i).bind fun k=>
 iA k fun b a=>
 (wR fu r_r03_expression r_r03_unary r_r03_target b a).bind fun k=>k.el (fun _=>
 if a.e=0 then
  (ng fu a 0 (⟨#[91]⟩:BA)).bind fun c=>
  if c=true then
   (r_r03_expression (⟨a.l,(wr (a.a+1)),a.c,a.e⟩:jy) 1 (wr (j+1))).bind fun k=>
   iA k fun d f=>
   (lY fu f (⟨#[93]⟩:BA)).bind fun h=>
   some ((⟨3,0,0,b,be,([d]:List Ge)⟩:Ge),h)
  else
   some ((⟨1,0,0,b,be,([]:List Ge)⟩:Ge),a)
 else
  some ((⟨1,0,0,b,be,([]:List Ge)⟩:Ge),a)
 ) (fun o=>some o)
def lS:Nat→(jy→Int→Int→Option (Ge × jy)) × (jy→Int→Option (Ge × jy)) × (jy→Int→Option (Ge × jy))
 | 0=>((fun _ _ _=>none),(fun _ _=>none),(fun _ _=>none))
 | fu+1=>(uH fu ((lS fu).1) ((lS fu).2.1) ((lS fu).2.2),zq fu ((lS fu).1) ((lS fu).2.1) ((lS fu).2.2),yg fu ((lS fu).1) ((lS fu).2.1) ((lS fu).2.2))
def mJ (fu:Nat):=(lS fu).1
def zC (fu:Nat):=(lS fu).2.1
def uO (fu:Nat):=(lS fu).2.2
theorem DW (fu:Nat)(r_r03_expression:nR) (r_r03_unary:rY) (r_r03_target:qz) (H_r03_expression:qW r_r03_expression) (H_r03_unary:xQ r_r03_unary) (H_r03_target:vo r_r03_target):qW (uH fu r_r03_expression r_r03_unary r_r03_target):=by
 intro w0 b0 x0 x1 x2 a1 E F R hP z
 unfold uH at z
 have d:=hP.bx
 clear hP
 generalize hG:lT _=G at d ⊢
 refine cf Try.func112 r ?_
 refine l8 [(0,Pt a1),(1,V x1),(2,V x2)] ⟨r,r,r,y⟩ fun b3=>?_
 refine q (g (tH d (ko jS) fun w1 b1 d=>?_))
 refine n (q (g (tH d (ko jS) fun w2 b2 d=>?_)))
 refine n (q ?_)
 obtain ⟨Y3,J,z⟩:=bs z
 refine oG (fun f w=>∃ (a3:Int)(a4:Int)(a5:Int)(a6:BA) (a7:BA) (Y:List Ge) (S:OA)(U:Nat)(a0:List kv) (a8:Int)(a9:Int)(W:Int),Has f [(0,Pt a1),(1,V x1),(2,V x2),(6,Pt b1),(7,Pt b2)]∧Bx w0 w b0 G [.box b2 138 #[V a3,V a4,V a5,T a6,T a7,Z S Y U],.box b1 138 #[V 0,V 0,V 0,T be,T be,sn],.box a1 102 #[Z E a0 F,V a8,V a9,V W]] [.l S U Y,.l E F a0]∧Ld.go (a3,a4,a5,a6,a7,Y,a0,a8,a9,W)=Y3) (fun J3 ak=>?_) ?_
 ·unfold uC at J
  refine q (g (s (mi r) (s (kK r r) (n ?_))))
  rcases iv J with ⟨h4,J⟩|⟨h4,J⟩
  ·refine jH (bt h4) (g (s (mp r) (s (mi r) ?_)))
   obtain ⟨v,aa,h5,J⟩:=lV J
   refine sc (ec OU r) (H_r03_unary (d.pr [2] [0,1] [0] r) h5) ?_
   rintro _ w5 ⟨L,M,rfl,hK⟩
   replace d:=d.cn [2] [0,1] hK
   refine lu (nE d 1 [V v.e,V v.d,V v.j,T v.a,T v.c,Z L v.b M] r jS r r) fun w6 d=>?_
   refine n ?_
   exact ak _ _ ⟨v.e,v.d,v.j,v.a,v.c,v.b,L,M,aa.l,aa.a,aa.c,aa.e,⟨r,r,r,r,r,y⟩,(d.ad [1,2,0] [0,1]),sm J⟩
  refine jI (bf h4) (g (s (mp r) (s (mi r) (s (kN r r) (s (mi r) ?_)))))
  obtain ⟨x,ab,h7,J⟩:=lV J
  refine sc (ec Bl r) (H_r03_expression (d.pr [2] [0,1] [0] r) h7) ?_
  rintro _ w7 ⟨N,Q,rfl,hK⟩
  replace d:=d.cn [2] [0,1] hK
  refine lu (nE d 1 [V x.e,V x.d,V x.j,T x.a,T x.c,Z N x.b Q] r jS r r) fun w8 d=>?_
  refine n ?_
  exact ak _ _ ⟨x.e,x.d,x.j,x.a,x.c,x.b,N,Q,ab.l,ab.a,ab.c,ab.e,⟨r,r,r,r,r,y⟩,(d.ad [1,2,0] [0,1]),sm J⟩
 clear d
 rintro f w ⟨a3,a4,a5,a6,a7,Y,S,U,a0,a8,a9,W,hf,d,au⟩
 obtain ⟨b3,rfl⟩:=gP _ _ hf
 clear hf
 subst au
 replace z:=gi z
 replace z:=mf (mf (mf z))
 refine q ?_
 obtain ⟨Y9,u,z⟩:=bs z
 refine oG (fun f w=>∃ (j:Int)(m:Int)(o:Int)(p:BA) (t:BA) (h:List Ge) (b:OA)(c:Nat)(D:List kv) (H:Int)(I:Int)(A:Int),Has f [(6,Pt b1),(7,Pt b2)]∧Bx w0 w b0 G [.box b2 138 #[V j,V m,V o,T p,T t,Z b h c],.box b1 138 #[V 0,V 0,V 0,T be,T be,sn],.box a1 102 #[Z E D F,V H,V I,V A]] [.l b c h,.l E F D]∧Ld.go (j,m,o,p,t,h,D,H,I,A)=Y9) (fun J9 al=>?_) ?_
 ·refine oF (kI (fun b4 f w=>∃ (j:Int)(m:Int)(o:Int)(p:BA) (t:BA) (h:List Ge) (b:OA)(c:Nat)(D:List kv) (H:Int)(I:Int)(A:Int),Has f [(0,Pt a1),(1,V x1),(2,V x2),(6,Pt b1),(7,Pt b2)]∧Bx w0 w b0 G [.box b2 138 #[V j,V m,V o,T p,T t,Z b h c],.box b1 138 #[V 0,V 0,V 0,T be,T be,sn],.box a1 102 #[Z E D F,V H,V I,V A]] [.l b c h,.l E F D]∧qh fu r_r03_expression r_r03_unary r_r03_target x1 x2 b4 j m o p t h D H I A=some Y9) fu ⟨a3,a4,a5,a6,a7,Y,S,U,a0,a8,a9,W,⟨r,r,r,r,r,y⟩,d,u⟩ ?_)
  clear d u
  rintro n9 f w ⟨j,m,o,p,t,h,b,c,D,H,I,A,hf,d,u⟩ K9 aw
  obtain ⟨b3,rfl⟩:=gP _ _ hf
  clear hf
  cases n9 with
  | zero=>exact nn u
  | succ n9=>
   rw [qh] at u
   refine q (q (g (s (mp r) (s (xn r) (s (tJ r) (s (CU r (d.bk 2 r) r) (s (kK r r) (s (jY r) ?_))))))))
   rcases iv u with ⟨ae,u⟩|⟨ae,u⟩
   ·rw [decide_eq_true ae]
    refine jW r (s (mi r) (jW r (s (qR r r) (s (jO r r) (n ?_)))))
    rcases iv u with ⟨af,u⟩|⟨af,u⟩
    ·refine jH (bt af) (wk (oF (q (g (s (mp r) ?_)))))
     obtain ⟨ax,K,ay,u⟩:=lV u
     refine sc (ec Rb r) (JM fu (d.pr [2] [0,1] [1] r) ay) ?_
     rintro _ aG ⟨rfl,hK⟩
     replace d:=d.cn [2] [0,1] hK
     refine s pK (s (jN r r) (s (jN r r) (s (xi r) (s (xi r) (n (q (q (g (s (mi r) (s (mi r) (s (mI r r) (n ?_))))))))))))
     rcases iv u with ⟨ag,u⟩|⟨ag,u⟩
     ·refine jH (bt ag) (q (g (s (mD [V j,V m,V o,T p,T t,Z b h c] mr jS r (d.bk 1 r)) (lu (nE d 2 [V j,V m,V o,T p,T t,Z b h c] r jS r r) fun aH d=>?_))))
      refine n (kP ?_)
      obtain rfl:=sm u
      replace z:=oi z
      obtain rfl:=sm z
      refine jC r (uK r mr r jS r (d.bk 2 r)) ?_
      exact lw (⟨b,c,r,(d.ad [0] [1,2])⟩)
     refine jI (bf ag) (wk (q (g (s (mp r) (s (xn r) (s (mP r) (s (l3 r (d.bk 0 r) r) (s (kN r r) (s (xn r) (s (mP r) (lu (lW d 0 [V (wr (H+1))] r pI r r) fun aI d=>?_)))))))))))
     refine n (q (g (s (mp r) (s (mi r) (s (kN r r) (s (mi r) ?_))))))
     obtain ⟨a,X,az,u⟩:=lV u
     refine sc (ec Bl r) (H_r03_expression (d.pr [0] [1,2] [2] r) az) ?_
     rintro _ aJ ⟨B,C,rfl,hK⟩
     replace d:=d.cn [0] [1,2] hK
     refine tH d (ko jS) fun aK aL d=>?_
     refine lu (nE d 0 [V a.e,V a.d,V a.j,T a.a,T a.c,Z B a.b C] r jS r r) fun aM d=>?_
     refine n (q (g (s (mi r) (s (mD [V j,V m,V o,T p,T t,Z b h c] mr jS r (d.bk 2 r)) (s (mD [V a.e,V a.d,V a.j,T a.a,T a.c,Z B a.b C] mr jS r (d.bk 0 r)) (qE (jV d [[V j,V m,V o,T p,T t,Z b h c],[V a.e,V a.d,V a.j,T a.a,T a.c,Z B a.b C]] ([(⟨j,m,o,p,t,h⟩:Ge),a]:List Ge) (xz r r) r r (by decide) ⟨(jL.tN ⟨b,c,r,(d.dl 3 r)⟩),⟨(jL.tN ⟨B,C,r,(d.dl 0 r)⟩),y⟩⟩) ?_))))))
     rintro _ aN ⟨a2,rfl,d⟩
     refine s (u6 r r) (lu (nE d 3 [V K,V 0,V 0,T be,T be,.slice (ad a2) ([(⟨j,m,o,p,t,h⟩:Ge),a]:List Ge).length 2] r jS r r) fun aO d=>?_)
     refine n (q (g (s (mi r) (s (kK r r) (n ?_)))))
     rcases iv u with ⟨ah,u⟩|⟨ah,u⟩
     ·refine jH (bt ah) (q (g (s (mD [V K,V 0,V 0,T be,T be,.slice (ad a2) ([(⟨j,m,o,p,t,h⟩:Ge),a]:List Ge).length 2] mr jS r (d.bk 3 r)) (lu (nE d 4 [V K,V 0,V 0,T be,T be,.slice (ad a2) ([(⟨j,m,o,p,t,h⟩:Ge),a]:List Ge).length 2] r jS r r) fun aP d=>?_))))
      refine n (kP ?_)
      replace d:=d.fz 0 0 r r
      obtain rfl:=sm u
      replace z:=oi z
      obtain rfl:=sm z
      refine jC r (uK r mr r jS r (d.bk 3 r)) ?_
      exact lw (⟨(ad a2),2,r,(d.ad [1] [0,2])⟩)
     refine jI (bf ah) (wk ?_)
     replace d:=d.fz 0 0 r r
     exact aw n9 _ _ (Nat.lt_succ_self _) ⟨K,0,0,be,be,([(⟨j,m,o,p,t,h⟩:Ge),a]:List Ge),(ad a2),2,X.l,X.a,X.c,X.e,⟨r,r,r,r,r,y⟩,(d.ad [2,3,1] [0,2]),u⟩
    refine jI (bf af) (ve ?_)
    exact al _ _ ⟨j,m,o,p,t,h,b,c,D,H,I,A,⟨r,r,y⟩,d,sm u⟩
   rw [decide_eq_false ae]
   refine jB r (jB r (s (jZ r r) (n (jI r (ve ?_)))))
   exact al _ _ ⟨j,m,o,p,t,h,b,c,D,H,I,A,⟨r,r,y⟩,d,sm u⟩
 clear d
 rintro f w ⟨j,m,o,p,t,h,b,c,D,H,I,A,hf,d,aA⟩
 obtain ⟨b3,rfl⟩:=gP _ _ hf
 clear hf
 subst aA
 replace z:=gi z
 replace z:=mf (mf (mf z))
 refine q (g (s (mD [V j,V m,V o,T p,T t,Z b h c] mr jS r (d.bk 0 r)) (lu (nE d 1 [V j,V m,V o,T p,T t,Z b h c] r jS r r) fun aQ d=>?_)))
 refine n (kP ?_)
 obtain rfl:=sm z
 refine jC r (uK r mr r jS r (d.bk 1 r)) ?_
 exact lw (⟨b,c,r,(d.arr [2] r)⟩)
theorem JW (fu:Nat)(r_r03_expression:nR) (r_r03_unary:rY) (r_r03_target:qz) (H_r03_expression:qW r_r03_expression) (H_r03_unary:xQ r_r03_unary) (H_r03_target:vo r_r03_target):xQ (zq fu r_r03_expression r_r03_unary r_r03_target):=by
 intro w0 b4 x x1 I u v R hP j
 unfold zq at j
 have a:=hP.bx
 clear hP
 generalize hG:lT _=G at a ⊢
 refine cf Try.func124 r (l8 [(0,Pt I),(1,V x1)] ⟨r,r,y⟩ fun b5=>q (g (tH a (ko jS) fun w1 b1 a=>n (q (q (g (s (mp r) (s (xn r) (s (tJ r) (s (CU r (a.bk 1 r) r) (s (mI r r) (n ?_))))))))))))
 rcases iv j with ⟨h2,j⟩|⟨h2,j⟩
 ·refine jH (bt h2) (q (g (s Mq (lu (nE a 0 [V 0,V 0,V 0,T be,T be,sn] r jS r r) fun w3 a=>n (kP ?_)))))
  replace a:=a.ku (d:=.l none 0 ([]:List Ge)) oN
  obtain rfl:=sm j
  exact jC r (uK r mr r jS r (a.bk 0 r)) (lw (⟨none,0,r,(a.arr [1] r)⟩))
 refine jI (bf h2) (wk (q (q (g (s (mp r) ?_)))))
 obtain ⟨ar,h5,j⟩:=bs j
 refine sc (ec RX r) (H7 fu (a.pr [1] [0] [0] r) h5) ?_
 rintro _ w5 ⟨rfl,E⟩
 replace a:=a.cn [1] [0] E
 refine s (xc r) (n ?_)
 rcases iv j with ⟨X,j⟩|⟨X,j⟩
 ·refine jH (cb X) (q (g (s (mp r) ?_)))
  obtain ⟨au,h7,j⟩:=bs j
  refine sc (ec DX r) (ui fu (a.pr [0] [1] [1] r) h7) ?_
  rintro _ w7 ⟨rfl,E⟩
  replace a:=a.cn [0] [1] E
  refine n (q (g (s Mq (lu (nE a 1 [V 0,V 0,V 0,T be,T be,sn] r jS r r) fun w8 a=>n (kP ?_)))))
  replace a:=a.ku (d:=.l none 0 ([]:List Ge)) oN
  obtain rfl:=sm j
  exact jC r (uK r mr r jS r (a.bk 1 r)) (lw (⟨none,0,r,(a.ad [0] [0,1])⟩))
 replace X:=nt X
 refine jI (cb X) (wk (q (q (g (s (mi r) (s (vD r r) (n ?_)))))))
 rcases iv j with ⟨S,j⟩|⟨S,j⟩
 ·refine jH (bt S) (q (g (s (mp r) ?_)))
  obtain ⟨a8,a9,j⟩:=bs j
  refine sc (ec DX r) (ui fu (a.pr [0] [1] [1] r) a9) ?_
  rintro _ az ⟨rfl,E⟩
  replace a:=a.cn [0] [1] E
  refine n (q (g (s Mq (lu (nE a 1 [V 0,V 0,V 0,T be,T be,sn] r jS r r) fun aA a=>n (kP ?_)))))
  replace a:=a.ku (d:=.l none 0 ([]:List Ge)) oN
  obtain rfl:=sm j
  exact jC r (uK r mr r jS r (a.bk 1 r)) (lw (⟨none,0,r,(a.ad [0] [0,1])⟩))
 refine jI (bf S) (wk (q (q (g (qE (jV a [[T (⟨#[45]⟩:BA)],[T (⟨#[33]⟩:BA)]] ([(⟨#[45]⟩:BA),(⟨#[33]⟩:BA)]:List BA) (wG r r) r r (by decide) ⟨r,⟨r,y⟩⟩) ?_)))))
 rintro _ aB ⟨U,rfl,a⟩
 refine s (lg kM r) (s (mi r) (n ?_))
 have av:=(a.vw 0 0 r r).bd
 obtain ⟨Y,c,j⟩:=bs j
 refine oG (fun f w=>Has f [(0,Pt I),(1,V x1),(4,Pt b1)]∧Bx w0 w b4 G [O w0.heap.size (ad U) 2 9 BA [[T (⟨#[45]⟩:BA)],[T (⟨#[33]⟩:BA)]],.box I 102 #[Z u x.l v,V x.a,V x.c,V x.e],.box b1 138 #[V 0,V 0,V 0,T be,T be,sn]] [.els [[T (⟨#[45]⟩:BA)],[T (⟨#[33]⟩:BA)]] ([(⟨#[45]⟩:BA),(⟨#[33]⟩:BA)]:List BA),.l u v x.l]∧Ld.go ()=Y) (fun aC a0=>?_) ?_
 ·refine oF (kI (fun b6 f w=>∃ (B:Nat),b6=([(⟨#[45]⟩:BA),(⟨#[33]⟩:BA)]:List BA).length - B∧B≤([(⟨#[45]⟩:BA),(⟨#[33]⟩:BA)]:List BA).length∧Has f [(27,V (B:Int)),(0,Pt I),(1,V x1),(4,Pt b1),(25,.slice (ad U) ([(⟨#[45]⟩:BA),(⟨#[33]⟩:BA)]:List BA).length 2),(26,V ((([(⟨#[45]⟩:BA),(⟨#[33]⟩:BA)]:List BA).length:Nat):Int))]∧Bx w0 w b4 G [O w0.heap.size (ad U) 2 9 BA [[T (⟨#[45]⟩:BA)],[T (⟨#[33]⟩:BA)]],.box I 102 #[Z u x.l v,V x.a,V x.c,V x.e],.box b1 138 #[V 0,V 0,V 0,T be,T be,sn]] [.els [[T (⟨#[45]⟩:BA)],[T (⟨#[33]⟩:BA)]] ([(⟨#[45]⟩:BA),(⟨#[33]⟩:BA)]:List BA),.l u v x.l]∧sV fu r_r03_expression r_r03_unary r_r03_target x x1 (([(⟨#[45]⟩:BA),(⟨#[33]⟩:BA)]:List BA).drop B) B=some Y) (([(⟨#[45]⟩:BA),(⟨#[33]⟩:BA)]:List BA).length) ⟨0,r,Nat.zero_le _,⟨r,r,r,r,r,r,y⟩,(a.dp [0,2]),c⟩ ?_)
  clear a c
  rintro b6 f w ⟨B,rfl,aw,hf,a,c⟩ aD a1
  obtain ⟨b5,rfl⟩:=gP _ _ hf
  clear hf
  rcases Nat.lt_or_ge B ([(⟨#[45]⟩:BA),(⟨#[33]⟩:BA)]:List BA).length with Q | Q
  ·obtain ⟨aa,K⟩:=lL (l:=([(⟨#[45]⟩:BA),(⟨#[33]⟩:BA)]:List BA)) Q
   rw [mO K,sV] at c
   refine q (g (s (qQ r r (by omega)) (n (q (jH r (wk (q (oF (q (g (s (mi r) (s (kZ kM qc r r r (a.vw 0 0 r r) K) (s (kC uk r r ((vB (ds:=[T aa]) (a.vw 0 0 r r) K (fun _ h=>h)) 0 _ r)) (s (xi r) (s (mZ r) (n (q (g (s (mp r) (s (lh r) ?_))))))))))))))))))))
   obtain ⟨ab,ac,c⟩:=bs c
   refine sc (ec wD r) (nQ fu (a.pr [1] [0,2] [1] r) ac) ?_
   rintro _ aE ⟨rfl,E⟩
   replace a:=a.cn [1] [0,2] E
   refine n ?_
   rcases iv c with ⟨L,c⟩|⟨L,c⟩
   ·refine jH (cb L) (q (g (s (mp r) (s (xn r) (s (mP r) (s (l3 r (a.bk 0 r) r) (s (kN r r) (s (xn r) (s (mP r) (lu (lW a 0 [V (wr (x.a+1))] r pI r r) fun aF a=>n (q (g (s (mi r) (s (kN r r) (s (mp r) (s (mi r) (s (kN r r) ?_)))))))))))))))))
    obtain ⟨t,ae,af,c⟩:=lV c
    refine sc (ec OU r) (H_r03_unary (a.pr [0] [1,2] [2] r) af) ?_
    rintro _ aG ⟨C,D,rfl,E⟩
    replace a:=a.cn [0] [1,2] E
    refine qE (jV a [[V t.e,V t.d,V t.j,T t.a,T t.c,Z C t.b D]] ([t]:List Ge) (kX r) r r (by decide) ⟨(jL.tN ⟨C,D,r,(a.dl 0 r)⟩),y⟩) ?_
    rintro _ aH ⟨W,rfl,a⟩
    refine s (u6 r r) (lu (nE a 3 [V (wr (4+(B:Int))),V 0,V 0,T be,T be,.slice (ad W) ([t]:List Ge).length 1] r jS r r) fun aI a=>n (kP ?_))
    replace a:=a.fz 0 0 r r
    obtain rfl:=sm c
    replace j:=oi j
    obtain rfl:=sm j
    exact jC r (uK r mr r jS r (a.bk 2 r)) (lw (⟨(ad W),1,r,(a.ad [0] [0,2])⟩))
   replace L:=nt L
   exact jI (cb L) (wk (g (s (ma r r (by omega) (by omega)) (s (mi r) (n (a1 (([(⟨#[45]⟩:BA),(⟨#[33]⟩:BA)]:List BA).length - (B+1)) _ _ (by omega) ⟨B+1,r,by omega,⟨r,r,r,r,r,r,y⟩,(a.ad [1,0,2] [1,2]),c⟩))))))
  obtain rfl:B=([(⟨#[45]⟩:BA),(⟨#[33]⟩:BA)]:List BA).length:=by omega
  rw [lI,sV] at c
  exact q (g (s (qH r r (by omega)) (n (q (jI r (ve (a0 _ _ ⟨⟨r,r,r,y⟩,a,sm c⟩)))))))
 clear a
 rintro f w ⟨hf,a,a2⟩
 obtain ⟨b5,rfl⟩:=gP _ _ hf
 clear hf
 subst a2
 replace j:=gi j
 refine q (q (g (s (mp r) ?_)))
 obtain ⟨ag,ah,j⟩:=bs j
 refine sc (ec D7 r) (um fu (a.pr [1] [0,2] [1] r) ah) ?_
 rintro _ aJ ⟨rfl,E⟩
 replace a:=a.cn [1] [0,2] E
 refine n ?_
 rcases iv j with ⟨M,j⟩|⟨M,j⟩
 ·refine jH (cb M) (q (g (s (mp r) (s (xn r) (s (mP r) (s (l3 r (a.bk 0 r) r) (s (kN r r) (s (xn r) (s (mP r) (lu (lW a 0 [V (wr (x.a+1))] r pI r r) fun aK a=>n (q (oJ a [0] [2] [] (by kernel_rfl) ?_))))))))))))
  replace a:=a.drew
  have F:=(a.ad [0] [2])
  refine pF 0 r (mp r) F (pF 1 r (xn r) F (pF 2 r (zJ r) F (uF 3 r (fun hS=>NJ r (hS.bk 0 r) r) F (pF 4 r (mp r) F (pF 5 r (xn r) F (pF 6 r (mP r) F (uF 7 r (fun hS=>l3 r (hS.bk 0 r) r) F (pF 8 r (xS r r) F ?_))))))))
  obtain ⟨J,H,j⟩:=bs j
  obtain ⟨aL,a3,H⟩:=kG H
  refine pF 9 r (kZ CW qJ r r a3 (a.dl 2 r) H) F (pF 10 r (OM r) F (tU 11 r (fun _ hS=>kC E8 r r ((vB (ds:=[V J.e,V J.c,T J.a,V J.d]) (hS.dl 0 r) H (fun _ h=>h)) 3 _ r)) (sF F) (pF 12 r (IY r r) F (hO 13 (os r r (nE a 2 [V 0,V J.d,V 0,T be,T be,sn] r jS r r) fun aM a=>?_)))))
  have F:=(a.ad [0] [2])
  refine ⟨(sF F),(hD (kP ?_))⟩
  replace a:=a.ku (d:=.l none 0 ([]:List Ge)) oN
  obtain rfl:=sm j
  exact jC r (uK r mr r jS r (a.bk 2 r)) (lw (⟨none,0,r,(a.ad [0] [0,3])⟩))
 replace M:=nt M
 refine jI (cb M) (wk (q (q (g (s (mp r) ?_)))))
 obtain ⟨ai,aj,j⟩:=bs j
 refine sc (ec wD r) (nQ fu (a.pr [0] [1,2] [2] r) aj) ?_
 rintro _ aN ⟨rfl,E⟩
 replace a:=a.cn [0] [1,2] E
 refine n ?_
 rcases iv j with ⟨N,j⟩|⟨N,j⟩
 ·refine jH (cb N) (q (g (s (mp r) (s (xn r) (s (mP r) (s (l3 r (a.bk 0 r) r) (s (kN r r) (s (xn r) (s (mP r) (lu (lW a 0 [V (wr (x.a+1))] r pI r r) fun aO a=>n (q (g (s (mp r) (s (mi r) (s (kN r r) ?_)))))))))))))))
  obtain ⟨b,ak,al,j⟩:=lV j
  refine sc (ec Bl r) (H_r03_expression (a.pr [0] [1,2] [3] r) al) ?_
  rintro _ aP ⟨o,p,rfl,E⟩
  replace a:=a.cn [0] [1,2] E
  refine tH a (ko jS) fun aQ aR a=>lu (nE a 0 [V b.e,V b.d,V b.j,T b.a,T b.c,Z o b.b p] r jS r r) fun aS a=>n (q (g (s (mp r) ?_)))
  obtain ⟨am,an,j⟩:=bs j
  refine sc (ec xx r) (mG fu (a.pr [1] [0,2,3] [1] r) an) ?_
  rintro _ aT ⟨rfl,E⟩
  replace a:=a.cn [1] [0,2,3] E
  refine n (q (g (s (mD [V b.e,V b.d,V b.j,T b.a,T b.c,Z o b.b p] mr jS r (a.bk 1 r)) (lu (nE a 3 [V b.e,V b.d,V b.j,T b.a,T b.c,Z o b.b p] r jS r r) fun aU a=>n (kP ?_)))))
  obtain rfl:=sm j
  exact jC r (uK r mr r jS r (a.bk 3 r)) (lw (⟨o,p,r,(a.ad [0] [1,0])⟩))
 replace N:=nt N
 refine jI (cb N) (wk (q (g (s (mp r) (s (mi r) ?_)))))
 obtain ⟨m,ao,ap,j⟩:=lV j
 refine sc (ec O0 r) (H_r03_target (a.pr [0] [1,2] [3] r) ap) ?_
 rintro _ aV ⟨z,A,rfl,E⟩
 replace a:=a.cn [0] [1,2] E
 refine lu (nE a 2 [V m.e,V m.d,V m.j,T m.a,T m.c,Z z m.b A] r jS r r) fun aW a=>n (kP ?_)
 obtain rfl:=sm j
 exact jC r (uK r mr r jS r (a.bk 2 r)) (lw (⟨z,A,r,(a.ad [0] [0,1])⟩))
theorem HV (fu:Nat)(r_r03_expression:nR) (r_r03_unary:rY) (r_r03_target:qz) (H_r03_expression:qW r_r03_expression) (H_r03_unary:xQ r_r03_unary) (H_r03_target:vo r_r03_target):vo (yg fu r_r03_expression r_r03_unary r_r03_target):=by
 intro w0 ap F S z t u R U o
 unfold yg at o
 have b:=U.bx
 clear U
 generalize hG:lT _=G at b ⊢
 refine cf Try.func128 r (l8 [(0,Pt z),(1,V S)] ⟨r,r,y⟩ fun aq=>q (g (tH b (ko jS) fun w1 W b=>n (q (g (s (mp r) ?_))))))
 obtain ⟨p,c,h2,o⟩:=lV o
 refine sc (ec CF r) (rX fu (b.pr [1] [0] [0] r) h2) ?_
 rintro _ w2 ⟨rfl,v⟩
 replace b:=b.cn [1] [0] v
 refine s (mZ r) (n (q ?_))
 obtain ⟨Y3,m,o⟩:=bs o
 refine oG (fun f w=>Has f [(0,Pt z),(1,V S),(4,Pt W),(5,T p)]∧Bx w0 w ap G [.box z 102 #[Z t c.l u,V c.a,V c.c,V c.e],.box W 138 #[V 0,V 0,V 0,T be,T be,sn]] [.l t u c.l]∧Ld.go ()=Y3) (fun J3 D=>?_) ?_
 ·unfold wR at m
  refine q (g (s (mp r) (s (xn r) (s (tJ r) (s (CU r (b.bk 0 r) r) (s (kK r r) (s (jY r) ?_)))))))
  rcases iv m with ⟨H,m⟩|⟨H,m⟩
  ·rw [decide_eq_true H]
   refine jW r (s (mp r) ?_)
   obtain ⟨X,h5,m⟩:=bs m
   refine jW r (sc (ec wD r) (nQ fu (b.pr [0] [1] [0] r) h5) ?_)
   rintro _ w5 ⟨rfl,v⟩
   replace b:=b.cn [0] [1] v
   refine s (jO r r) (n ?_)
   rcases iv m with ⟨E,m⟩|⟨E,m⟩
   ·refine jH (cb E) (q (g (s (mp r) (s (xn r) (s (mP r) (s (l3 r (b.bk 0 r) r) (s (kN r r) (s (xn r) (s (mP r) (lu (lW b 0 [V (wr (c.a+1))] r pI r r) fun w7 b=>n (q (g (s (lh r) (s (mp r) ?_))))))))))))))
    obtain ⟨A,Y,h8,m⟩:=lV m
    refine sc (ec CF r) (rX fu (b.pr [0] [1] [1] r) h8) ?_
    rintro _ w8 ⟨rfl,v⟩
    replace b:=b.cn [0] [1] v
    refine s (vL r r r) (lu (nE b 1 [V 2,V 0,V 0,T p,T A,sn] r jS r r) fun w9 b=>n (kP ?_))
    replace b:=b.ku (d:=.l none 0 ([]:List Ge)) oN
    obtain rfl:=sm m
    replace o:=oi o
    obtain rfl:=sm o
    exact jC r (uK r mr r jS r (b.bk 1 r)) (lw (⟨none,0,r,(b.ad [0] [0,1])⟩))
   replace E:=nt E
   exact jI (cb E) (wk (D _ _ ⟨⟨r,r,r,r,y⟩,(b.dp [1]),sm m⟩))
  rw [decide_eq_false H]
  exact jB r (jB r (s (jZ r r) (n (jI r (wk (D _ _ ⟨⟨r,r,r,r,y⟩,(b.dp [0]),sm m⟩))))))
 clear b
 rintro f w ⟨hf,b,I⟩
 obtain ⟨aq,rfl⟩:=gP _ _ hf
 clear hf
 subst I
 replace o:=gi o
 refine q (q (g (s (mp r) (s (xn r) (s (tJ r) (s (CU r (b.bk 0 r) r) (s (kK r r) (s (jY r) ?_))))))))
 rcases iv o with ⟨B,o⟩|⟨B,o⟩
 ·rw [decide_eq_true B]
  refine jW r (s (mp r) ?_)
  obtain ⟨J,K,o⟩:=bs o
  refine jW r (sc (ec wD r) (nQ fu (b.pr [0] [1] [0] r) K) ?_)
  rintro _ a5 ⟨rfl,v⟩
  replace b:=b.cn [0] [1] v
  refine s (jO r r) (n ?_)
  rcases iv o with ⟨x,o⟩|⟨x,o⟩
  ·refine jH (cb x) (q (g (s (mp r) (s (xn r) (s (mP r) (s (l3 r (b.bk 0 r) r) (s (kN r r) (s (xn r) (s (mP r) (lu (lW b 0 [V (wr (c.a+1))] r pI r r) fun a6 b=>n (q (g (s (mp r) (s (mi r) (s (kN r r) ?_)))))))))))))))
   obtain ⟨a,L,M,o⟩:=lV o
   refine sc (ec Bl r) (H_r03_expression (b.pr [0] [1] [1] r) M) ?_
   rintro _ a7 ⟨h,j,rfl,v⟩
   replace b:=b.cn [0] [1] v
   refine tH b (ko jS) fun a8 a9 b=>lu (nE b 0 [V a.e,V a.d,V a.j,T a.a,T a.c,Z h a.b j] r jS r r) fun aa b=>n (q (g (s (mp r) ?_)))
   obtain ⟨N,Q,o⟩:=bs o
   refine sc (ec xx r) (mG fu (b.pr [1] [0,2] [1] r) Q) ?_
   rintro _ ab ⟨rfl,v⟩
   replace b:=b.cn [1] [0,2] v
   refine n (q (g (s (lh r) (s (mD [V a.e,V a.d,V a.j,T a.a,T a.c,Z h a.b j] mr jS r (b.bk 1 r)) (qE (jV b [[V a.e,V a.d,V a.j,T a.a,T a.c,Z h a.b j]] ([a]:List Ge) (kX r) r r (by decide) ⟨(jL.tN ⟨h,j,r,(b.dl 1 r)⟩),y⟩) ?_)))))
   rintro _ ac ⟨C,rfl,b⟩
   refine s (BO r r r) (lu (nE b 3 [V 3,V 0,V 0,T p,T be,.slice (ad C) ([a]:List Ge).length 1] r jS r r) fun ae b=>n (kP ?_))
   replace b:=b.fz 0 0 r r
   obtain rfl:=sm o
   exact jC r (uK r mr r jS r (b.bk 2 r)) (lw (⟨(ad C),1,r,(b.ad [0] [0,1])⟩))
  replace x:=nt x
  refine jI (cb x) (wk (q (g (s (lh r) (s (Em r r) (lu (nE b 1 [V 1,V 0,V 0,T p,T be,sn] r jS r r) fun af b=>n (kP ?_)))))))
  replace b:=b.ku (d:=.l none 0 ([]:List Ge)) oN
  obtain rfl:=sm o
  exact jC r (uK r mr r jS r (b.bk 1 r)) (lw (⟨none,0,r,(b.ad [0] [0,2])⟩))
 rw [decide_eq_false B]
 refine jB r (jB r (s (jZ r r) (n (jI r (wk (q (g (s (lh r) (s (Em r r) (lu (nE b 1 [V 1,V 0,V 0,T p,T be,sn] r jS r r) fun ag b=>n (kP ?_)))))))))))
 replace b:=b.ku (d:=.l none 0 ([]:List Ge)) oN
 obtain rfl:=sm o
 exact jC r (uK r mr r jS r (b.bk 1 r)) (lw (⟨none,0,r,(b.arr [0] r)⟩))
theorem Av (fu:Nat):qW (mJ fu)∧xQ (zC fu)∧vo (uO fu):=by
 induction fu with
 | zero=>exact ⟨by intro a b;intros;exact nn (by assumption),by intro a b;intros;exact nn (by assumption),by intro a b;intros;exact nn (by assumption)⟩
 | succ fu ih=>exact ⟨DW fu (mJ fu) (zC fu) (uO fu) ih.1 ih.2.1 ih.2.2,JW fu (mJ fu) (zC fu) (uO fu) ih.1 ih.2.1 ih.2.2,HV fu (mJ fu) (zC fu) (uO fu) ih.1 ih.2.1 ih.2.2⟩
theorem tZ (fu:Nat):qW (mJ fu):=(Av fu).1
theorem Ih (fu:Nat):vo (uO fu):=(Av fu).2.2
def Ew (m:jy→Option ((List Ge) × jy)):Prop:=∀ {k:World} {p:Nat→Prop} {i:jy} {j:Nat} {a:Option Addr} {b:Nat} {R:(List Ge) × jy},Pre k p [.box j 102 #[Z a i.l b,V i.a,V i.c,V i.e]] [.l a b i.l]→m i=some R→
 Calls Try.prog 127 #[Pt j] k (rA fun v w=>iA R fun o c=>∃ (d:OA)(f:Nat)(h:LV),v=Z d o f∧Bx k w p (lT [.box j 102 #[Z a i.l b,V i.a,V i.c,V i.e]]) [O k.heap.size d f 138 Ge h,.box j 102 #[Z a c.l b,V c.a,V c.c,V c.e]] [.els h o,.l a b c.l])
def qo (fu:Nat):Nat→(List kv)→Int→Int→Int→(List Ge)→Option (Ld (List kv × Int × Int × Int × List Ge) ((List Ge) × jy))
 | 0,_,_,_,_,_=>none
 | k+1,b,c,d,a,h=>
 if a=0 then
  (ng fu (⟨b,c,d,a⟩:jy) 0 (⟨#[44]⟩:BA)).bind fun i=>
  if i=true then
   (mJ fu (⟨b,(wr (c+1)),d,a⟩:jy) 1 0).bind fun o=>
   iA o fun j f=>
   (app h ([j]:List Ge)).bind fun m=>
   qo fu k f.l f.a f.c f.e m
  else
   some (.go (b,c,d,a,h))
 else
  some (.go (b,c,d,a,h))
def uP (fu:Nat)(a:jy):Option (Ld (List Ge × List kv × Int × Int × Int) ((List Ge) × jy)):=
 if a.e=0 then
  (ng fu a 0 (⟨#[41]⟩:BA)).bind fun j=>
  if (!j)=true then
   (mJ fu a 1 0).bind fun p=>
   iA p fun k b=>
   (app ([]:List Ge) ([k]:List Ge)).bind fun m=>
   (qo fu fu b.l b.a b.c b.e m).bind fun p=>p.el (fun p=>
   iA p fun c p=>iA p fun d p=>iA p fun f p=>iA p fun h i=>
   some (.go (i,c,d,f,h))
   ) (fun o=>some (.out o))
  else
   some (.go (([]:List Ge),a.l,a.a,a.c,a.e))
 else
  some (.go (([]:List Ge),a.l,a.a,a.c,a.e))
def uT (fu:Nat)(i:jy):Option ((List Ge) × jy):=
 (lY fu i (⟨#[40]⟩:BA)).bind fun b=>
 (uP fu b).bind fun j=>j.el (fun j=>
 iA j fun c j=>iA j fun d j=>iA j fun e j=>iA j fun f h=>
 (lY fu (⟨d,e,f,h⟩:jy) (⟨#[41]⟩:BA)).bind fun a=>
 some (c,a)
 ) (fun o=>some o)
theorem Ei (fu:Nat):Ew (uT fu):=by
 intro w0 aR x0 K v x R hP J
 unfold uT at J
 have c:=hP.bx
 clear hP
 generalize hG:lT _=G at c ⊢
 refine cf Try.func127 r (l8 [(0,Pt K)] ⟨r,y⟩ fun aS=>q (g (s (nL r) (n (q (g (s (nL r) (n (q (g (s (mp r) ?_)))))))))))
 obtain ⟨A,h1,J⟩:=bs J
 refine sc (ec xx r) (mG fu (c.pr [0] [] [0] r) h1) ?_
 rintro _ w1 ⟨rfl,U⟩
 replace c:=c.cn [0] [] U
 refine n (q ?_)
 replace c:=c.BJ Ge 138
 obtain ⟨Y3,b,J⟩:=bs J
 refine oG (fun f w=>∃ (N:List Ge) (E:OA)(F:Nat)(H:LV)(Q:List kv) (W:Int)(X:Int)(Y:Int),Has f [(0,Pt K),(3,Z E N F)]∧Bx w0 w aR G [O w0.heap.size E F 138 Ge H,.box K 102 #[Z v Q x,V W,V X,V Y]] [.l v x Q,.els H N]∧Ld.go (N,Q,W,X,Y)=Y3) (fun J3 a2=>?_) ?_
 ·unfold uP at b
  refine q (g (s (mp r) (s (xn r) (s (tJ r) (s (CU r (c.bk 1 r) r) (s (kK r r) (s (jY r) ?_)))))))
  rcases iv b with ⟨h4,b⟩|⟨h4,b⟩
  ·rw [decide_eq_true h4]
   refine jW r (s (mp r) ?_)
   obtain ⟨aq,h5,b⟩:=bs b
   refine jW r (sc (ec wD r) (nQ fu (c.pr [1] [0] [1] r) h5) ?_)
   rintro _ w5 ⟨rfl,U⟩
   replace c:=c.cn [1] [0] U
   refine jW r (s (xc r) (s (jO r r) (n ?_)))
   rcases iv b with ⟨h6,b⟩|⟨h6,b⟩
   ·refine jH (cb h6) (q (g (s (mH r) (s (mp r) ?_))))
    obtain ⟨B,S,h7,b⟩:=lV b
    refine sc (ec Bl r) (tZ fu (c.pr [0] [1] [2] r) h7) ?_
    rintro _ w7 ⟨L,M,rfl,U⟩
    replace c:=c.cn [0] [1] U
    refine qE (jV c [[V B.e,V B.d,V B.j,T B.a,T B.c,Z L B.b M]] ([B]:List Ge) (kX r) r r (by decide) ⟨(jL.tN ⟨L,M,r,(c.dl 0 r)⟩),y⟩) ?_
    rintro _ w8 ⟨b8,rfl,c⟩
    obtain ⟨r9,ae,b⟩:=bs b
    refine qE (kS c 2 4 r r qN jS r (by decide) (by decide) (Nat.le_refl _) r r (c.Ay 0 0 r r) ae) ?_
    rintro _ w9 ⟨A9,C9,Q9,rfl,c⟩
    refine s (nL r) (n ?_)
    obtain ⟨a7,a,b⟩:=bs b
    refine oG (fun f w=>∃ (d:List kv) (o:Int)(t:Int)(u:Int)(p:List Ge) (h:OA)(j:Nat)(m:LV),Has f [(0,Pt K),(3,Z h p j)]∧Bx w0 w aR G [.box K 102 #[Z v d x,V o,V t,V u],O w0.heap.size h j 138 Ge m] [.l v x d,.els m p]∧Ld.go (d,o,t,u,p)=a7) (fun aB a1=>?_) ?_
    ·refine oF (kI (fun aT f w=>∃ (d:List kv) (o:Int)(t:Int)(u:Int)(p:List Ge) (h:OA)(j:Nat)(m:LV),Has f [(0,Pt K),(3,Z h p j)]∧Bx w0 w aR G [.box K 102 #[Z v d x,V o,V t,V u],O w0.heap.size h j 138 Ge m] [.l v x d,.els m p]∧qo fu aT d o t u p=some a7) fu ⟨S.l,S.a,S.c,S.e,r9,A9,C9,Q9,⟨r,r,y⟩,(c.ad [1,2] [2,4]),a⟩ ?_)
     clear c a
     rintro a3 f w ⟨d,o,t,u,p,h,j,m,hf,c,a⟩ aC a8
     obtain ⟨aS,rfl⟩:=gP _ _ hf
     clear hf
     cases a3 with
     | zero=>exact nn a
     | succ a3=>
      rw [qo] at a
      refine q (q (g (s (mp r) (s (xn r) (s (tJ r) (s (CU r (c.bk 0 r) r) (s (kK r r) (s (jY r) ?_))))))))
      rcases iv a with ⟨a4,a⟩|⟨a4,a⟩
      ·rw [decide_eq_true a4]
       refine jW r (s (mp r) ?_)
       obtain ⟨af,ag,a⟩:=bs a
       refine jW r (sc (ec wD r) (nQ fu (c.pr [0] [1] [0] r) ag) ?_)
       rintro _ aD ⟨rfl,U⟩
       replace c:=c.cn [0] [1] U
       refine s (jO r r) (n ?_)
       rcases iv a with ⟨a0,a⟩|⟨a0,a⟩
       ·refine jH (cb a0) (wk (oF (q (g (s (mp r) (s (xn r) (s (mP r) (s (l3 r (c.bk 0 r) r) (s (kN r r) (s (xn r) (s (mP r) (lu (lW c 0 [V (wr (o+1))] r pI r r) fun aE c=>n (g (s (mH r) (s (mp r) ?_)))))))))))))))
        obtain ⟨z,I,ah,a⟩:=lV a
        refine sc (ec Bl r) (tZ fu (c.pr [0] [1] [1] r) ah) ?_
        rintro _ aF ⟨C,D,rfl,U⟩
        replace c:=c.cn [0] [1] U
        refine qE (jV c [[V z.e,V z.d,V z.j,T z.a,T z.c,Z C z.b D]] ([z]:List Ge) (kX r) r r (by decide) ⟨(jL.tN ⟨C,D,r,(c.dl 0 r)⟩),y⟩) ?_
        rintro _ aG ⟨aH,rfl,c⟩
        obtain ⟨ai,a9,a⟩:=bs a
        refine qE (kS c 2 5 r r qN jS r (by decide) (by decide) (Nat.le_refl _) r r (c.Ay 0 0 r r) a9) ?_
        rintro _ aI ⟨aj,ak,al,rfl,c⟩
        exact s (nL r) (n (a8 a3 _ _ (Nat.lt_succ_self _) ⟨I.l,I.a,I.c,I.e,ai,aj,ak,al,⟨r,r,y⟩,(c.ad [1,2] [2,5]),a⟩))
       replace a0:=nt a0
       exact jI (cb a0) (ve (a1 _ _ ⟨d,o,t,u,p,h,j,m,⟨r,r,y⟩,(c.dp [1,2]),sm a⟩))
      rw [decide_eq_false a4]
      exact jB r (jB r (s (jZ r r) (n (jI r (ve (a1 _ _ ⟨d,o,t,u,p,h,j,m,⟨r,r,y⟩,c,sm a⟩))))))
    clear c
    rintro f w ⟨d,o,t,u,p,h,j,m,hf,c,aa⟩
    obtain ⟨aS,rfl⟩:=gP _ _ hf
    clear hf
    subst aa
    replace b:=gi b
    replace b:=pi (mf b)
    exact a2 _ _ ⟨p,h,j,m,d,o,t,u,⟨r,r,y⟩,(c.arr [1,0] r),sm b⟩
   replace h6:=nt h6
   exact jI (cb h6) (wk (a2 _ _ ⟨([]:List Ge),none,0,[],A.l,A.a,A.c,A.e,⟨r,r,y⟩,(c.ad [1,0] [2,1]),sm b⟩))
  rw [decide_eq_false h4]
  exact jB r (jB r (jB r (s (jZ r r) (n (jI r (wk (a2 _ _ ⟨([]:List Ge),none,0,[],A.l,A.a,A.c,A.e,⟨r,r,y⟩,(c.dp [1,0]),sm b⟩)))))))
 clear c
 rintro f w ⟨N,E,F,H,Q,W,X,Y,hf,c,am⟩
 obtain ⟨aS,rfl⟩:=gP _ _ hf
 clear hf
 subst am
 replace J:=gi J
 replace J:=pi (mf J)
 refine q (g (s (mp r) ?_))
 obtain ⟨an,ao,J⟩:=bs J
 refine sc (ec xx r) (mG fu (c.pr [1] [0] [0] r) ao) ?_
 rintro _ aJ ⟨rfl,U⟩
 replace c:=c.cn [1] [0] U
 refine n (q (g (s (mH r) (s (nL r) (n (kP ?_))))))
 obtain rfl:=sm J
 exact jC r (kT r) (lw (⟨E,F,H,r,(c.ad [1,0] [2,0])⟩))
def JE (m:jy→Gs→Option (jy × Gs)):Prop:=∀ {B:World} {C:Nat→Prop} {x:jy} {b:Gs} {z:Nat} {c:Option Addr} {d:Nat} {A:Nat} {f:Option Addr} {h:Nat} {i:Option Addr} {j:Nat} {k:Option Addr} {o:Nat} {p:Option Addr} {t:Nat} {R:jy × Gs},Pre B C [.box z 102 #[Z c x.l d,V x.a,V x.c,V x.e],.box A 111 #[V b.e,V b.c,V b.n,T b.a,T b.g,V b.m,V b.j,Z f b.d h,T b.k,V b.h,Z i b.b j,Z k b.f o,Z p b.i t]] [.l c d x.l,.l f h b.d,.l i j b.b,.l k o b.f,.l p t b.i]→m x b=some R→
 Calls Try.prog 111 #[Pt z,Pt A] B (rA fun v w=>iA R fun u a=>v=.tuple #[]∧Bx B w C (lT [.box z 102 #[Z c x.l d,V x.a,V x.c,V x.e],.box A 111 #[V b.e,V b.c,V b.n,T b.a,T b.g,V b.m,V b.j,Z f b.d h,T b.k,V b.h,Z i b.b j,Z k b.f o,Z p b.i t]]) [.box z 102 #[Z c u.l d,V u.a,V u.c,V u.e],.box A 111 #[V a.e,V a.c,V a.n,T a.a,T a.g,V a.m,V a.j,Z f a.d h,T a.k,V a.h,Z i a.b j,Z k a.f o,Z p a.i t]] [.l c d u.l,.l f h a.d,.l i j a.b,.l k o a.f,.l p t a.i])
def xR (fu:Nat)(a:kv):Option (Ld (Bool) (jy × Gs)):=
 if a.d < 1 then
  some (.go true)
 else
  some (.go (decide (8 < a.d)))
def zw (fu:Nat)(b:jy) (a:Gs):Option (jy × Gs):=
 if b.e≠0 then
  some (b,a)
 else
  (ng fu b 0 (⟨#[105,110,116]⟩:BA)).bind fun k=>
  if (!k)=true then
   (pV fu b).bind fun u=>
   iA u fun m p=>
   some (p,(⟨a.e,a.c,a.n,a.a,m,a.m,a.j,a.d,a.k,a.h,a.b,a.f,a.i⟩:Gs))
  else
   (ng fu (⟨b.l,(wr (b.a+1)),b.c,b.e⟩:jy) 0 (⟨#[91]⟩:BA)).bind fun t=>
   if (!t)=true then
    some ((⟨b.l,(wr (b.a+1)),b.c,b.e⟩:jy),a)
   else
    (qx fu (⟨b.l,(wr ((wr (b.a+1))+1)),b.c,b.e⟩:jy) 0 2).bind fun c=>
    if (!c)=true then
     (qy fu (⟨b.l,(wr ((wr (b.a+1))+1)),b.c,b.e⟩:jy) 7).bind fun d=>
     some (d,a)
    else
     (ix b.l (wr ((wr (b.a+1))+1))).bind fun f=>
     (xR fu f).bind fun u=>u.el (fun h=>
     if h=true then
      (qy fu (⟨b.l,(wr ((wr (b.a+1))+1)),b.c,b.e⟩:jy) 5).bind fun i=>
      some (i,(⟨a.e,a.c,a.n,a.a,a.g,f.d,a.j,a.d,a.k,a.h,a.b,a.f,a.i⟩:Gs))
     else
      (lY fu (⟨b.l,(wr ((wr ((wr (b.a+1))+1))+1)),b.c,b.e⟩:jy) (⟨#[93]⟩:BA)).bind fun j=>
      some (j,(⟨a.e,a.c,a.n,a.a,a.g,f.d,a.j,a.d,a.k,a.h,a.b,a.f,a.i⟩:Gs))
     ) (fun o=>some o)
theorem Jv (fu:Nat):JE (zw fu):=by
 intro w0 az m b K d j N o p t u v x z A R hP c
 unfold zw at c
 have a:=hP.bx
 clear hP
 generalize hG:lT _=G at a ⊢
 refine cf Try.func111 r (l8 [(0,Pt K),(1,Pt N)] ⟨r,r,y⟩ fun aA=>q (q (g (s (mp r) (s (xn r) (s (tJ r) (s (CU r (a.bk 0 r) r) (s (mI r r) (n ?_)))))))))
 rcases iv c with ⟨Y,c⟩|⟨Y,c⟩
 ·refine jH (bt Y) (kP ?_)
  obtain rfl:=sm c
  exact zV (P:=Try.prog) (fn:=Try.f111) r (lw (⟨r,a⟩))
 refine jI (bf Y) (wk (q (q (g (s (mp r) ?_)))))
 obtain ⟨aa,h2,c⟩:=bs c
 refine sc (ec wD r) (nQ fu (a.pr [0] [1] [0] r) h2) ?_
 rintro _ w2 ⟨rfl,H⟩
 replace a:=a.cn [0] [1] H
 refine s (xc r) (n ?_)
 rcases iv c with ⟨S,c⟩|⟨S,c⟩
 ·refine jH (cb S) (q (g (s (mp r) (s (mp r) ?_))))
  obtain ⟨L,ab,h4,c⟩:=lV c
  refine sc (ec CF r) (rX fu (a.pr [0] [1] [1] r) h4) ?_
  rintro _ w4 ⟨rfl,H⟩
  replace a:=a.cn [0] [1] H
  refine s (xn r) (s (Bq r) (lu (lW a 1 [T L] r qc r r) fun w5 a=>n (kP ?_)))
  obtain rfl:=sm c
  exact zV (P:=Try.prog) (fn:=Try.f111) r (lw (⟨r,(a.dp [0,3,4,5,6])⟩))
 replace S:=nt S
 refine jI (cb S) (wk (q (g (s (mp r) (s (xn r) (s (mP r) (s (l3 r (a.bk 0 r) r) (s (kN r r) (s (xn r) (s (mP r) (lu (lW a 0 [V (wr (m.a+1))] r pI r r) fun w6 a=>n (q (q (g (s (mp r) ?_)))))))))))))))
 obtain ⟨ac,h7,c⟩:=bs c
 refine sc (ec wD r) (nQ fu (a.pr [0] [1] [1] r) h7) ?_
 rintro _ w7 ⟨rfl,H⟩
 replace a:=a.cn [0] [1] H
 refine s (xc r) (n ?_)
 rcases iv c with ⟨U,c⟩|⟨U,c⟩
 ·refine jH (cb U) (kP ?_)
  obtain rfl:=sm c
  exact zV (P:=Try.prog) (fn:=Try.f111) r (lw (⟨r,(a.dp [2,3,4,5,6])⟩))
 replace U:=nt U
 refine jI (cb U) (wk (q (g (s (mp r) (s (xn r) (s (mP r) (s (l3 r (a.bk 0 r) r) (s (kN r r) (s (xn r) (s (mP r) (lu (lW a 0 [V (wr ((wr (m.a+1))+1))] r pI r r) fun w9 a=>n (q (q (g (s (mp r) ?_)))))))))))))))
 obtain ⟨a0,a1,c⟩:=bs c
 refine sc (ec D7 r) (um fu (a.pr [0] [1] [2] r) a1) ?_
 rintro _ ai ⟨rfl,H⟩
 replace a:=a.cn [0] [1] H
 refine s (xc r) (n ?_)
 rcases iv c with ⟨I,c⟩|⟨I,c⟩
 ·refine jH (cb I) (q (g (s (mp r) ?_)))
  obtain ⟨a2,a3,c⟩:=bs c
  refine sc (ec DX r) (ui fu (a.pr [0] [1] [3] r) a3) ?_
  rintro _ aj ⟨rfl,H⟩
  replace a:=a.cn [0] [1] H
  refine n (kP ?_)
  obtain rfl:=sm c
  exact zV (P:=Try.prog) (fn:=Try.f111) r (lw (⟨r,(a.dp [0,5,6,7,8])⟩))
 replace I:=nt I
 refine jI (cb I) (wk (q (oJ a [0] [3] [] (by kernel_rfl) ?_)))
 replace a:=a.drew
 have D:=(a.ad [0] [3])
 refine pF 0 r (mp r) D (pF 1 r (mp r) D (pF 2 r (xn r) D (pF 3 r (zJ r) D (uF 4 r (fun hS=>NJ r (hS.bk 0 r) r) D (pF 5 r (mp r) D (pF 6 r (xn r) D (pF 7 r (mP r) D (uF 8 r (fun hS=>l3 r (hS.bk 0 r) r) D ?_))))))))
 obtain ⟨C,F,c⟩:=bs c
 obtain ⟨ak,W,F⟩:=kG F
 refine pF 9 r (kZ CW qJ r r W (a.dl 3 r) F) D (pF 10 r (OM r) D (tU 11 r (fun _ hS=>kC E8 r r ((vB (ds:=[V C.e,V C.c,T C.a,V C.d]) (hS.dl 0 r) F (fun _ h=>h)) 3 _ r)) (sF D) (pF 12 r (xn r) D (pF 13 r (zL r) D (hO 14 (os r r (lW a 1 [V C.d] r pI r r) fun al a=>?_))))))
 have D:=(a.ad [0] [3])
 refine ⟨(sF D),(hD (q (q ?_)))⟩
 obtain ⟨a4,B,c⟩:=bs c
 refine oG (fun f w=>∃ (E:Bool),Has f [(0,Pt K),(64,.bool E)]∧Bx w0 w az G [.box K 102 #[Z d m.l j,V (wr ((wr (m.a+1))+1)),V m.c,V m.e],.box N 111 #[V b.e,V b.c,V b.n,T b.a,T b.g,V C.d,V b.j,Z o b.d p,T b.k,V b.h,Z t b.b u,Z v b.f x,Z z b.i A]] [.l d j m.l,.l o p b.d,.l t u b.b,.l v x b.f,.l z A b.i]∧Ld.go E=a4) (fun am M=>?_) ?_
 ·unfold xR at B
  refine g (s (mp r) (s (xn r) (s (zL r) (s (l3 r (a.bk 1 r) r) (s (qR r r) (s (jY r) ?_))))))
  rcases iv B with ⟨Q,B⟩|⟨Q,B⟩
  ·rw [decide_eq_true Q]
   exact jB r (jB r (jB r (jB r (jB r (s (jO r r) (n (M _ _ ⟨true,⟨r,r,y⟩,(a.dp [3,4,5,6,7]),sm B⟩)))))))
  rw [decide_eq_false Q]
  exact jW r (s (mp r) (jW r (s (xn r) (jW r (s (zL r) (jW r (s (l3 r (a.bk 1 r) r) (jW r (s (vD r r) (s (jZ r r) (n (M _ _ ⟨(decide (8 < C.d)),⟨r,r,y⟩,(a.dp [3,4,5,6,7]),sm B⟩))))))))))))
 clear a
 rintro f w ⟨E,hf,a,X⟩
 obtain ⟨aA,rfl⟩:=gP _ _ hf
 clear hf
 subst X
 replace c:=gi c
 rcases iv c with ⟨J,c⟩|⟨J,c⟩
 ·refine jH (cb J) (q (g (s (mp r) ?_)))
  obtain ⟨a5,a6,c⟩:=bs c
  refine sc (ec DX r) (ui fu (a.pr [0] [1] [0] r) a6) ?_
  rintro _ an ⟨rfl,H⟩
  replace a:=a.cn [0] [1] H
  refine n (kP ?_)
  obtain rfl:=sm c
  exact zV (P:=Try.prog) (fn:=Try.f111) r (lw (⟨r,(a.dp [0,2,3,4,5])⟩))
 replace J:=nt J
 refine jI (cb J) (wk (q (g (s (mp r) (s (xn r) (s (mP r) (s (l3 r (a.bk 0 r) r) (s (kN r r) (s (xn r) (s (mP r) (lu (lW a 0 [V (wr ((wr ((wr (m.a+1))+1))+1))] r pI r r) fun ao a=>n (g (s (mp r) ?_)))))))))))))
 obtain ⟨a7,a8,c⟩:=bs c
 refine sc (ec xx r) (mG fu (a.pr [0] [1] [0] r) a8) ?_
 rintro _ ap ⟨rfl,H⟩
 replace a:=a.cn [0] [1] H
 refine n ?_
 obtain rfl:=sm c
 exact zV (P:=Try.prog) (fn:=Try.f111) r (lw (⟨r,(a.dp [0,2,3,4,5])⟩))
def JA (m:jy→Gs→Bool→Option (jy × Gs)):Prop:=∀ {D:World} {F:Nat→Prop} {A:jy} {b:Gs} {E:Bool} {B:Nat} {c:Option Addr} {d:Nat} {C:Nat} {f:Option Addr} {h:Nat} {p:Option Addr} {t:Nat} {i:Option Addr} {j:Nat} {k:Option Addr} {o:Nat} {R:jy × Gs},Pre D F [.box B 102 #[Z c A.l d,V A.a,V A.c,V A.e],.box C 111 #[V b.e,V b.c,V b.n,T b.a,T b.g,V b.m,V b.j,Z f b.d h,T b.k,V b.h,Z p b.b t,Z i b.f j,Z k b.i o]] [.l c d A.l,.l f h b.d,.l p t b.b,.l i j b.f,.l k o b.i]→m A b E=some R→
 Calls Try.prog 113 #[Pt B,Pt C,.bool E] D (rA fun v w=>iA R fun z a=>∃ (u:OA)(x:Nat),v=.tuple #[]∧Bx D w F (lT [.box B 102 #[Z c A.l d,V A.a,V A.c,V A.e],.box C 111 #[V b.e,V b.c,V b.n,T b.a,T b.g,V b.m,V b.j,Z f b.d h,T b.k,V b.h,Z p b.b t,Z i b.f j,Z k b.i o]]) [.box B 102 #[Z c z.l d,V z.a,V z.c,V z.e],.box C 111 #[V a.e,V a.c,V a.n,T a.a,T a.g,V a.m,V a.j,Z f a.d h,T a.k,V a.h,Z u a.b x,Z i a.f j,Z k a.i o]] [.l c d z.l,.l f h a.d,.l u x a.b,.l i j a.f,.l k o a.i])
def xV (fu:Nat)(i:jy) (a:Gs) (j:Bool):Option (Ld (Unit) (jy × Gs)):=
 if i.e=0 then
  if j=true then
   (uQ fu i).bind fun b=>
   if b=true then
    (pV fu i).bind fun k=>
    iA k fun c d=>
    (uT fu d).bind fun k=>
    iA k fun f h=>
    some (.out (h,(⟨a.e,a.c,a.n,a.a,a.g,a.m,a.j,a.d,c,a.h,f,a.f,a.i⟩:Gs)))
   else
    some (.go ())
  else
   some (.go ())
 else
  some (.go ())
def tX (fu:Nat)(d:jy) (a:Gs) (e:Bool):Option (jy × Gs):=
 (xV fu d a e).bind fun f=>f.el (fun _=>
 (mJ fu d 1 0).bind fun f=>
 iA f fun b c=>
 some (c,(⟨a.e,a.c,a.n,a.a,a.g,a.m,a.j,a.d,a.k,a.h,([b]:List Ge),a.f,a.i⟩:Gs))
 ) (fun o=>some o)
theorem yo (fu:Nat):JA (tX fu):=by
 intro w0 am H a x2 I C D J h j A B m o p t R hP E
 unfold tX at E
 have c:=hP.bx
 clear hP
 generalize hG:lT _=G at c ⊢
 refine cf Try.func113 r (l8 [(0,Pt I),(1,Pt J),(2,.bool x2)] ⟨r,r,r,y⟩ fun an=>q ?_)
 obtain ⟨Y1,b,E⟩:=bs E
 refine oG (fun f w=>Has f [(0,Pt I),(1,Pt J)]∧Bx w0 w am G [.box I 102 #[Z C H.l D,V H.a,V H.c,V H.e],.box J 111 #[V a.e,V a.c,V a.n,T a.a,T a.g,V a.m,V a.j,Z h a.d j,T a.k,V a.h,Z A a.b B,Z m a.f o,Z p a.i t]] [.l C D H.l,.l h j a.d,.l A B a.b,.l m o a.f,.l p t a.i]∧Ld.go ()=Y1) (fun J1 L=>?_) ?_
 ·unfold xV at b
  refine q (g (s (mp r) (s (xn r) (s (tJ r) (s (CU r (c.bk 0 r) r) (s (kK r r) (s (jY r) ?_)))))))
  rcases iv b with ⟨W,b⟩|⟨W,b⟩
  ·rw [decide_eq_true W]
   refine jW r (s (jY r) (s (jO r r) (s (jY r) ?_)))
   rcases iv b with ⟨Q,b⟩|⟨Q,b⟩
   ·rw [Q]
    refine jW r (s (mp r) ?_)
    obtain ⟨a4,h4,b⟩:=bs b
    refine jW r (sc (ec O8 r) (ER fu (c.pr [0] [1] [0] r) h4) ?_)
    rintro _ w4 ⟨rfl,M⟩
    replace c:=c.cn [0] [1] M
    refine s (jO r r) (n ?_)
    rcases iv b with ⟨S,b⟩|⟨S,b⟩
    ·refine jH (cb S) (q (g (s (mp r) (s (mp r) ?_))))
     obtain ⟨F,a5,h6,b⟩:=lV b
     refine sc (ec CF r) (rX fu (c.pr [0] [1] [1] r) h6) ?_
     rintro _ w6 ⟨rfl,M⟩
     replace c:=c.cn [0] [1] M
     refine s (xn r) (s (Ae r) (lu (lW c 1 [T F] r qc r r) fun w7 c=>n (q (g (s (mp r) (s (mp r) ?_))))))
     obtain ⟨K,a6,h8,b⟩:=lV b
     refine sc (ec Sa r) (Ei fu (c.pr [0] [1] [0] r) h8) ?_
     rintro _ w8 ⟨u,v,U,rfl,M⟩
     have X:=c.rM.size
     replace c:=c.cn [0] [1] M
     replace c:=c.rb 0 w0.heap.size r X
     refine s (xn r) (s (qA r) (lu (lW c 2 [Z u K v] r ul r r) fun w9 c=>n (kP ?_)))
     replace c:=c.fz 0 0 r r
     obtain rfl:=sm b
     replace E:=oi E
     obtain rfl:=sm E
     exact zV (P:=Try.prog) (fn:=Try.f113) r (lw (⟨u,v,r,(c.dp [1,5,0,7,8])⟩))
    replace S:=nt S
    exact jI (cb S) (wk (L _ _ ⟨⟨r,r,y⟩,(c.dp [1,2,3,4,5]),sm b⟩))
   replace Q:=nt Q
   rw [Q]
   exact jB r (jB r (s (jZ r r) (n (jI r (wk (L _ _ ⟨⟨r,r,y⟩,c,sm b⟩))))))
  rw [decide_eq_false W]
  exact jB r (s (jZ r r) (s (jY r) (jB r (jB r (s (jZ r r) (n (jI r (wk (L _ _ ⟨⟨r,r,y⟩,c,sm b⟩)))))))))
 clear c
 rintro f w ⟨hf,c,Y⟩
 obtain ⟨an,rfl⟩:=gP _ _ hf
 clear hf
 subst Y
 replace E:=gi E
 refine g (s (mp r) (s (mp r) ?_))
 obtain ⟨d,a0,a1,E⟩:=lV E
 refine sc (ec Bl r) (tZ fu (c.pr [0] [1] [0] r) a1) ?_
 rintro _ ac ⟨x,z,rfl,M⟩
 replace c:=c.cn [0] [1] M
 refine qE (jV c [[V d.e,V d.d,V d.j,T d.a,T d.c,Z x d.b z]] ([d]:List Ge) (kX r) r r (by decide) ⟨(jL.tN ⟨x,z,r,(c.dl 0 r)⟩),y⟩) ?_
 rintro _ ae ⟨N,rfl,c⟩
 refine s (xn r) (s (qA r) (lu (lW c 2 [.slice (ad N) ([d]:List Ge).length 1] r ul r r) fun af c=>n ?_))
 replace c:=c.fz 0 0 r r
 obtain rfl:=sm E
 exact zV (P:=Try.prog) (fn:=Try.f113) r (lw (⟨(ad N),1,r,(c.dp [2,4,0,6,7])⟩))
def Ie (m:jy→Gs→Option (jy × Gs)):Prop:=∀ {F:World} {G:Nat→Prop} {C:jy} {b:Gs} {D:Nat} {c:Option Addr} {d:Nat} {E:Nat} {k:Option Addr} {o:Nat} {p:Option Addr} {t:Nat} {f:Option Addr} {h:Nat} {i:Option Addr} {j:Nat} {R:jy × Gs},Pre F G [.box D 102 #[Z c C.l d,V C.a,V C.c,V C.e],.box E 111 #[V b.e,V b.c,V b.n,T b.a,T b.g,V b.m,V b.j,Z k b.d o,T b.k,V b.h,Z p b.b t,Z f b.f h,Z i b.i j]] [.l c d C.l,.l k o b.d,.l p t b.b,.l f h b.f,.l i j b.i]→m C b=some R→
 Calls Try.prog 114 #[Pt D,Pt E] F (rA fun v w=>iA R fun B a=>∃ (u:OA)(x:Nat)(z:OA)(A:Nat),v=.tuple #[]∧Bx F w G (lT [.box D 102 #[Z c C.l d,V C.a,V C.c,V C.e],.box E 111 #[V b.e,V b.c,V b.n,T b.a,T b.g,V b.m,V b.j,Z k b.d o,T b.k,V b.h,Z p b.b t,Z f b.f h,Z i b.i j]]) [.box D 102 #[Z c B.l d,V B.a,V B.c,V B.e],.box E 111 #[V a.e,V a.c,V a.n,T a.a,T a.g,V a.m,V a.j,Z u a.d x,T a.k,V a.h,Z z a.b A,Z f a.f h,Z i a.i j]] [.l c d B.l,.l u x a.d,.l z A a.b,.l f h a.f,.l i j a.i])
def yf (fu:Nat)(k:jy) (b:Gs):Option (jy × Gs):=
 (uQ fu k).bind fun d=>
 if d=true then
  (tX fu k (⟨3,b.c,b.n,b.a,b.g,b.m,b.j,b.d,b.k,b.h,b.b,b.f,b.i⟩:Gs) true).bind fun l=>
  iA l fun e f=>
  some (e,f)
 else
  (uO fu k 0).bind fun l=>
  iA l fun h i=>
  (lY fu i (⟨#[61]⟩:BA)).bind fun j=>
  (tX fu j (⟨3,b.c,b.n,b.a,b.g,b.m,b.j,([h]:List Ge),b.k,b.h,b.b,b.f,b.i⟩:Gs) true).bind fun l=>
  iA l fun c a=>
  if a.k=(⟨#[]⟩:BA) then
   some (c,(⟨2,a.c,a.n,a.a,a.g,a.m,a.j,a.d,a.k,a.h,a.b,a.f,a.i⟩:Gs))
  else
   some (c,a)
theorem Hq (fu:Nat):Ie (yf fu):=by
 intro w0 ag M c I E F J w x z A m o p t R S j
 unfold yf at j
 have b:=S.bx
 clear S
 generalize hG:lT _=G at b ⊢
 refine cf Try.func114 r (l8 [(0,Pt I),(1,Pt J)] ⟨r,r,y⟩ fun ah=>q (g (s (mp r) (s (xn r) (s (uG r) (lu (lW b 1 [V 3] r pI r r) fun w1 b=>n (q (q (g (s (mp r) ?_))))))))))
 obtain ⟨U,h2,j⟩:=bs j
 refine sc (ec O8 r) (ER fu (b.pr [0] [1] [0] r) h2) ?_
 rintro _ w2 ⟨rfl,D⟩
 replace b:=b.cn [0] [1] D
 refine n ?_
 rcases iv j with ⟨K,j⟩|⟨K,j⟩
 ·refine jH (cb K) (q (g (s (mp r) (s (mp r) ?_))))
  obtain ⟨W,X,h4,j⟩:=lV j
  refine sc (ec FX r) (yo fu (b.pr [0,1] [] [1,2,3,4,5] r) h4) ?_
  rintro _ w4 ⟨B,C,rfl,D⟩
  replace b:=b.cn [0,1] [] D
  refine n (kP ?_)
  obtain rfl:=sm j
  exact zV (P:=Try.prog) (fn:=Try.f114) r (lw (⟨w,x,B,C,r,(b.dp [0,1,2,3,4])⟩))
 replace K:=nt K
 refine jI (cb K) (wk (q (g (s (mp r) (s (mp r) ?_)))))
 obtain ⟨h,Y,h5,j⟩:=lV j
 refine sc (ec O0 r) (Ih fu (b.pr [0] [1] [1] r) h5) ?_
 rintro _ w5 ⟨u,v,rfl,D⟩
 replace b:=b.cn [0] [1] D
 refine qE (jV b [[V h.e,V h.d,V h.j,T h.a,T h.c,Z u h.b v]] ([h]:List Ge) (kX r) r r (by decide) ⟨(jL.tN ⟨u,v,r,(b.dl 0 r)⟩),y⟩) ?_
 rintro _ w6 ⟨L,rfl,b⟩
 refine s (xn r) (s (uq r) (lu (lW b 2 [.slice (ad L) ([h]:List Ge).length 1] r ul r r) fun w7 b=>n (q (g (s (mp r) ?_)))))
 obtain ⟨a0,h8,j⟩:=bs j
 refine sc (ec xx r) (mG fu (b.pr [1] [0,2] [2] r) h8) ?_
 rintro _ w8 ⟨rfl,D⟩
 replace b:=b.cn [1] [0,2] D
 refine n (q (g (s (mp r) (s (mp r) ?_))))
 replace b:=b.fz 1 1 r r
 obtain ⟨N,a,Q,j⟩:=lV j
 refine sc (ec FX r) (yo fu (b.pr [0,1] [] [1,0,7,8,9] r) Q) ?_
 rintro _ a5 ⟨d,f,rfl,D⟩
 replace b:=b.cn [0,1] [] D
 refine n (q (g (s (mp r) (s (xn r) (s (Ae r) (s (l9 r (b.bk 1 r) r) (s (rH r r) (n ?_))))))))
 rcases iv j with ⟨H,j⟩|⟨H,j⟩
 ·refine jH (bt H) (g (s (mp r) (s (xn r) (s (uG r) (lu (lW b 1 [V 2] r pI r r) fun a6 b=>n ?_)))))
  obtain rfl:=sm j
  exact zV (P:=Try.prog) (fn:=Try.f114) r (lw (⟨(ad L),1,d,f,r,(b.dp [0,1,2,3,4])⟩))
 refine jI (bf H) (wk ?_)
 obtain rfl:=sm j
 exact zV (P:=Try.prog) (fn:=Try.f114) r (lw (⟨(ad L),1,d,f,r,(b.dp [0,1,2,3,4])⟩))
abbrev vP:=jy→Int→Option ((List jM) × Int × jy)
abbrev rD:=jy→Int→Option (jM × jy)
def xH (m:jy→Int→Option ((List Gs) × Int × jy)):Prop:=∀ {k:World} {u:Nat→Prop} {i:jy} {o:Int} {j:Nat} {a:Option Addr} {b:Nat} {R:(List Gs) × Int × jy},Pre k u [.box j 102 #[Z a i.l b,V i.a,V i.c,V i.e]] [.l a b i.l]→m i o=some R→
 Calls Try.prog 66 #[Pt j,V o] k (rA fun v w=>iA R fun p R=>iA R fun t c=>∃ (d:OA)(f:Nat)(h:LV),v=.tuple #[Z d p f,V t]∧Bx k w u (lT [.box j 102 #[Z a i.l b,V i.a,V i.c,V i.e]]) [O k.heap.size d f 111 Gs h,.box j 102 #[Z a c.l b,V c.a,V c.c,V c.e]] [.els h p,.l a b c.l])
def vX (m:jy→Int→Option (Gs × jy)):Prop:=∀ {z:World} {B:Nat→Prop} {u:jy} {A:Int} {x:Nat} {a:Option Addr} {b:Nat} {R:Gs × jy},Pre z B [.box x 102 #[Z a u.l b,V u.a,V u.c,V u.e]] [.l a b u.l]→m u A=some R→
 Calls Try.prog 94 #[Pt x,V A] z (rA fun v w=>iA R fun c d=>∃ (f:OA)(h:Nat)(i:OA)(j:Nat)(k:OA)(o:Nat)(p:OA)(t:Nat),v=.agg #[V c.e,V c.c,V c.n,T c.a,T c.g,V c.m,V c.j,Z f c.d h,T c.k,V c.h,Z i c.b j,Z k c.f o,Z p c.i t]∧Bx z w B (lT [.box x 102 #[Z a u.l b,V u.a,V u.c,V u.e]]) [.box x 102 #[Z a d.l b,V d.a,V d.c,V d.e]] [.l f h c.d,.l i j c.b,.l k o c.f,.l p t c.i,.l a b d.l])
def qO (fu:Nat)(r_r03_block:vP) (r_r03_statement:rD) (m:Int):Nat→(List Gs)→(List kv)→Int→Int→Int→Option (Ld (List Gs × List kv × Int × Int × Int) ((List Gs) × Int × jy))
 | 0,_,_,_,_,_=>none
 | t+1,i,b,c,d,a=>
 if a=0 then
  (ng fu (⟨b,c,d,a⟩:jy) 0 (⟨#[125]⟩:BA)).bind fun o=>
  if (!o)=true then
   (xL fu (⟨b,c,d,a⟩:jy)).bind fun p=>
   if (!p)=true then
    (qy fu (⟨b,c,d,a⟩:jy) 7).bind fun j=>
    qO fu r_r03_block r_r03_statement m t i j.l j.a j.c j.e
   else
    if 8 < m then
     (qy fu (⟨b,c,d,a⟩:jy) 5).bind fun f=>
     qO fu r_r03_block r_r03_statement m t i f.l f.a f.c f.e
    else
     (r_r03_statement (⟨b,c,d,a⟩:jy) m).bind fun v=>
     iA v fun k h=>
     (app i ([k]:List Gs)).bind fun u=>
     qO fu r_r03_block r_r03_statement m t u h.l h.a h.c h.e
  else
   some (.go (i,b,c,d,a))
 else
  some (.go (i,b,c,d,a))
def xM (fu:Nat)(r_r03_block:vP) (r_r03_statement:rD) (a:List kv) (b:Int)(c:Int):Option (Ld (Int) ((List Gs) × Int × jy)):=
 if c=0 then
  (ix a b).bind fun d=>
  some (.go d.c)
 else
  some (.go 0)
def zx (fu:Nat)(r_r03_block:vP) (r_r03_statement:rD) (k:jy) (m:Int):Option ((List Gs) × Int × jy):=
 (lY fu k (⟨#[123]⟩:BA)).bind fun a=>
 (qO fu r_r03_block r_r03_statement m fu ([]:List Gs) a.l a.a a.c a.e).bind fun p=>p.el (fun p=>
 iA p fun i p=>iA p fun b p=>iA p fun c p=>iA p fun j d=>
 (xM fu r_r03_block r_r03_statement b c d).bind fun p=>p.el (fun f=>
 (lY fu (⟨b,c,j,d⟩:jy) (⟨#[125]⟩:BA)).bind fun h=>
 some (i,f,h)
 ) (fun o=>some o)
 ) (fun o=>some o)
def uR (fu:Nat)(r_r03_block:vP) (r_r03_statement:rD) (b:jy) (c:kv):Option (Ld (BA × Int) (Gs × jy)):=
 (qx fu b 0 3).bind fun a=>
 if a=true then
  some (.go (c.a,(wr (b.a+1))))
 else
  some (.go ((⟨#[]⟩:BA),b.a))
def uW (fu:Nat)(r_r03_block:vP) (r_r03_statement:rD) (b:jy) (x1:Int):Option (Gs × jy):=
 (ix b.l b.a).bind fun i=>
 (uR fu r_r03_block r_r03_statement b i).bind fun a7=>a7.el (fun a7=>
 iA a7 fun d c=>
 if d=(⟨#[118,97,114]⟩:BA) then
  (pV fu (⟨b.l,c,b.c,b.e⟩:jy)).bind fun a7=>
  iA a7 fun t u=>
  (lY fu u (⟨#[58]⟩:BA)).bind fun v=>
  (zw fu v (⟨1,i.c,0,t,be,0,0,([]:List Ge),be,0,([]:List Ge),([]:List Gs),([]:List Gs)⟩:Gs)).bind fun a7=>
  iA a7 fun w x=>
  (lY fu w (⟨#[59]⟩:BA)).bind fun z=>
  some (x,z)
 else
  if d=(⟨#[105,102]⟩:BA) then
   (mJ fu (⟨b.l,c,b.c,b.e⟩:jy) 1 0).bind fun a7=>
   iA a7 fun f A=>
   (r_r03_block A (wr (x1+1))).bind fun a7=>
   iA a7 fun h a7=>iA a7 fun a2 a=>
   if a.e=0 then
    (ng fu a 0 (⟨#[101,108,115,101]⟩:BA)).bind fun B=>
    if B=true then
     (r_r03_block (⟨a.l,(wr (a.a+1)),a.c,a.e⟩:jy) (wr (x1+1))).bind fun a7=>
     iA a7 fun C a7=>iA a7 fun a3 D=>
     some ((⟨4,i.c,0,be,be,0,0,([]:List Ge),be,0,([f]:List Ge),h,C⟩:Gs),D)
    else
     some ((⟨4,i.c,0,be,be,0,0,([]:List Ge),be,0,([f]:List Ge),h,([]:List Gs)⟩:Gs),a)
   else
    some ((⟨4,i.c,0,be,be,0,0,([]:List Ge),be,0,([f]:List Ge),h,([]:List Gs)⟩:Gs),a)
  else
   if d=(⟨#[119,104,105,108,101]⟩:BA) then
    (mJ fu (⟨b.l,c,b.c,b.e⟩:jy) 1 0).bind fun a7=>
    iA a7 fun E F=>
    (r_r03_block F (wr (x1+1))).bind fun a7=>
    iA a7 fun G a7=>iA a7 fun a4 H=>
    some ((⟨5,i.c,0,be,be,0,0,([]:List Ge),be,0,([E]:List Ge),G,([]:List Gs)⟩:Gs),H)
   else
    if d=(⟨#[116,114,121]⟩:BA) then
     (r_r03_block (⟨b.l,c,b.c,b.e⟩:jy) (wr (x1+1))).bind fun a7=>
     iA a7 fun I a7=>iA a7 fun a5 J=>
     (lY fu J (⟨#[99,97,116,99,104]⟩:BA)).bind fun K=>
     (pV fu K).bind fun a7=>
     iA a7 fun L M=>
     (r_r03_block M (wr (x1+1))).bind fun a7=>
     iA a7 fun N a7=>iA a7 fun a6 P=>
     some ((⟨8,i.c,0,L,be,0,0,([]:List Ge),be,0,([]:List Ge),I,N⟩:Gs),P)
    else
     if d=(⟨#[114,101,116,117,114,110]⟩:BA) then
      (tX fu (⟨b.l,c,b.c,b.e⟩:jy) (⟨6,i.c,0,be,be,0,0,([]:List Ge),be,0,([]:List Ge),([]:List Gs),([]:List Gs)⟩:Gs) true).bind fun a7=>
      iA a7 fun Q R=>
      (lY fu Q (⟨#[59]⟩:BA)).bind fun S=>
      some (R,S)
     else
      if d=(⟨#[116,104,114,111,119]⟩:BA) then
       (tX fu (⟨b.l,c,b.c,b.e⟩:jy) (⟨7,i.c,0,be,be,0,0,([]:List Ge),be,0,([]:List Ge),([]:List Gs),([]:List Gs)⟩:Gs) false).bind fun a7=>
       iA a7 fun U W=>
       (lY fu U (⟨#[59]⟩:BA)).bind fun X=>
       some (W,X)
      else
       if d=(⟨#[112,114,105,110,116]⟩:BA) then
        (tX fu (⟨b.l,c,b.c,b.e⟩:jy) (⟨9,i.c,0,be,be,0,0,([]:List Ge),be,0,([]:List Ge),([]:List Gs),([]:List Gs)⟩:Gs) false).bind fun a7=>
        iA a7 fun Y a0=>
        (lY fu Y (⟨#[59]⟩:BA)).bind fun j=>
        some (a0,j)
       else
        (yf fu (⟨b.l,c,b.c,b.e⟩:jy) (⟨0,i.c,0,be,be,0,0,([]:List Ge),be,0,([]:List Ge),([]:List Gs),([]:List Gs)⟩:Gs)).bind fun a7=>
        iA a7 fun k m=>
        (lY fu k (⟨#[59]⟩:BA)).bind fun p=>
        some (m,p)
 ) (fun o=>some o)
def vg:Nat→(jy→Int→Option ((List Gs) × Int × jy)) × (jy→Int→Option (Gs × jy))
 | 0=>((fun _ _=>none),(fun _ _=>none))
 | fu+1=>(zx fu ((vg fu).1) ((vg fu).2),uW fu ((vg fu).1) ((vg fu).2))
def xy (fu:Nat):=(vg fu).1
def wW (fu:Nat):=(vg fu).2
theorem JR (fu:Nat)(r_r03_block:vP) (r_r03_statement:rD) (H_r03_block:xH r_r03_block) (H_r03_statement:vX r_r03_statement):xH (zx fu r_r03_block r_r03_statement):=by
 intro w0 aQ x0 x1 N x z R hP B
 unfold zx at B
 have b:=hP.bx
 clear hP
 generalize hG:lT _=G at b ⊢
 refine cf Try.func66 r (l8 [(0,Pt N),(1,V x1)] ⟨r,r,y⟩ fun aR=>q (g (s (nL r) (s (xi r) (n (q (g (s (nL r) (n (q (g (s (mp r) ?_))))))))))))
 obtain ⟨S,h1,B⟩:=bs B
 refine sc (ec xx r) (mG fu (b.pr [0] [] [0] r) h1) ?_
 rintro _ w1 ⟨rfl,X⟩
 replace b:=b.cn [0] [] X
 refine n (q ?_)
 replace b:=b.BJ Gs 111
 obtain ⟨Y2,a,B⟩:=bs B
 refine oG (fun f w=>∃ (o:List Gs) (c:OA)(d:Nat)(j:LV)(p:List kv) (t:Int)(u:Int)(v:Int),Has f [(0,Pt N),(6,Z c o d)]∧Bx w0 w aQ G [O w0.heap.size c d 111 Gs j,.box N 102 #[Z x p z,V t,V u,V v]] [.l x z p,.els j o]∧Ld.go (o,p,t,u,v)=Y2) (fun J2 a6=>?_) ?_
 ·refine oF (kI (fun aS f w=>∃ (o:List Gs) (c:OA)(d:Nat)(j:LV)(p:List kv) (t:Int)(u:Int)(v:Int),Has f [(0,Pt N),(1,V x1),(6,Z c o d)]∧Bx w0 w aQ G [O w0.heap.size c d 111 Gs j,.box N 102 #[Z x p z,V t,V u,V v]] [.l x z p,.els j o]∧qO fu r_r03_block r_r03_statement x1 aS o p t u v=some Y2) fu ⟨([]:List Gs),none,0,[],S.l,S.a,S.c,S.e,⟨r,r,r,y⟩,(b.dp [1,0]),a⟩ ?_)
  clear b a
  rintro n2 f w ⟨o,c,d,j,p,t,u,v,hf,b,a⟩ K2 a2
  obtain ⟨aR,rfl⟩:=gP _ _ hf
  clear hf
  cases n2 with
  | zero=>exact nn a
  | succ n2=>
   rw [qO] at a
   refine q (q (g (s (mp r) (s (xn r) (s (tJ r) (s (CU r (b.bk 1 r) r) (s (kK r r) (s (jY r) ?_))))))))
   rcases iv a with ⟨h4,a⟩|⟨h4,a⟩
   ·rw [decide_eq_true h4]
    refine jW r (s (mp r) ?_)
    obtain ⟨av,h5,a⟩:=bs a
    refine jW r (sc (ec wD r) (nQ fu (b.pr [1] [0] [0] r) h5) ?_)
    rintro _ w5 ⟨rfl,X⟩
    replace b:=b.cn [1] [0] X
    refine jW r (s (xc r) (s (jO r r) (n ?_)))
    rcases iv a with ⟨h6,a⟩|⟨h6,a⟩
    ·refine jH (cb h6) (wk (oF (q (g (s (mp r) ?_)))))
     obtain ⟨aw,h7,a⟩:=bs a
     refine sc (ec Tu r) (H6 fu (b.pr [0] [1] [1] r) h7) ?_
     rintro _ w7 ⟨rfl,X⟩
     replace b:=b.cn [0] [1] X
     refine s (xc r) (n ?_)
     rcases iv a with ⟨h8,a⟩|⟨h8,a⟩
     ·refine jH (cb h8) (g (s (mp r) ?_))
      obtain ⟨U,h9,a⟩:=bs a
      refine sc (ec DX r) (ui fu (b.pr [0] [1] [2] r) h9) ?_
      rintro _ w9 ⟨rfl,X⟩
      replace b:=b.cn [0] [1] X
      exact n (a2 n2 _ _ (Nat.lt_succ_self _) ⟨o,c,d,j,U.l,U.a,U.c,U.e,⟨r,r,r,y⟩,(b.ad [1,0] [0,4]),a⟩)
     replace h8:=nt h8
     refine jI (cb h8) (q (g (s (mi r) (s (vD r r) (n ?_)))))
     rcases iv a with ⟨a3,a⟩|⟨a3,a⟩
     ·refine jH (bt a3) (g (s (mp r) ?_))
      obtain ⟨L,ah,a⟩:=bs a
      refine sc (ec DX r) (ui fu (b.pr [0] [1] [2] r) ah) ?_
      rintro _ aB ⟨rfl,X⟩
      replace b:=b.cn [0] [1] X
      exact n (a2 n2 _ _ (Nat.lt_succ_self _) ⟨o,c,d,j,L.l,L.a,L.c,L.e,⟨r,r,r,y⟩,(b.ad [1,0] [0,4]),a⟩)
     refine jI (bf a3) (g (s (mH r) (s (mp r) (s (mi r) ?_))))
     obtain ⟨m,M,ai,a⟩:=lV a
     refine sc (ec Uz r) (H_r03_statement (b.pr [0] [1] [2] r) ai) ?_
     rintro _ aC ⟨C,D,E,F,H,I,J,K,rfl,X⟩
     replace b:=b.cn [0] [1] X
     refine qE (jV b [[V m.e,V m.c,V m.n,T m.a,T m.g,V m.m,V m.j,Z C m.d D,T m.k,V m.h,Z E m.b F,Z H m.f I,Z J m.i K]] ([m]:List Gs) (tu r) r r (by decide) ⟨(jM.tN ⟨C,D,E,F,H,I,J,K,r,(b.dl 0 r),(b.dl 1 r),(b.dl 2 r),(b.dl 3 r)⟩),y⟩) ?_
     rintro _ aD ⟨aE,rfl,b⟩
     obtain ⟨aj,aa,a⟩:=bs a
     refine qE (kS b 2 9 r r yC jP r (by decide) (by decide) (Nat.le_refl _) r r (b.Ay 0 0 r r) aa) ?_
     rintro _ aF ⟨ak,al,am,rfl,b⟩
     exact s (nL r) (n (a2 n2 _ _ (Nat.lt_succ_self _) ⟨aj,ak,al,am,M.l,M.a,M.c,M.e,⟨r,r,r,y⟩,(b.ad [2,1] [5,9]),a⟩))
    replace h6:=nt h6
    exact jI (cb h6) (ve (a6 _ _ ⟨o,c,d,j,p,t,u,v,⟨r,r,y⟩,(b.ad [1,0] [1,2]),sm a⟩))
   rw [decide_eq_false h4]
   exact jB r (jB r (jB r (s (jZ r r) (n (jI r (ve (a6 _ _ ⟨o,c,d,j,p,t,u,v,⟨r,r,y⟩,b,sm a⟩)))))))
 clear b
 rintro f w ⟨o,c,d,j,p,t,u,v,hf,b,an⟩
 obtain ⟨aR,rfl⟩:=gP _ _ hf
 clear hf
 subst an
 replace B:=gi B
 replace B:=pi (mf B)
 refine q (g (s (xi r) (n (q ?_))))
 obtain ⟨ao,A,B⟩:=bs B
 refine oG (fun f w=>∃ (Q:Int),Has f [(0,Pt N),(6,Z c o d),(7,V Q)]∧Bx w0 w aQ G [O w0.heap.size c d 111 Gs j,.box N 102 #[Z x p z,V t,V u,V v]] [.l x z p,.els j o]∧Ld.go Q=ao) (fun aG a1=>?_) ?_
 ·unfold xM at A
  refine q (g (s (mp r) (s (xn r) (s (tJ r) (s (CU r (b.bk 1 r) r) (s (kK r r) (n ?_)))))))
  rcases iv A with ⟨a4,A⟩|⟨a4,A⟩
  ·refine jH (bt a4) (oJ b [1] [0] [] (by kernel_rfl) ?_)
   replace b:=b.drew
   have Y:=(b.ad [1] [0])
   refine pF 0 r (mp r) Y (pF 1 r (xn r) Y (pF 2 r (zJ r) Y (uF 3 r (fun hS=>NJ r (hS.bk 0 r) r) Y (pF 4 r (mp r) Y (pF 5 r (xn r) Y (pF 6 r (mP r) Y (uF 7 r (fun hS=>l3 r (hS.bk 0 r) r) Y ?_)))))))
   obtain ⟨a0,W,A⟩:=bs A
   obtain ⟨aH,ab,W⟩:=kG W
   exact pF 8 r (kZ CW qJ r r ab (b.dl 0 r) W) Y (pF 9 r (Jz r) Y (tU 10 r (fun _ hS=>kC E8 r r ((vB (ds:=[V a0.e,V a0.c,T a0.a,V a0.d]) (hS.dl 0 r) W (fun _ h=>h)) 1 _ r)) (sF Y) (pF 11 r (xi r) Y (hD (a1 _ _ ⟨a0.c,⟨r,r,r,y⟩,b,sm A⟩)))))
  exact jI (bf a4) (wk (a1 _ _ ⟨0,⟨r,r,r,y⟩,b,sm A⟩))
 clear b
 rintro f w ⟨Q,hf,b,ac⟩
 obtain ⟨aR,rfl⟩:=gP _ _ hf
 clear hf
 subst ac
 replace B:=gi B
 refine q (g (s (mp r) ?_))
 obtain ⟨ap,aq,B⟩:=bs B
 refine sc (ec xx r) (mG fu (b.pr [1] [0] [0] r) aq) ?_
 rintro _ aI ⟨rfl,X⟩
 replace b:=b.cn [1] [0] X
 refine n (q (g (s (mH r) (s (mi r) (s (nL r) (s (xi r) (n (kP ?_))))))))
 obtain rfl:=sm B
 exact rE r (kT r) (kT r) (lw (lw (⟨c,d,j,r,(b.ad [1,0] [2,0])⟩)))
theorem EA (fu:Nat)(r_r03_block:vP) (r_r03_statement:rD) (H_r03_block:xH r_r03_block) (H_r03_statement:vX r_r03_statement):vX (uW fu r_r03_block r_r03_statement):=by
 intro w0 cN x0 x1 ap a5 a6 R hP p
 unfold uW at p
 have a:=hP.bx
 clear hP
 generalize hG:lT _=G at a ⊢
 refine cf Try.func94 r ?_
 refine l8 [(0,Pt ap),(1,V x1)] ⟨r,r,y⟩ fun cO=>?_
 refine q (g (tH a (ko jP) fun w1 b1 a=>?_))
 refine n (q (oJ a [1] [0] [] (by kernel_rfl) ?_))
 replace a:=a.drew
 have hs:=(a.arr [1] r)
 refine pF 0 r (mp r) hs (pF 1 r (xn r) hs (pF 2 r (zJ r) hs (uF 3 r (fun hS=>NJ r (hS.bk 0 r) r) hs (pF 4 r (mp r) hs (pF 5 r (xn r) hs (pF 6 r (mP r) hs (uF 7 r (fun hS=>l3 r (hS.bk 0 r) r) hs ?_)))))))
 obtain ⟨Q,ak,p⟩:=bs p
 obtain ⟨k2,aG,ak⟩:=kG ak
 refine pF 8 r (kZ CW qJ r r aG (a.dl 0 r) ak) hs (pF 9 r (Jz r) hs (tU 10 r (fun _ hS=>kC E8 r r ((vB (ds:=[V Q.e,V Q.c,T Q.a,V Q.d]) (hS.dl 0 r) ak (fun _ h=>h)) 1 _ r)) (sF hs) (pF 11 r (P9 r) hs ?_)))
 refine hO 12 (oo r r (rF a (ko jP)) ?_)
 rintro _ w3 ⟨b3,rfl,a⟩
 have hs:=(a.arr [2] r)
 refine ⟨(sF hs),?_⟩
 refine hO 13 (os r r (nE a 0 [V 0,V Q.c,V 0,T be,T be,V 0,V 0,sn,T be,V 0,sn,sn,sn] r jP r r) fun w4 a=>?_)
 have hs:=(a.arr [2] r)
 refine ⟨(sF hs),?_⟩
 refine hD (q (g (s (mZ r) (n (q ?_)))))
 obtain ⟨Y5,ah,p⟩:=bs p
 refine oG (fun f w=>∃ (al:BA) (am:Int),Has f [(0,Pt ap),(1,V x1),(4,Pt b1),(5,Pt b3),(6,T al)]∧Bx w0 w cN G [.box b3 111 #[V 0,V Q.c,V 0,T be,T be,V 0,V 0,sn,T be,V 0,sn,sn,sn],.box b1 111 #[V 0,V 0,V 0,T be,T be,V 0,V 0,sn,T be,V 0,sn,sn,sn],.box ap 102 #[Z a5 x0.l a6,V am,V x0.c,V x0.e]] [.l a5 a6 x0.l]∧Ld.go (al,am)=Y5) (fun J5 aH=>?_) ?_
 ·unfold uR at ah
  refine q (g (s (mp r) ?_))
  obtain ⟨bK,h6,ah⟩:=bs ah
  refine sc (ec D7 r) (um fu (a.pr [2] [0,1] [0] r) h6) ?_
  rintro _ w6 ⟨rfl,J⟩
  replace a:=a.cn [2] [0,1] J
  refine n ?_
  rcases iv ah with ⟨h7,ah⟩|⟨h7,ah⟩
  ·refine jH (cb h7) (q (oJ a [0] [1] [] (by kernel_rfl) ?_))
   replace a:=a.drew
   have hs:=(a.ad [0] [1])
   refine pF 0 r (mp r) hs (pF 1 r (xn r) hs (pF 2 r (zJ r) hs (uF 3 r (fun hS=>NJ r (hS.bk 0 r) r) hs (pF 4 r (mp r) hs (pF 5 r (xn r) hs (pF 6 r (mP r) hs (uF 7 r (fun hS=>l3 r (hS.bk 0 r) r) hs (pF 8 r (kZ CW qJ r r aG (a.dl 1 r) ak) hs (pF 9 r (JN r) hs (tU 10 r (fun _ hS=>kC uk r r ((vB (ds:=[V Q.e,V Q.c,T Q.a,V Q.d]) (hS.dl 0 r) ak (fun _ h=>h)) 2 _ r)) (sF hs) (pF 11 r (mZ r) hs (hD (g ?_)))))))))))))
   refine s (mp r) (s (xn r) (s (mP r) (s (l3 r (a.bk 0 r) r) (s (kN r r) (s (xn r) (s (mP r) (lu (lW a 0 [V (wr (x0.a+1))] r pI r r) fun w8 a=>?_)))))))
   refine n ?_
   exact aH _ _ ⟨Q.a,(wr (x0.a+1)),⟨r,r,r,r,r,y⟩,(a.ad [1,2,0] [1]),sm ah⟩
  replace h7:=nt h7
  refine jI (cb h7) (wk ?_)
  exact aH _ _ ⟨(⟨#[]⟩:BA),x0.a,⟨r,r,r,r,r,y⟩,(a.ad [1,2,0] [1]),sm ah⟩
 clear a
 rintro f w ⟨al,am,hf,a,aP⟩
 obtain ⟨cO,rfl⟩:=gP _ _ hf
 clear hf
 subst aP
 replace p:=gi p
 replace p:=pi p
 refine q (q (g (s (lh r) (n (oF (q (g (s (rH r r) (s (jT r) (n ?_))))))))))
 rcases iv p with ⟨h9,p⟩|⟨h9,p⟩
 ·refine jH (bt h9) (q (g (s (mp r) ?_)))
  obtain ⟨an,aR,aS,p⟩:=lV p
  refine sc (ec CF r) (rX fu (a.pr [2] [0,1] [0] r) aS) ?_
  rintro _ bS ⟨rfl,J⟩
  replace a:=a.cn [2] [0,1] J
  refine s (uG r) (lu (lW a 1 [V 1] r pI r r) fun bT a=>?_)
  refine s (wZ r) (lu (lW a 1 [T an] r qc r r) fun bU a=>?_)
  refine n (q (g (s (mp r) ?_)))
  obtain ⟨aT,aU,p⟩:=bs p
  refine sc (ec xx r) (mG fu (a.pr [0] [1,2] [0] r) aU) ?_
  rintro _ bV ⟨rfl,J⟩
  replace a:=a.cn [0] [1,2] J
  refine n (q (g (s (mp r) ?_)))
  replace a:=a.ku (d:=.l none 0 ([]:List Ge)) oN
  replace a:=a.ku (d:=.l none 0 ([]:List Ge)) oN
  replace a:=a.ku (d:=.l none 0 ([]:List Gs)) oN
  replace a:=a.ku (d:=.l none 0 ([]:List Gs)) oN
  obtain ⟨aV,c,aW,p⟩:=lV p
  refine sc (ec R9 r) (Jv fu (a.pr [0,1] [2] [4,3,2,1,0] r) aW) ?_
  rintro _ bW ⟨rfl,J⟩
  replace a:=a.cn [0,1] [2] J
  refine n (g (s (mp r) ?_))
  obtain ⟨aX,aY,p⟩:=bs p
  refine sc (ec xx r) (mG fu (a.pr [0] [1,2] [0] r) aY) ?_
  rintro _ bX ⟨rfl,J⟩
  replace a:=a.cn [0] [1,2] J
  refine n (q (g (s (mD [V c.e,V c.c,V c.n,T c.a,T c.g,V c.m,V c.j,Z none c.d 0,T c.k,V c.h,Z none c.b 0,Z none c.f 0,Z none c.i 0] lF jP r (a.bk 1 r)) (lu (nE a 2 [V c.e,V c.c,V c.n,T c.a,T c.g,V c.m,V c.j,Z none c.d 0,T c.k,V c.h,Z none c.b 0,Z none c.f 0,Z none c.i 0] r jP r r) fun bY a=>?_))))
  refine n (kP ?_)
  obtain rfl:=sm p
  refine jC r (uK r lF r jP r (a.bk 2 r)) ?_
  exact lw (⟨none,0,none,0,none,0,none,0,r,(a.ad [0] [2,3,4,5,0])⟩)
 refine jI (bf h9) (q (g (s (rH r r) (s (jT r) (n ?_)))))
 rcases iv p with ⟨ar,p⟩|⟨ar,p⟩
 ·refine jH (bt ar) (q (g (s (mp r) ?_)))
  obtain ⟨v,aZ,b0,p⟩:=lV p
  refine sc (ec Bl r) (tZ fu (a.pr [2] [0,1] [0] r) b0) ?_
  rintro _ bZ ⟨ab,ac,rfl,J⟩
  replace a:=a.cn [2] [0,1] J
  refine qE (jV a [[V v.e,V v.d,V v.j,T v.a,T v.c,Z ab v.b ac]] ([v]:List Ge) (kX r) r r (by decide) ⟨(jL.tN ⟨ab,ac,r,(a.dl 0 r)⟩),y⟩) ?_
  rintro _ c0 ⟨a1,rfl,a⟩
  refine s (uG r) (lu (lW a 2 [V 4] r pI r r) fun c1 a=>?_)
  refine s (qA r) (lu (lW a 2 [.slice (ad a1) ([v]:List Ge).length 1] r ul r r) fun c2 a=>?_)
  refine n (q (g (s (mp r) (s (mi r) (s (kN r r) ?_)))))
  obtain ⟨B,b2,a7,b4,p⟩:=qC p
  refine sc (ec Iu r) (H_r03_block (a.pr [1] [0,2,3] [2] r) b4) ?_
  rintro _ c3 ⟨t,u,aB,rfl,J⟩
  have ag:=a.rM.size
  replace a:=a.cn [1] [0,2,3] J
  replace a:=a.rb 0 w0.heap.size r ag
  refine s pK (s (jN r r) (s (jN r r) (s (tO r) (lu (lW a 3 [Z t B u] r yF r r) fun c4 a=>?_))))
  refine n (q (g (s (mp r) (s (xn r) (s (tJ r) (s (CU r (a.bk 1 r) r) (s (kK r r) (s (jY r) ?_))))))))
  rcases iv p with ⟨au,p⟩|⟨au,p⟩
  ·rw [decide_eq_true au]
   refine jW r (s (mp r) ?_)
   obtain ⟨b5,b6,p⟩:=bs p
   refine jW r ?_
   refine sc (ec wD r) (nQ fu (a.pr [1] [0,2,3,4] [1] r) b6) ?_
   rintro _ c5 ⟨rfl,J⟩
   replace a:=a.cn [1] [0,2,3,4] J
   refine s (jO r r) (n ?_)
   rcases iv p with ⟨ao,p⟩|⟨ao,p⟩
   ·refine jH (cb ao) (q (g (s (mp r) (s (xn r) (s (mP r) (s (l3 r (a.bk 0 r) r) (s (kN r r) (s (xn r) (s (mP r) (lu (lW a 0 [V (wr (a7.a+1))] r pI r r) fun c6 a=>?_))))))))))
    refine n (g (s (mp r) (s (mi r) (s (kN r r) ?_))))
    obtain ⟨a8,b7,b8,b9,p⟩:=qC p
    refine sc (ec Iu r) (H_r03_block (a.pr [0] [1,2,3,4] [2] r) b9) ?_
    rintro _ c7 ⟨C,D,aC,rfl,J⟩
    have ag:=a.rM.size
    replace a:=a.cn [0] [1,2,3,4] J
    replace a:=a.rb 0 w0.heap.size r ag
    refine s pK (s (jN r r) (s (jN r r) (s (uj r) (lu (lW a 4 [Z C a8 D] r yF r r) fun c8 a=>?_))))
    refine n (q (g (s (mD [V 4,V Q.c,V 0,T be,T be,V 0,V 0,sn,T be,V 0,.slice (ad a1) ([v]:List Ge).length 1,Z t B u,Z C a8 D] lF jP r (a.bk 4 r)) (lu (nE a 5 [V 4,V Q.c,V 0,T be,T be,V 0,V 0,sn,T be,V 0,.slice (ad a1) ([v]:List Ge).length 1,Z t B u,Z C a8 D] r jP r r) fun c9 a=>?_))))
    refine n (kP ?_)
    replace a:=a.fz 3 5 r r
    replace a:=a.fz 2 4 r r
    replace a:=a.fz 0 2 r r
    replace a:=a.ku (d:=.l none 0 ([]:List Ge)) oN
    obtain rfl:=sm p
    refine jC r (uK r lF r jP r (a.bk 2 r)) ?_
    exact lw (⟨none,0,(ad a1),1,t,u,C,D,r,(a.ad [0] [0,3,2,1,4])⟩)
   replace ao:=nt ao
   refine jI (cb ao) (wk (q (g (s (mD [V 4,V Q.c,V 0,T be,T be,V 0,V 0,sn,T be,V 0,.slice (ad a1) ([v]:List Ge).length 1,Z t B u,sn] lF jP r (a.bk 3 r)) (lu (nE a 4 [V 4,V Q.c,V 0,T be,T be,V 0,V 0,sn,T be,V 0,.slice (ad a1) ([v]:List Ge).length 1,Z t B u,sn] r jP r r) fun cc a=>?_)))))
   refine n (kP ?_)
   replace a:=a.fz 2 3 r r
   replace a:=a.fz 1 2 r r
   replace a:=a.ku (d:=.l none 0 ([]:List Ge)) oN
   replace a:=a.ku (d:=.l none 0 ([]:List Gs)) oN
   obtain rfl:=sm p
   refine jC r (uK r lF r jP r (a.bk 2 r)) ?_
   exact lw (⟨none,0,(ad a1),1,t,u,none,0,r,(a.ad [0] [1,3,2,0,5])⟩)
  rw [decide_eq_false au]
  refine jB r (jB r (s (jZ r r) (n (jI r (wk (q (g (s (mD [V 4,V Q.c,V 0,T be,T be,V 0,V 0,sn,T be,V 0,.slice (ad a1) ([v]:List Ge).length 1,Z t B u,sn] lF jP r (a.bk 3 r)) (lu (nE a 4 [V 4,V Q.c,V 0,T be,T be,V 0,V 0,sn,T be,V 0,.slice (ad a1) ([v]:List Ge).length 1,Z t B u,sn] r jP r r) fun cd a=>?_)))))))))
  refine n (kP ?_)
  replace a:=a.fz 2 2 r r
  replace a:=a.fz 0 1 r r
  replace a:=a.ku (d:=.l none 0 ([]:List Ge)) oN
  replace a:=a.ku (d:=.l none 0 ([]:List Gs)) oN
  obtain rfl:=sm p
  refine jC r (uK r lF r jP r (a.bk 2 r)) ?_
  exact lw (⟨none,0,(ad a1),1,t,u,none,0,r,(a.ad [0] [1,3,2,0,4])⟩)
 refine jI (bf ar) (q (g (s (rH r r) (s (jT r) (n ?_)))))
 rcases iv p with ⟨av,p⟩|⟨av,p⟩
 ·refine jH (bt av) (q (g (s (mp r) ?_)))
  obtain ⟨A,ba,bb,p⟩:=lV p
  refine sc (ec Bl r) (tZ fu (a.pr [2] [0,1] [0] r) bb) ?_
  rintro _ ce ⟨ae,af,rfl,J⟩
  replace a:=a.cn [2] [0,1] J
  refine qE (jV a [[V A.e,V A.d,V A.j,T A.a,T A.c,Z ae A.b af]] ([A]:List Ge) (kX r) r r (by decide) ⟨(jL.tN ⟨ae,af,r,(a.dl 0 r)⟩),y⟩) ?_
  rintro _ cg ⟨aj,rfl,a⟩
  refine s (uG r) (lu (lW a 2 [V 5] r pI r r) fun ch a=>?_)
  refine s (qA r) (lu (lW a 2 [.slice (ad aj) ([A]:List Ge).length 1] r ul r r) fun ci a=>?_)
  refine n (g (s (mp r) (s (mi r) (s (kN r r) ?_))))
  obtain ⟨a9,bc,bd,bg,p⟩:=qC p
  refine sc (ec Iu r) (H_r03_block (a.pr [1] [0,2,3] [2] r) bg) ?_
  rintro _ cj ⟨E,F,aD,rfl,J⟩
  have ag:=a.rM.size
  replace a:=a.cn [1] [0,2,3] J
  replace a:=a.rb 0 w0.heap.size r ag
  refine s pK (s (jN r r) (s (jN r r) (s (tO r) (lu (lW a 3 [Z E a9 F] r yF r r) fun ck a=>?_))))
  refine n (q (g (s (mD [V 5,V Q.c,V 0,T be,T be,V 0,V 0,sn,T be,V 0,.slice (ad aj) ([A]:List Ge).length 1,Z E a9 F,sn] lF jP r (a.bk 3 r)) (lu (nE a 4 [V 5,V Q.c,V 0,T be,T be,V 0,V 0,sn,T be,V 0,.slice (ad aj) ([A]:List Ge).length 1,Z E a9 F,sn] r jP r r) fun cm a=>?_))))
  refine n (kP ?_)
  replace a:=a.fz 2 2 r r
  replace a:=a.fz 0 1 r r
  replace a:=a.ku (d:=.l none 0 ([]:List Ge)) oN
  replace a:=a.ku (d:=.l none 0 ([]:List Gs)) oN
  obtain rfl:=sm p
  refine jC r (uK r lF r jP r (a.bk 2 r)) ?_
  exact lw (⟨none,0,(ad aj),1,E,F,none,0,r,(a.ad [0] [1,3,2,0,4])⟩)
 refine jI (bf av) (q (g (s (rH r r) (s (jT r) (n ?_)))))
 rcases iv p with ⟨aw,p⟩|⟨aw,p⟩
 ·refine jH (bt aw) (q (g (s (uG r) (lu (lW a 0 [V 8] r pI r r) fun cn a=>?_))))
  refine n (q (g (s (mp r) (s (mi r) (s (kN r r) ?_)))))
  obtain ⟨a2,bh,bi,bj,p⟩:=qC p
  refine sc (ec Iu r) (H_r03_block (a.pr [2] [0,1] [0] r) bj) ?_
  rintro _ co ⟨x,z,aE,rfl,J⟩
  have ag:=a.rM.size
  replace a:=a.cn [2] [0,1] J
  replace a:=a.rb 0 w0.heap.size r ag
  refine s pK (s (jN r r) (s (jN r r) (s (tO r) (lu (lW a 2 [Z x a2 z] r yF r r) fun Ta a=>?_))))
  refine n (q (g (s (mp r) ?_)))
  obtain ⟨bl,bm,p⟩:=bs p
  refine sc (ec xx r) (mG fu (a.pr [1] [0,2,3] [1] r) bm) ?_
  rintro _ cp ⟨rfl,J⟩
  replace a:=a.cn [1] [0,2,3] J
  refine n (q (g (s (mp r) ?_)))
  obtain ⟨a4,bn,bo,p⟩:=lV p
  refine sc (ec CF r) (rX fu (a.pr [0] [1,2,3] [0] r) bo) ?_
  rintro _ cq ⟨rfl,J⟩
  replace a:=a.cn [0] [1,2,3] J
  refine s (wZ r) (lu (lW a 2 [T a4] r qc r r) fun cr a=>?_)
  refine n (g (s (mp r) (s (mi r) (s (kN r r) ?_))))
  obtain ⟨aa,bp,bq,br,p⟩:=qC p
  refine sc (ec Iu r) (H_r03_block (a.pr [0] [1,2,3] [0] r) br) ?_
  rintro _ ct ⟨H,I,aF,rfl,J⟩
  have ag:=a.rM.size
  replace a:=a.cn [0] [1,2,3] J
  replace a:=a.rb 0 w0.heap.size r ag
  refine s pK (s (jN r r) (s (jN r r) (s (uj r) (lu (lW a 3 [Z H aa I] r yF r r) fun cu a=>?_))))
  refine n (q (g (s (mD [V 8,V Q.c,V 0,T a4,T be,V 0,V 0,sn,T be,V 0,sn,Z x a2 z,Z H aa I] lF jP r (a.bk 3 r)) (lu (nE a 4 [V 8,V Q.c,V 0,T a4,T be,V 0,V 0,sn,T be,V 0,sn,Z x a2 z,Z H aa I] r jP r r) fun cv a=>?_))))
  refine n (kP ?_)
  replace a:=a.fz 2 4 r r
  replace a:=a.fz 0 1 r r
  replace a:=a.ku (d:=.l none 0 ([]:List Ge)) oN
  replace a:=a.ku (d:=.l none 0 ([]:List Ge)) oN
  obtain rfl:=sm p
  refine jC r (uK r lF r jP r (a.bk 2 r)) ?_
  exact lw (⟨none,0,none,0,x,z,H,I,r,(a.ad [0] [1,0,3,2,4])⟩)
 refine jI (bf aw) (q (g (s (rH r r) (s (jT r) (n ?_)))))
 rcases iv p with ⟨ax,p⟩|⟨ax,p⟩
 ·refine jH (bt ax) (q (g (s (uG r) (lu (lW a 0 [V 6] r pI r r) fun cw a=>?_))))
  refine n (q (g (s (mp r) ?_)))
  replace a:=a.ku (d:=.l none 0 ([]:List Ge)) oN
  replace a:=a.ku (d:=.l none 0 ([]:List Ge)) oN
  replace a:=a.ku (d:=.l none 0 ([]:List Gs)) oN
  replace a:=a.ku (d:=.l none 0 ([]:List Gs)) oN
  obtain ⟨bu,j,bv,p⟩:=lV p
  refine sc (ec FX r) (yo fu (a.pr [2,0] [1] [4,3,2,1,0] r) bv) ?_
  rintro _ cx ⟨S,U,rfl,J⟩
  replace a:=a.cn [2,0] [1] J
  refine n (g (s (mp r) ?_))
  obtain ⟨bw,bz,p⟩:=bs p
  refine sc (ec xx r) (mG fu (a.pr [0] [1,2] [0] r) bz) ?_
  rintro _ cy ⟨rfl,J⟩
  replace a:=a.cn [0] [1,2] J
  refine n (q (g (s (mD [V j.e,V j.c,V j.n,T j.a,T j.g,V j.m,V j.j,Z none j.d 0,T j.k,V j.h,Z S j.b U,Z none j.f 0,Z none j.i 0] lF jP r (a.bk 1 r)) (lu (nE a 2 [V j.e,V j.c,V j.n,T j.a,T j.g,V j.m,V j.j,Z none j.d 0,T j.k,V j.h,Z S j.b U,Z none j.f 0,Z none j.i 0] r jP r r) fun cz a=>?_))))
  refine n (kP ?_)
  obtain rfl:=sm p
  refine jC r (uK r lF r jP r (a.bk 2 r)) ?_
  exact lw (⟨none,0,S,U,none,0,none,0,r,(a.ad [0] [2,3,4,5,0])⟩)
 refine jI (bf ax) (q (g (s (rH r r) (s (jT r) (n ?_)))))
 rcases iv p with ⟨ay,p⟩|⟨ay,p⟩
 ·refine jH (bt ay) (q (g (s (uG r) (lu (lW a 0 [V 7] r pI r r) fun cA a=>?_))))
  refine n (q (g (s (mp r) ?_)))
  replace a:=a.ku (d:=.l none 0 ([]:List Ge)) oN
  replace a:=a.ku (d:=.l none 0 ([]:List Ge)) oN
  replace a:=a.ku (d:=.l none 0 ([]:List Gs)) oN
  replace a:=a.ku (d:=.l none 0 ([]:List Gs)) oN
  obtain ⟨bA,m,bB,p⟩:=lV p
  refine sc (ec FX r) (yo fu (a.pr [2,0] [1] [4,3,2,1,0] r) bB) ?_
  rintro _ cB ⟨W,X,rfl,J⟩
  replace a:=a.cn [2,0] [1] J
  refine n (g (s (mp r) ?_))
  obtain ⟨bC,bD,p⟩:=bs p
  refine sc (ec xx r) (mG fu (a.pr [0] [1,2] [0] r) bD) ?_
  rintro _ cC ⟨rfl,J⟩
  replace a:=a.cn [0] [1,2] J
  refine n (q (g (s (mD [V m.e,V m.c,V m.n,T m.a,T m.g,V m.m,V m.j,Z none m.d 0,T m.k,V m.h,Z W m.b X,Z none m.f 0,Z none m.i 0] lF jP r (a.bk 1 r)) (lu (nE a 2 [V m.e,V m.c,V m.n,T m.a,T m.g,V m.m,V m.j,Z none m.d 0,T m.k,V m.h,Z W m.b X,Z none m.f 0,Z none m.i 0] r jP r r) fun cD a=>?_))))
  refine n (kP ?_)
  obtain rfl:=sm p
  refine jC r (uK r lF r jP r (a.bk 2 r)) ?_
  exact lw (⟨none,0,W,X,none,0,none,0,r,(a.ad [0] [2,3,4,5,0])⟩)
 refine jI (bf ay) (q (g (s (rH r r) (s (jT r) (n ?_)))))
 rcases iv p with ⟨az,p⟩|⟨az,p⟩
 ·refine jH (bt az) (q (g (s (uG r) (lu (lW a 0 [V 9] r pI r r) fun cE a=>?_))))
  refine n (q (g (s (mp r) ?_)))
  replace a:=a.ku (d:=.l none 0 ([]:List Ge)) oN
  replace a:=a.ku (d:=.l none 0 ([]:List Ge)) oN
  replace a:=a.ku (d:=.l none 0 ([]:List Gs)) oN
  replace a:=a.ku (d:=.l none 0 ([]:List Gs)) oN
  obtain ⟨bE,o,bF,p⟩:=lV p
  refine sc (ec FX r) (yo fu (a.pr [2,0] [1] [4,3,2,1,0] r) bF) ?_
  rintro _ cF ⟨Y,a0,rfl,J⟩
  replace a:=a.cn [2,0] [1] J
  refine n (g (s (mp r) ?_))
  obtain ⟨aM,aJ,p⟩:=bs p
  refine sc (ec xx r) (mG fu (a.pr [0] [1,2] [0] r) aJ) ?_
  rintro _ bL ⟨rfl,J⟩
  replace a:=a.cn [0] [1,2] J
  refine n (q (g (s (mD [V o.e,V o.c,V o.n,T o.a,T o.g,V o.m,V o.j,Z none o.d 0,T o.k,V o.h,Z Y o.b a0,Z none o.f 0,Z none o.i 0] lF jP r (a.bk 1 r)) (lu (nE a 2 [V o.e,V o.c,V o.n,T o.a,T o.g,V o.m,V o.j,Z none o.d 0,T o.k,V o.h,Z Y o.b a0,Z none o.f 0,Z none o.i 0] r jP r r) fun bM a=>?_))))
  refine n (kP ?_)
  obtain rfl:=sm p
  refine jC r (uK r lF r jP r (a.bk 2 r)) ?_
  exact lw (⟨none,0,Y,a0,none,0,none,0,r,(a.ad [0] [2,3,4,5,0])⟩)
 refine jI (bf az) (q (g (s (mp r) ?_)))
 replace a:=a.ku (d:=.l none 0 ([]:List Ge)) oN
 replace a:=a.ku (d:=.l none 0 ([]:List Ge)) oN
 replace a:=a.ku (d:=.l none 0 ([]:List Gs)) oN
 replace a:=a.ku (d:=.l none 0 ([]:List Gs)) oN
 obtain ⟨aN,b,aK,p⟩:=lV p
 refine sc (ec Sc r) (Hq fu (a.pr [2,0] [1] [4,3,2,1,0] r) aK) ?_
 rintro _ bN ⟨K,L,M,N,rfl,J⟩
 replace a:=a.cn [2,0] [1] J
 refine n (g (s (mp r) ?_))
 obtain ⟨aO,aL,p⟩:=bs p
 refine sc (ec xx r) (mG fu (a.pr [0] [1,2] [0] r) aL) ?_
 rintro _ bO ⟨rfl,J⟩
 replace a:=a.cn [0] [1,2] J
 refine n (q (g (s (mD [V b.e,V b.c,V b.n,T b.a,T b.g,V b.m,V b.j,Z K b.d L,T b.k,V b.h,Z M b.b N,Z none b.f 0,Z none b.i 0] lF jP r (a.bk 1 r)) (lu (nE a 2 [V b.e,V b.c,V b.n,T b.a,T b.g,V b.m,V b.j,Z K b.d L,T b.k,V b.h,Z M b.b N,Z none b.f 0,Z none b.i 0] r jP r r) fun bP a=>?_))))
 refine n (kP ?_)
 obtain rfl:=sm p
 refine jC r (uK r lF r jP r (a.bk 2 r)) ?_
 exact lw (⟨K,L,M,N,none,0,none,0,r,(a.ad [0] [2,3,4,5,0])⟩)
theorem Il (fu:Nat):xH (xy fu)∧vX (wW fu):=by
 induction fu with
 | zero=>exact ⟨by intro a b;intros;exact nn (by assumption),by intro a b;intros;exact nn (by assumption)⟩
 | succ fu ih=>exact ⟨JR fu (xy fu) (wW fu) ih.1 ih.2,EA fu (xy fu) (wW fu) ih.1 ih.2⟩
theorem Jw (fu:Nat):xH (xy fu):=(Il fu).1
def GX (m:jy→Option (jJ × jy)):Prop:=∀ {p:World} {t:Nat→Prop} {j:jy} {k:Nat} {a:Option Addr} {b:Nat} {R:jJ × jy},Pre p t [.box k 102 #[Z a j.l b,V j.a,V j.c,V j.e]] [.l a b j.l]→m j=some R→
 Calls Try.prog 45 #[Pt k] p (rA fun v w=>iA R fun o c=>∃ (d:OA)(f:Nat)(h:OA)(i:Nat),v=.agg #[Z d o.a f,Z h o.b i]∧Bx p w t (lT [.box k 102 #[Z a j.l b,V j.a,V j.c,V j.e]]) [.box k 102 #[Z a c.l b,V c.a,V c.c,V c.e]] [.l d f o.a,.l h i o.b,.l a b c.l])
def sG (fu:Nat):Nat→(List Gr)→(List kv)→Int→Int→Int→Option (Ld (List Gr × List kv × Int × Int × Int) (jJ × jy))
 | 0,_,_,_,_,_=>none
 | u+1,h,c,d,f,b=>
 if b=0 then
  (ng fu (⟨c,d,f,b⟩:jy) 0 (⟨#[114,101,99,111,114,100]⟩:BA)).bind fun m=>
  if m=true then
   (pV fu (⟨c,(wr (d+1)),f,b⟩:jy)).bind fun v=>
   iA v fun o p=>
   (lY fu p (⟨#[123]⟩:BA)).bind fun i=>
   (xq fu i).bind fun v=>
   iA v fun j k=>
   (lY fu k (⟨#[125]⟩:BA)).bind fun a=>
   (app h ([(⟨o,j⟩:Gr)]:List Gr)).bind fun t=>
   sG fu u t a.l a.a a.c a.e
  else
   some (.go (h,c,d,f,b))
 else
  some (.go (h,c,d,f,b))
def wu (fu:Nat)(a:jy):Option (Ld (List BA × List kv × Int × Int × Int) (jJ × jy)):=
 if a.e=0 then
  (ng fu a 0 (⟨#[41]⟩:BA)).bind fun c=>
  if (!c)=true then
   (xq fu a).bind fun f=>
   iA f fun d b=>
   some (.go (d,b.l,b.a,b.c,b.e))
  else
   some (.go (([]:List BA),a.l,a.a,a.c,a.e))
 else
  some (.go (([]:List BA),a.l,a.a,a.c,a.e))
def sw (fu:Nat):Nat→(List Gn)→(List kv)→Int→Int→Int→Option (Ld (List Gn × List kv × Int × Int × Int) (jJ × jy))
 | 0,_,_,_,_,_=>none
 | B+1,h,a,b,d,c=>
 if c=0 then
  (ng fu (⟨a,b,d,c⟩:jy) 0 (⟨#[102,117,110,99]⟩:BA)).bind fun i=>
  if i=true then
   (ix a b).bind fun C=>
   (pV fu (⟨a,(wr (b+1)),d,c⟩:jy)).bind fun F=>
   iA F fun j k=>
   (lY fu k (⟨#[40]⟩:BA)).bind fun m=>
   (wu fu m).bind fun F=>F.el (fun F=>
   iA F fun p F=>iA F fun t F=>iA F fun u F=>iA F fun v w=>
   (lY fu (⟨t,u,v,w⟩:jy) (⟨#[41]⟩:BA)).bind fun x=>
   (xy fu x 1).bind fun F=>
   iA F fun z F=>iA F fun A f=>
   (app z ([(⟨10,A,0,be,be,0,0,([]:List Ge),be,0,([]:List Ge),([]:List Gs),([]:List Gs)⟩:Gs)]:List Gs)).bind fun D=>
   (app h ([(⟨j,C.c,p,D⟩:Gn)]:List Gn)).bind fun E=>
   sw fu B E f.l f.a f.c f.e
   ) (fun o=>some (.out o))
  else
   some (.go (h,a,b,d,c))
 else
  some (.go (h,a,b,d,c))
def wI (fu:Nat)(u:jy):Option (jJ × jy):=
 (sG fu fu ([]:List Gr) u.l u.a u.c u.e).bind fun v=>v.el (fun v=>
 iA v fun h v=>iA v fun k v=>iA v fun m v=>iA v fun p t=>
 (sw fu fu ([]:List Gn) k m p t).bind fun v=>v.el (fun v=>
 iA v fun f v=>iA v fun b v=>iA v fun c v=>iA v fun d a=>
 if a=0 then
  (qx fu (⟨b,c,d,a⟩:jy) 0 0).bind fun i=>
  if (!i)=true then
   (qy fu (⟨b,c,d,a⟩:jy) 7).bind fun j=>
   some ((⟨h,f⟩:jJ),j)
  else
   some ((⟨h,f⟩:jJ),(⟨b,c,d,a⟩:jy))
 else
  some ((⟨h,f⟩:jJ),(⟨b,c,d,a⟩:jy))
 ) (fun o=>some o)
 ) (fun o=>some o)
theorem FW (fu:Nat):GX (wI fu):=by
 intro w0 cw x0 a2 x z R hP L
 unfold wI at L
 have a:=hP.bx
 clear hP
 generalize hG:lT _=G at a ⊢
 refine cf Try.func45 r ?_
 refine l8 [(0,Pt a2)] ⟨r,y⟩ fun cx=>?_
 refine q (g (tH a (ko uI) fun w1 b1 a=>?_))
 refine n (q (g (tH a (ko uI) fun w2 b2 a=>?_)))
 refine n (q ?_)
 replace a:=a.BJ Gr 127
 obtain ⟨Y3,u,L⟩:=bs L
 refine oG (fun f w=>∃ (p:List Gr) (j:OA)(m:Nat)(t:LV)(F:List kv) (M:Int)(N:Int)(Q:Int),Has f [(0,Pt a2),(2,Pt b1),(3,Pt b2)]∧Bx w0 w cw G [O w0.heap.size j m 127 Gr t,.box b2 26 #[Z j p m,sn],.box b1 26 #[sn,sn],.box a2 102 #[Z x F z,V M,V N,V Q]] [.l x z F,.els t p]∧Ld.go (p,F,M,N,Q)=Y3) (fun J3 aM=>?_) ?_
 ·refine oF (kI (fun cy f w=>∃ (p:List Gr) (j:OA)(m:Nat)(t:LV)(F:List kv) (M:Int)(N:Int)(Q:Int),Has f [(0,Pt a2),(2,Pt b1),(3,Pt b2)]∧Bx w0 w cw G [O w0.heap.size j m 127 Gr t,.box b2 26 #[Z j p m,sn],.box b1 26 #[sn,sn],.box a2 102 #[Z x F z,V M,V N,V Q]] [.l x z F,.els t p]∧sG fu cy p F M N Q=some Y3) fu ⟨([]:List Gr),none,0,[],x0.l,x0.a,x0.c,x0.e,⟨r,r,r,y⟩,(a.dp [1,0]),u⟩ ?_)
  clear a u
  rintro n3 f w ⟨p,j,m,t,F,M,N,Q,hf,a,u⟩ K3 aZ
  obtain ⟨cx,rfl⟩:=gP _ _ hf
  clear hf
  cases n3 with
  | zero=>exact nn u
  | succ n3=>
   rw [sG] at u
   refine q (q (g (s (mp r) (s (xn r) (s (tJ r) (s (CU r (a.bk 3 r) r) (s (kK r r) (s (jY r) ?_))))))))
   rcases iv u with ⟨h5,u⟩|⟨h5,u⟩
   ·rw [decide_eq_true h5]
    refine jW r (s (mp r) ?_)
    obtain ⟨bB,h6,u⟩:=bs u
    refine jW r ?_
    refine sc (ec wD r) (nQ fu (a.pr [3] [0,1,2] [0] r) h6) ?_
    rintro _ w6 ⟨rfl,X⟩
    replace a:=a.cn [3] [0,1,2] X
    refine s (jO r r) (n ?_)
    rcases iv u with ⟨h7,u⟩|⟨h7,u⟩
    ·refine jH (cb h7) (wk (oF (q (g (s (mp r) (s (xn r) (s (mP r) (s (l3 r (a.bk 0 r) r) (s (kN r r) (s (xn r) (s (mP r) (lu (lW a 0 [V (wr (M+1))] r pI r r) fun w8 a=>?_))))))))))))
     refine n (q (g (s (mp r) ?_)))
     obtain ⟨a4,bC,h9,u⟩:=lV u
     refine sc (ec CF r) (rX fu (a.pr [0] [1,2,3] [1] r) h9) ?_
     rintro _ w9 ⟨rfl,X⟩
     replace a:=a.cn [0] [1,2,3] X
     refine s (Qd r) (tH a (ko sK) fun bF bG a=>?_)
     refine lu (nE a 0 [T a4,sn] r sK r r) fun bH a=>?_
     refine n (q (g (s (mp r) ?_)))
     obtain ⟨b3,b4,u⟩:=bs u
     refine sc (ec xx r) (mG fu (a.pr [1] [0,2,3,4] [0] r) b4) ?_
     rintro _ bI ⟨rfl,X⟩
     replace a:=a.cn [1] [0,2,3,4] X
     refine n (q (g (s (mp r) ?_)))
     obtain ⟨a3,b5,b6,u⟩:=lV u
     refine sc (ec Qu r) (DK fu (a.pr [0] [1,2,3,4] [0] r) b6) ?_
     rintro _ bJ ⟨H,I,aI,rfl,X⟩
     have aj:=a.rM.size
     replace a:=a.cn [0] [1,2,3,4] X
     replace a:=a.rb 0 w0.heap.size r aj
     refine s (ww r) (lu (lW a 2 [Z H a3 I] r pJ r r) fun bK a=>?_)
     refine n (q (g (s (mp r) ?_)))
     obtain ⟨a5,b7,u⟩:=bs u
     refine sc (ec xx r) (mG fu (a.pr [1] [0,2,3,4,5] [1] r) b7) ?_
     rintro _ bL ⟨rfl,X⟩
     replace a:=a.cn [1] [0,2,3,4,5] X
     refine n (g (s (wE r) (s (JS r (a.bk 4 r) r) (s (mD [T a4,Z H a3 I] IL sK r (a.bk 2 r)) ?_))))
     replace a:=a.fz 1 1 r r
     refine qE (jV a [[T a4,Z H a3 I]] ([(⟨a4,a3⟩:Gr)]:List Gr) (GU r) r r (by decide) ⟨(kD.tN ⟨H,I,r,(a.dl 0 r)⟩),y⟩) ?_
     rintro _ bM ⟨bN,rfl,a⟩
     obtain ⟨ay,aO,u⟩:=bs u
     refine qE (kS a 3 8 r r Az sK r (by decide) (by decide) (Nat.le_refl _) r r (a.Ay 0 0 r r) aO) ?_
     rintro _ bO ⟨az,aA,b8,rfl,a⟩
     refine s (wE r) (lu (lW a 4 [Z az ay aA] r SG r r) fun bP a=>?_)
     refine n ?_
     exact aZ n3 _ _ (Nat.lt_succ_self _) ⟨ay,az,aA,b8,a5.l,a5.a,a5.c,a5.e,⟨r,r,r,y⟩,(a.ad [3,4,5,1] [2,8]),u⟩
    replace h7:=nt h7
    refine jI (cb h7) (ve ?_)
    exact aM _ _ ⟨p,j,m,t,F,M,N,Q,⟨r,r,r,y⟩,(a.ad [1,2,3,0] [1,2]),sm u⟩
   rw [decide_eq_false h5]
   refine jB r (jB r (s (jZ r r) (n (jI r (ve ?_)))))
   exact aM _ _ ⟨p,j,m,t,F,M,N,Q,⟨r,r,r,y⟩,a,sm u⟩
 clear a
 rintro f w ⟨p,j,m,t,F,M,N,Q,hf,a,b9⟩
 obtain ⟨cx,rfl⟩:=gP _ _ hf
 clear hf
 subst b9
 replace L:=gi L
 replace L:=pi (mf L)
 refine q ?_
 replace a:=a.BJ Gn 82
 obtain ⟨aP,b,L⟩:=bs L
 refine oG (fun f w=>∃ (o:List Gn) (c:OA)(d:Nat)(v:LV)(A:List kv) (C:Int)(D:Int)(E:Int),Has f [(0,Pt a2),(2,Pt b1),(3,Pt b2)]∧Bx w0 w cw G [O w0.heap.size c d 82 Gn v,O w0.heap.size j m 127 Gr t,.box b2 26 #[Z j p m,Z c o d],.box b1 26 #[sn,sn],.box a2 102 #[Z x A z,V C,V D,V E]] [.l x z A,.els v o,.els t p]∧Ld.go (o,A,C,D,E)=aP) (fun bQ ax=>?_) ?_
 ·refine oF (kI (fun cy f w=>∃ (o:List Gn) (c:OA)(d:Nat)(v:LV)(A:List kv) (C:Int)(D:Int)(E:Int),Has f [(0,Pt a2),(2,Pt b1),(3,Pt b2)]∧Bx w0 w cw G [O w0.heap.size c d 82 Gn v,O w0.heap.size j m 127 Gr t,.box b2 26 #[Z j p m,Z c o d],.box b1 26 #[sn,sn],.box a2 102 #[Z x A z,V C,V D,V E]] [.l x z A,.els v o,.els t p]∧sw fu cy o A C D E=some aP) fu ⟨([]:List Gn),none,0,[],F,M,N,Q,⟨r,r,r,y⟩,(a.dp [1,0,2]),b⟩ ?_)
  clear a b
  rintro aB f w ⟨o,c,d,v,A,C,D,E,hf,a,b⟩ bR aQ
  obtain ⟨cx,rfl⟩:=gP _ _ hf
  clear hf
  cases aB with
  | zero=>exact nn b
  | succ aB=>
   rw [sw] at b
   refine q (q (g (s (mp r) (s (xn r) (s (tJ r) (s (CU r (a.bk 4 r) r) (s (kK r r) (s (jY r) ?_))))))))
   rcases iv b with ⟨aC,b⟩|⟨aC,b⟩
   ·rw [decide_eq_true aC]
    refine jW r (s (mp r) ?_)
    obtain ⟨ba,bb,b⟩:=bs b
    refine jW r ?_
    refine sc (ec wD r) (nQ fu (a.pr [4] [0,1,2,3] [0] r) bb) ?_
    rintro _ bS ⟨rfl,X⟩
    replace a:=a.cn [4] [0,1,2,3] X
    refine s (jO r r) (n ?_)
    rcases iv b with ⟨ak,b⟩|⟨ak,b⟩
    ·refine jH (cb ak) (wk (oF (q (oJ a [0] [1] [] (by kernel_rfl) ?_))))
     replace a:=a.drew
     have hs:=(a.ad [0] [1])
     refine pF 0 r (mp r) hs (pF 1 r (xn r) hs (pF 2 r (zJ r) hs (uF 3 r (fun hS=>NJ r (hS.bk 0 r) r) hs (pF 4 r (mp r) hs (pF 5 r (xn r) hs (pF 6 r (mP r) hs (uF 7 r (fun hS=>l3 r (hS.bk 0 r) r) hs ?_)))))))
     obtain ⟨Y,ah,b⟩:=bs b
     obtain ⟨bT,aR,ah⟩:=kG ah
     refine pF 8 r (kZ CW qJ r r aR (a.dl 1 r) ah) hs (pF 9 r (Jz r) hs (tU 10 r (fun _ hS=>kC E8 r r ((vB (ds:=[V Y.e,V Y.c,T Y.a,V Y.d]) (hS.dl 0 r) ah (fun _ h=>h)) 1 _ r)) (sF hs) (pF 11 r (Rk r) hs ?_)))
     refine hO 12 (oo r r (rF a (ko mX)) ?_)
     rintro _ bU ⟨aS,rfl,a⟩
     have hs:=(a.ad [1] [1])
     refine ⟨(sF hs),?_⟩
     refine hO 13 (os r r (nE a 0 [T be,V Y.c,sn,sn] r mX r r) fun bV a=>?_)
     have hs:=(a.ad [1] [1])
     refine ⟨(sF hs),?_⟩
     refine hD (q (g (s (mp r) (s (xn r) (s (mP r) (s (l3 r (a.bk 1 r) r) (s (kN r r) (s (xn r) (s (mP r) (lu (lW a 1 [V (wr (C+1))] r pI r r) fun bW a=>?_))))))))))
     refine n (q (g (s (mp r) ?_)))
     obtain ⟨S,bc,bd,b⟩:=lV b
     refine sc (ec CF r) (rX fu (a.pr [1] [0,2,3,4,5] [1] r) bd) ?_
     rintro _ bX ⟨rfl,X⟩
     replace a:=a.cn [1] [0,2,3,4,5] X
     refine s (CR r) (lu (lW a 1 [T S] r qc r r) fun bY a=>?_)
     refine n (q (g (s (mp r) ?_)))
     obtain ⟨U,bg,b⟩:=bs b
     refine sc (ec xx r) (mG fu (a.pr [0] [1,2,3,4,5] [0] r) bg) ?_
     rintro _ bZ ⟨rfl,X⟩
     replace a:=a.cn [0] [1,2,3,4,5] X
     refine n (q ?_)
     replace a:=a.BJ BA 9
     obtain ⟨bh,B,b⟩:=bs b
     refine oG (fun f w=>∃ (W:List BA) (J:OA)(K:Nat)(a6:LV)(a7:List kv) (ac:Int)(ae:Int)(af:Int),Has f [(0,Pt a2),(2,Pt b1),(3,Pt b2),(5,Pt aS)]∧Bx w0 w cw G [O w0.heap.size J K 9 BA a6,.box a2 102 #[Z x a7 z,V ac,V ae,V af],.box aS 82 #[T S,V Y.c,Z J W K,sn],O w0.heap.size c d 82 Gn v,O w0.heap.size j m 127 Gr t,.box b2 26 #[Z j p m,Z c o d],.box b1 26 #[sn,sn]] [.l x z a7,.els a6 W,.els v o,.els t p]∧Ld.go (W,a7,ac,ae,af)=bh) (fun c0 al=>?_) ?_
     ·unfold wu at B
      refine q (g (s (mp r) (s (xn r) (s (tJ r) (s (CU r (a.bk 1 r) r) (s (kK r r) (s (jY r) ?_)))))))
      rcases iv B with ⟨aD,B⟩|⟨aD,B⟩
      ·rw [decide_eq_true aD]
       refine jW r (s (mp r) ?_)
       obtain ⟨bi,bj,B⟩:=bs B
       refine jW r ?_
       refine sc (ec wD r) (nQ fu (a.pr [1] [0,2,3,4,5,6] [1] r) bj) ?_
       rintro _ c1 ⟨rfl,X⟩
       replace a:=a.cn [1] [0,2,3,4,5,6] X
       refine jW r (s (xc r) (s (jO r r) (n ?_)))
       rcases iv B with ⟨am,B⟩|⟨am,B⟩
       ·refine jH (cb am) (g (s (mp r) ?_))
        obtain ⟨ag,a8,bl,B⟩:=lV B
        refine sc (ec Qu r) (DK fu (a.pr [0] [1,2,3,4,5,6] [2] r) bl) ?_
        rintro _ c2 ⟨a0,a1,ai,rfl,X⟩
        have aj:=a.rM.size
        replace a:=a.cn [0] [1,2,3,4,5,6] X
        replace a:=a.rb 0 w0.heap.size r aj
        refine s (zB r) (lu (lW a 3 [Z a0 ag a1] r pJ r r) fun c3 a=>?_)
        refine n ?_
        exact al _ _ ⟨ag,a0,a1,ai,a8.l,a8.a,a8.c,a8.e,⟨r,r,r,r,y⟩,(a.ad [0,1,3,4,5,6,7] [1,0,8,9]),sm B⟩
       replace am:=nt am
       refine jI (cb am) (wk ?_)
       exact al _ _ ⟨([]:List BA),none,0,[],U.l,U.a,U.c,U.e,⟨r,r,r,r,y⟩,(a.ad [1,0,2,3,4,5,6] [2,1,6,7]),sm B⟩
      rw [decide_eq_false aD]
      refine jB r (jB r (jB r (s (jZ r r) (n (jI r (wk ?_))))))
      exact al _ _ ⟨([]:List BA),none,0,[],U.l,U.a,U.c,U.e,⟨r,r,r,r,y⟩,(a.dp [1,0,5,6]),sm B⟩
     clear a
     rintro f w ⟨W,J,K,a6,a7,ac,ae,af,hf,a,aT⟩
     obtain ⟨cx,rfl⟩:=gP _ _ hf
     clear hf
     subst aT
     replace b:=gi b
     replace b:=pi (mf b)
     refine q (g (s (mp r) ?_))
     obtain ⟨bm,bn,b⟩:=bs b
     refine sc (ec xx r) (mG fu (a.pr [1] [0,2,3,4,5,6] [0] r) bn) ?_
     rintro _ c4 ⟨rfl,X⟩
     replace a:=a.cn [1] [0,2,3,4,5,6] X
     refine n (q (g (s (mp r) ?_)))
     obtain ⟨bo,an,a9,bp,b⟩:=qC b
     refine sc (ec Iu r) (Jw fu (a.pr [0] [1,2,3,4,5,6] [0] r) bp) ?_
     rintro _ c5 ⟨aJ,aK,aL,rfl,X⟩
     have aj:=a.rM.size
     replace a:=a.cn [0] [1,2,3,4,5,6] X
     replace a:=a.rb 0 w0.heap.size r aj
     refine s pK (s (jN r r) (s (jN r r) (s (nL r) (s (xi r) (n (q (g (s (mH r) (s (mi r) (s (Nj r r) (qE (jV a [[V 10,V an,V 0,T be,T be,V 0,V 0,sn,T be,V 0,sn,sn,sn]] ([(⟨10,an,0,be,be,0,0,([]:List Ge),be,0,([]:List Ge),([]:List Gs),([]:List Gs)⟩:Gs)]:List Gs) (tu r) r r (by decide) ⟨(jM.tN ⟨none,0,none,0,none,0,none,0,r,oN,oN,oN,oN⟩),y⟩) ?_)))))))))))
     rintro _ c6 ⟨c7,rfl,a⟩
     obtain ⟨ao,aU,b⟩:=bs b
     refine qE (kS a 1 1 r r yC jP r (by decide) (by decide) (Nat.le_refl _) r r (a.Ay 0 0 r r) aU) ?_
     rintro _ c8 ⟨ap,aq,c9,rfl,a⟩
     refine s (Ab r) (lu (lW a 4 [Z ap ao aq] r yF r r) fun cc a=>?_)
     refine n (g (s (vF r) (s (Ij r (a.bk 7 r) r) (s (mD [T S,V Y.c,Z J W K,Z ap ao aq] Bu mX r (a.bk 4 r)) ?_))))
     replace a:=a.fz 3 5 r r
     replace a:=a.fz 1 2 r r
     refine qE (jV a [[T S,V Y.c,Z J W K,Z ap ao aq]] ([(⟨S,Y.c,W,ao⟩:Gn)]:List Gn) (Gf r) r r (by decide) ⟨(kz.tN ⟨J,K,ap,aq,r,(a.dl 1 r),(a.dl 0 r)⟩),y⟩) ?_
     rintro _ cd ⟨ce,rfl,a⟩
     obtain ⟨aE,aV,b⟩:=bs b
     refine qE (kS a 4 7 r r yM mX r (by decide) (by decide) (Nat.le_refl _) r r (a.Ay 0 0 r r) aV) ?_
     rintro _ cg ⟨aF,aG,bq,rfl,a⟩
     refine s (vF r) (lu (lW a 6 [Z aF aE aG] r PU r r) fun ch a=>?_)
     refine n ?_
     exact aQ aB _ _ (Nat.lt_succ_self _) ⟨aE,aF,aG,bq,a9.l,a9.a,a9.c,a9.e,⟨r,r,r,y⟩,(a.ad [4,5,6,7,2] [4,7,8]),b⟩
    replace ak:=nt ak
    refine jI (cb ak) (ve ?_)
    exact ax _ _ ⟨o,c,d,v,A,C,D,E,⟨r,r,r,y⟩,(a.ad [1,2,3,4,0] [1,2,3]),sm b⟩
   rw [decide_eq_false aC]
   refine jB r (jB r (s (jZ r r) (n (jI r (ve ?_)))))
   exact ax _ _ ⟨o,c,d,v,A,C,D,E,⟨r,r,r,y⟩,a,sm b⟩
 clear a
 rintro f w ⟨o,c,d,v,A,C,D,E,hf,a,aW⟩
 obtain ⟨cx,rfl⟩:=gP _ _ hf
 clear hf
 subst aW
 replace L:=gi L
 replace L:=pi (mf L)
 refine q (q (g (s (mp r) (s (xn r) (s (tJ r) (s (CU r (a.bk 4 r) r) (s (kK r r) (s (jY r) ?_))))))))
 rcases iv L with ⟨aH,L⟩|⟨aH,L⟩
 ·rw [decide_eq_true aH]
  refine jW r (s (mp r) ?_)
  obtain ⟨br,bu,L⟩:=bs L
  refine jW r ?_
  refine sc (ec D7 r) (um fu (a.pr [4] [0,1,2,3] [0] r) bu) ?_
  rintro _ ci ⟨rfl,X⟩
  replace a:=a.cn [4] [0,1,2,3] X
  refine jW r (s (xc r) (s (jO r r) (n ?_)))
  rcases iv L with ⟨ar,L⟩|⟨ar,L⟩
  ·refine jH (cb ar) (g (s (mp r) ?_))
   obtain ⟨bv,bw,L⟩:=bs L
   refine sc (ec DX r) (ui fu (a.pr [0] [1,2,3,4] [1] r) bw) ?_
   rintro _ cj ⟨rfl,X⟩
   replace a:=a.cn [0] [1,2,3,4] X
   refine n (q (g (s (mD [Z j p m,Z c o d] Bw uI r (a.bk 3 r)) (lu (nE a 4 [Z j p m,Z c o d] r uI r r) fun ck a=>?_))))
   refine n (kP ?_)
   replace a:=a.fz 2 4 r r
   replace a:=a.fz 1 4 r r
   obtain rfl:=sm L
   refine jC r (uK r Bw r uI r (a.bk 2 r)) ?_
   exact lw (⟨j,m,c,d,r,(a.ad [0] [1,0,2])⟩)
  replace ar:=nt ar
  refine jI (cb ar) (wk (q (g (s (mD [Z j p m,Z c o d] Bw uI r (a.bk 3 r)) (lu (nE a 4 [Z j p m,Z c o d] r uI r r) fun cm a=>?_)))))
  refine n (kP ?_)
  replace a:=a.fz 2 3 r r
  replace a:=a.fz 1 3 r r
  obtain rfl:=sm L
  refine jC r (uK r Bw r uI r (a.bk 2 r)) ?_
  exact lw (⟨j,m,c,d,r,(a.ad [0] [1,0,3])⟩)
 rw [decide_eq_false aH]
 refine jB r (jB r (jB r (s (jZ r r) (n (jI r (wk (q (g (s (mD [Z j p m,Z c o d] Bw uI r (a.bk 2 r)) (lu (nE a 3 [Z j p m,Z c o d] r uI r r) fun cn a=>?_))))))))))
 refine n (kP ?_)
 replace a:=a.fz 1 2 r r
 replace a:=a.fz 0 2 r r
 obtain rfl:=sm L
 refine jC r (uK r Bw r uI r (a.bk 1 r)) ?_
 exact lw (⟨j,m,c,d,r,(a.ad [2] [1,0,2])⟩)
def JB (m:BA→Option (jJ × Int × Int)):Prop:=∀ {f:World} {k:Nat→Prop} {h:BA}  {R:jJ × Int × Int},Pre f k [] []→m h=some R→
 Calls Try.prog 32 #[T h] f (rA fun v w=>iA R fun e R=>iA R fun i j=>∃ (a:OA)(b:Nat)(c:OA)(d:Nat),v=.tuple #[.agg #[Z a e.a b,Z c e.b d],V i,V j]∧Bx f w k (lT []) [] [.l a b e.a,.l c d e.b])
def xA (fu:Nat)(h:BA):Option (jJ × Int × Int):=
 (Ai fu h).bind fun i=>
 iA i fun c i=>iA i fun d b=>
 if b≠0 then
  some ((⟨([]:List Gr),([]:List Gn)⟩:jJ),d,b)
 else
  (wI fu (⟨c,0,0,0⟩:jy)).bind fun i=>
  iA i fun f a=>
  if a.e≠0 then
   some ((⟨([]:List Gr),([]:List Gn)⟩:jJ),a.c,a.e)
  else
   some (f,0,0)
theorem DL (fu:Nat):JB (xA fu):=by
 intro E a3 F R z j
 unfold xA at j
 have a:=z.bx
 clear z
 generalize Q:lT _=G at a ⊢
 refine cf Try.func32 r (l8 [(0,T F)] ⟨r,y⟩ fun a4=>q (g (tH a (ko uI) fun S U a=>s (xi r) (s (xi r) (n (q (g (s (lh r) ?_))))))))
 obtain ⟨A,B,C,H,j⟩:=qC j
 refine sc (ec Tw r) (KM fu (a.pr [] [0] [] r) H) ?_
 rintro _ W ⟨p,t,u,rfl,v⟩
 have w:=a.rM.size
 replace a:=a.cn [] [0] v
 replace a:=a.rb 0 E.heap.size r w
 refine s pK (s (jN r r) (s (jN r r) (s (jN r r) (s (nL r) (s (xi r) (s (xi r) (n (q (q (g (s (mi r) (s (mI r r) (n ?_)))))))))))))
 rcases iv j with ⟨x,j⟩|⟨x,j⟩
 ·refine jH (bt x) (q (g (s Qs (s (mi r) (s (mi r) (lu (nE a 1 [sn,sn] r uI r r) fun X a=>s (xi r) (s (xi r) (n (kP ?_)))))))))
  replace a:=a.ku (d:=.l none 0 ([]:List Gr)) oN
  replace a:=a.ku (d:=.l none 0 ([]:List Gn)) oN
  obtain rfl:=sm j
  exact yG r (uK r Bw r uI r (a.bk 1 r)) (kT r) (kT r) (lw (lw (⟨none,0,none,0,r,(a.ad [] [1,0])⟩)))
 refine jI (bf x) (wk (q (g (s (mH r) (s (PH r) (tH a (yD r) fun Y b7 a=>s (OT r) (n (q (g (s (mp r) ?_))))))))))
 replace a:=a.fz 1 0 r r
 obtain ⟨h,D,I,j⟩:=lV j
 refine sc (ec UA r) (FW fu (a.pr [0] [1] [0] r) I) ?_
 rintro _ w9 ⟨b,c,e,f,rfl,v⟩
 replace a:=a.cn [0] [1] v
 refine tH a (ko uI) fun J K a=>lu (nE a 0 [Z b h.a c,Z e h.b f] r uI r r) fun L a=>n (q (q (g (s (mp r) (s (xn r) (s (tJ r) (s (CU r (a.bk 1 r) r) (s (mI r r) (n ?_)))))))))
 rcases iv j with ⟨o,j⟩|⟨o,j⟩
 ·refine jH (bt o) (q (oJ a [1] [] [] (by kernel_rfl) ?_))
  replace a:=a.drew
  have m:=(a.ad [1] [])
  refine pF 0 r (Qs) m (pF 1 r (mp r) m (pF 2 r (xn r) m (pF 3 r (OB r) m (uF 4 r (fun hS=>l3 r (hS.bk 0 r) r) m (pF 5 r (mp r) m (pF 6 r (xn r) m (pF 7 r (tJ r) m (uF 8 r (fun hS=>CU r (hS.bk 0 r) r) m (hO 9 (os r r (nE a 2 [sn,sn] r uI r r) fun M a=>?_))))))))))
  have m:=(a.ad [1] [])
  refine ⟨(sF m),(pF 10 r (xi r) m (pF 11 r (xi r) m (hD (kP ?_))))⟩
  replace a:=a.ku (d:=.l none 0 ([]:List Gr)) oN
  replace a:=a.ku (d:=.l none 0 ([]:List Gn)) oN
  obtain rfl:=sm j
  exact yG r (uK r Bw r uI r (a.bk 2 r)) (kT r) (kT r) (lw (lw (⟨none,0,none,0,r,(a.ad [] [1,0])⟩)))
 refine jI (bf o) (wk (q (g (s (mD [Z b h.a c,Z e h.b f] Bw uI r (a.bk 0 r)) (lu (nE a 2 [Z b h.a c,Z e h.b f] r uI r r) fun N a=>s (xi r) (s (xi r) (n (kP ?_))))))))
 obtain rfl:=sm j
 exact yG r (uK r Bw r uI r (a.bk 2 r)) (kT r) (kT r) (lw (lw (⟨b,c,e,f,r,(a.ad [] [0,1])⟩)))
end
end Go.Proofs.Ytfglbdkfnphjgaa
