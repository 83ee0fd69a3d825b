/- Contracts, printed by gen3.py. -/
import Derived.Test.YtdkneekpdecjbaaGreatZ5
import Derived.Test.YtdkneekpdecjbaaGreatLa
set_option linter.unusedVariables false
set_option maxHeartbeats 12800000
set_option linter.unusedSimpArgs false
set_option maxRecDepth 4000
namespace Go.Proofs.YtdkneekpdecjbaaGreat
open Go.RowKit Go.Fw Go.Proofs.Tryz
noncomputable section
def Oj (m:gP->Int->Option gP):Prop:=∀ {h j}{d:gP}{i f a b}{c:gP},(fun L=>Pre h j L [.l a b d.l]->m d i=some c-> Calls prog 56 #[Pt f,V i] h (sW fun v w=>v=.tuple #[]/\Bx h w j (mQ L) [.box f 99 #[Z a c.l b,V c.a,V c.c,V c.e]] [.l a b c.l])) [.box f 99 #[Z a d.l b,V d.a,V d.c,V d.e]]
def pK (fu:Nat)(a:gP)(b:Int):Option gP:=if a.e=0 then (ix a.l a.a).bind fun c=>some (⟨a.l,a.a,c.f,b⟩:gP) else some a
theorem rJ (fu:Nat):Oj (pK fu):=by
 intro A F j u t d f z x o;unfold pK at o;have b:=x.bx;clear x;generalize B:mQ _=G at b ⊢;refine cf func56 r ?_;refine lH [(0,Pt t),(1,V u)] ⟨r,r,y⟩ fun H=>?_;refine q (g (s (mp r) (s (xn r) (s (vW r) (s (EM r (b.bk 0 r) r) (s (kH r r) (n ?_)))))));rcases iv o with ⟨v,o⟩|⟨v,o⟩
 ·refine jK (bt v) (Oz b [] [0] [0] [0] [16,19] (by kernel_rfl) ?_);replace b:=b.drew;have a:=b.arr [] r;have c:=b;refine pL 0 r (mp r) a c (pL 1 r (mp r) a c (pL 2 r (mi r) a c (pL 3 r (mp r) a c (pL 4 r (xn r) a c (pL 5 r (Dw r) a c (tS 1 6 r (fun _ hS=>TM r (hS.bk 0 r) r) (nH a c) (pL 7 r (mp r) a c (pL 8 r (xn r) a c (pL 9 r (nS r) a c (tS 1 10 r (fun _ hS=>l3 r (hS.bk 0 r) r) (nH a c) ?_))))))))));obtain ⟨p,m,o⟩:=bs o;obtain ⟨C,w,m⟩:=lq m;refine pL 11 r (lu FE qj r r w (b.dl 0 r) m) a c (pL 12 r (MO r) a c (tU 13 r (fun _ hS=>kC NG r r ((uE (ds:=[V p.c,V p.f,T p.a,V p.d]) (hS.dl 0 r) m (fun _ h=>h)) 1 _ r)) (nH a c) (pL 14 r (xn r) a c (pL 15 r (vW r) a c ?_))));refine hO 16 (os r r (tb b 0 [V u] r O0 r r r r r (show _=#[Z d j.l f,V j.a,V j.c,V u] from r)) ?_);intro D b;try dsimp only [List.set] at b
  have a:=b.arr [] r;refine ⟨sy 16 a,?_⟩;refine tP 17 r (fun _=>xn r) (sy 16 a) (tP 18 r (fun _=>Yn r) (sy 16 a) ?_);refine hO 19 (os r r (tb b 0 [V p.f] r o9 r r r r r (show _=#[Z d j.l f,V j.a,V p.f,V u] from r)) ?_);intro E b;try dsimp only [List.set] at b
  have a:=b.arr [] r;refine ⟨sy 16 a,?_⟩;refine hD ?_;obtain rfl:=sm o;refine nE (P:=prog) (fn:=f56) r ?_;exact ⟨r,b⟩
 refine jD (bf v) (wk ?_);obtain rfl:=sm o;refine nE (P:=prog) (fn:=f56) r ?_;exact ⟨r,b⟩
def Sr (m:gP->Int->BA->Option Bool):Prop:=∀ {f k}{c:gP}{h i d a b j},(fun L=>Pre f k L [.l a b c.l]->m c h i=some j-> Calls prog 50 #[Pt d,V h,T i] f (sW fun v w=>v=.bool j/\Bx f w k (mQ L) L [.l a b c.l])) [.box d 99 #[Z a c.l b,V c.a,V c.c,V c.e]]
def mM (fu:Nat)(a:gP)(c:Int)(d:BA):Option Bool:=if (a.l.length:Int)<=(wr (a.a+c)) then some false else (ix a.l (wr (a.a+c))).bind fun b=>if b.c=3 then some (decide (b.a=d)) else if b.c=4 then some (decide (b.a=d)) else some false
theorem nC (fu:Nat):Sr (mM fu):=by
 intro B J p z A o j m C x c;unfold mM at c;have b:=x.bx;clear x;generalize D:mQ _=G at b ⊢;refine cf func50 r ?_;refine lH [(0,Pt o),(1,V z),(2,T A)] ⟨r,r,r,y⟩ fun K=>?_;refine q (g (s (kG r) (n (q (q (qG b [0] [] [] (by kernel_rfl) ?_))))));replace b:=b.drew;have a:=b.dp [];refine pF 0 r (mp r) a (pF 1 r (xn r) a (pF 2 r (nS r) a (uF 3 r (fun hS=>l3 r (hS.bk 0 r) r) a (pF 4 r (mi r) a (pF 5 r (kN r r) a (pF 6 r (mp r) a (pF 7 r (xn r) a (pF 8 r (Dw r) a (uF 9 r (fun hS=>TM r (hS.bk 0 r) r) a (pF 10 r (mV FE r) a (pF 11 r (F8 r r) a (hD ?_))))))))))));rcases iv c with ⟨t,c⟩|⟨t,c⟩
 ·refine jK (bt t) (q (g (s (kG r) (n (lS ?_)))));obtain rfl:=sm c;refine jI r (nu r) ?_;exact ⟨r,b⟩
 refine jD (bf t) (wk (q (qG b [0] [0] [] (by kernel_rfl) ?_)));replace b:=b.drew;have a:=b;refine pF 0 r (mp r) a (pF 1 r (xn r) a (pF 2 r (Dw r) a (uF 3 r (fun hS=>TM r (hS.bk 0 r) r) a (pF 4 r (mp r) a (pF 5 r (xn r) a (pF 6 r (nS r) a (uF 7 r (fun hS=>l3 r (hS.bk 0 r) r) a (pF 8 r (mi r) a (pF 9 r (kN r r) a ?_)))))))));obtain ⟨d,f,c⟩:=bs c;obtain ⟨E,u,f⟩:=lq f;refine pF 10 r (lu FE qj r r u (b.dl 0 r) f) a (uF 11 r (fun hS=>jQ [V d.c,V d.f,T d.a,V d.d] EG r qj r r (uE (ds:=[V d.c,V d.f,T d.a,V d.d]) (hS.dl 0 r) f (fun _ h=>h))) a ?_);refine hO 12 (oo r r (kD b (jP qj)) ?_);rintro _ F ⟨H,rfl,b⟩;have a:=b.arr [1] r;refine ⟨sF a,?_⟩;refine hO 13 (os r r (tb b 0 [V d.c,V d.f,T d.a,V d.d] r qj r r r r r (show _=#[V d.c,V d.f,T d.a,V d.d] from r)) ?_);intro I b;try dsimp only [List.set] at b
 have a:=b.arr [1] r;refine ⟨sF a,?_⟩;refine hD (q (g (s (Qg r) (s (l3 r (b.bk 0 r) r) (s (kH r r) (s (lI r) ?_))))));rcases iv c with ⟨v,c⟩|⟨v,c⟩
 ·rw [uD v];refine ko r (ko r (ko r (s (kU r r) (s (lI r) (kL r (s (ME r) (kL r (s (l9 r (b.bk 0 r) r) (kL r (s (lF r) (kL r (s (rY r r) (s (kU r r) ?_)))))))))))));refine s (kG r) (n (lS ?_));obtain rfl:=sm c;refine jI r (nu r) ?_;exact ⟨r,b.arr [1] r⟩
 rw [uL v];refine kL r (s (Qg r) (kL r (s (l3 r (b.bk 0 r) r) (kL r (s (kH r r) (s (kI r r) (s (lI r) ?_)))))));rcases iv c with ⟨w,c⟩|⟨w,c⟩
 ·rw [uD w];refine kL r (s (ME r) (kL r (s (l9 r (b.bk 0 r) r) (kL r (s (lF r) (kL r (s (rY r r) (s (kU r r) (s (kG r) (n (lS ?_)))))))))));obtain rfl:=sm c;refine jI r (nu r) ?_;exact ⟨r,b.arr [1] r⟩
 rw [uL w];refine ko r (ko r (ko r (ko r (s (kI r r) (s (kG r) (n (lS ?_)))))));obtain rfl:=sm c;refine jI r (nu r) ?_;exact ⟨r,b.arr [1] r⟩
def OY (m:gP->Int->Int->Option Bool):Prop:=∀ {f k}{c:gP}{h i d a b j},(fun L=>Pre f k L [.l a b c.l]->m c h i=some j-> Calls prog 55 #[Pt d,V h,V i] f (sW fun v w=>v=.bool j/\Bx f w k (mQ L) L [.l a b c.l])) [.box d 99 #[Z a c.l b,V c.a,V c.c,V c.e]]
def pO (fu:Nat)(a:gP)(b c:Int):Option Bool:=if (wr (a.a+b)) < (a.l.length:Int) then (ix a.l (wr (a.a+b))).bind fun d=>some (decide (d.c=c)) else some false
theorem rD (fu:Nat):OY (pO fu):=by
 intro z D o w x m f j A v d;unfold pO at d;have b:=v.bx;clear v;generalize B:mQ _=G at b ⊢;refine cf func55 r ?_;refine lH [(0,Pt m),(1,V w),(2,V x)] ⟨r,r,r,y⟩ fun E=>?_;refine q (g (s (kG r) (n (q (qG b [0] [0] [] (by kernel_rfl) ?_)))));replace b:=b.drew;have a:=b;refine pF 0 r (mp r) a (pF 1 r (xn r) a (pF 2 r (nS r) a (uF 3 r (fun hS=>l3 r (hS.bk 0 r) r) a (pF 4 r (mi r) a (pF 5 r (kN r r) a (pF 6 r (mp r) a (pF 7 r (xn r) a (pF 8 r (Dw r) a (uF 9 r (fun hS=>TM r (hS.bk 0 r) r) a (pF 10 r (mV FE r) a (pF 11 r (sj r r) a (pF 12 r (lI r) a ?_))))))))))));rcases iv d with ⟨t,d⟩|⟨t,d⟩
 ·rw [uD t];have a:=b;refine pF 13 r (mp r) a (pF 14 r (xn r) a (pF 15 r (Dw r) a (uF 16 r (fun hS=>TM r (hS.bk 0 r) r) a (pF 17 r (mp r) a (pF 18 r (xn r) a (pF 19 r (nS r) a (uF 20 r (fun hS=>l3 r (hS.bk 0 r) r) a (pF 21 r (mi r) a (pF 22 r (kN r r) a ?_)))))))));obtain ⟨p,c,d⟩:=bs d;obtain ⟨C,u,c⟩:=lq c;refine pF 23 r (lu FE qj r r u (b.dl 0 r) c) a (pF 24 r (Qg r) a (tU 25 r (fun _ hS=>kC NG r r ((uE (ds:=[V p.c,V p.f,T p.a,V p.d]) (hS.dl 0 r) c (fun _ h=>h)) 0 _ r)) (sF a) (pF 26 r (mi r) a (pF 27 r (kH r r) a (pF 28 r (kU r r) a (pF 29 r (kG r) a (hD (lS ?_))))))));obtain rfl:=sm d;refine jI r (nu r) ?_;exact ⟨r,b⟩
 rw [uL t];have a:=b;refine kQ 13 r (by kernel_rfl) r (sF a) (kQ 14 r (by kernel_rfl) r (sF a) (kQ 15 r (by kernel_rfl) r (sF a) (kQ 16 r (by kernel_rfl) r (sF a) (kQ 17 r (by kernel_rfl) r (sF a) (kQ 18 r (by kernel_rfl) r (sF a) (kQ 19 r (by kernel_rfl) r (sF a) (kQ 20 r (by kernel_rfl) r (sF a) (kQ 21 r (by kernel_rfl) r (sF a) (kQ 22 r (by kernel_rfl) r (sF a) (kQ 23 r (by kernel_rfl) r (sF a) (kQ 24 r (by kernel_rfl) r (sF a) (kQ 25 r (by kernel_rfl) r (sF a) (kQ 26 r (by kernel_rfl) r (sF a) ?_)))))))))))));refine kQ 27 r (by kernel_rfl) r (sF a) (pF 28 r (kI r r) a (pF 29 r (kG r) a (hD (lS ?_))));obtain rfl:=sm d;refine jI r (nu r) ?_;exact ⟨r,b⟩
def OL (m:gP->BA->Option gP):Prop:=∀ {h j}{d:gP}{i f a b}{c:gP},(fun L=>Pre h j L [.l a b d.l]->m d i=some c-> Calls prog 52 #[Pt f,T i] h (sW fun v w=>v=.tuple #[]/\Bx h w j (mQ L) [.box f 99 #[Z a c.l b,V c.a,V c.c,V c.e]] [.l a b c.l])) [.box f 99 #[Z a d.l b,V d.a,V d.c,V d.e]]
def lT (fu:Nat)(a:gP)(d:BA):Option gP:=if a.e≠0 then some a else (mM fu a 0 d).bind fun b=>if (!b)=true then (pK fu a 7).bind fun c=>some c else some (⟨a.l,wr (a.a+1),a.c,a.e⟩:gP)
theorem lX (fu:Nat):OL (lT fu):=by
 intro A F f v h c d w p b;unfold lT at b;have a:=p.bx;clear p;generalize B:mQ _=G at a ⊢;refine cf func52 r ?_;refine lH [(0,Pt h),(1,T v)] ⟨r,r,y⟩ fun H=>?_;refine q (q (g (s (mp r) (s (xn r) (s (vW r) (s (EM r (a.bk 0 r) r) (s (tF r r) (n ?_))))))));rcases iv b with ⟨m,b⟩|⟨m,b⟩
 ·refine jK (bt m) (lS ?_);obtain rfl:=sm b;refine nE (P:=prog) (fn:=f52) r ?_;exact ⟨r,a⟩
 refine jD (bf m) (wk (q (q (g (s (mp r) (s (lF r) ?_))))));obtain ⟨t,x,b⟩:=bs b;have hc:=(nC fu) (a.pr [0] [] [0] r)  x;refine sc (ec wL r) hc ?_;rintro _ C ⟨rfl,o⟩;replace a:=a.cl [0] [] r o r;try dsimp only [pick,nth,ca,na] at a
 refine s (D5 r) (n ?_);rcases iv b with ⟨j,b⟩|⟨j,b⟩
 ·refine jK (cb j) (q (g (s (mp r) ?_)));obtain ⟨u,z,b⟩:=bs b;have hc:=(rJ fu) (a.pr [0] [] [1] r)  z;refine sc (ec FZ r) hc ?_;rintro _ D ⟨rfl,o⟩;replace a:=a.cl [0] [] r o r;try dsimp only [pick,nth,ca,na] at a
  refine n (lS ?_);obtain rfl:=sm b;refine nE (P:=prog) (fn:=f52) r ?_;exact ⟨r,a.dp [0]⟩
 refine jD (wV j) (wk (g (s (mp r) (s (xn r) (s (nS r) (s (l3 r (a.bk 0 r) r) (s (kN r r) (s (xn r) (s (nS r) (lg (tb a 0 [V (wr (f.a+1))] r o9 r r r r r (show _=#[Z c f.l d,V (wr (f.a+1)),V f.c,V f.e] from r)) ?_))))))))));intro E a;try dsimp only [List.set] at a
 refine n ?_;obtain rfl:=sm b;refine nE (P:=prog) (fn:=f52) r ?_;exact ⟨r,a.dp [1]⟩
def Og (m:gP->Option (BA × gP)):Prop:=∀ {h j}{d:gP}{f a b R},(fun L=>Pre h j L [.l a b d.l]->m d=some R-> Calls prog 51 #[Pt f] h (sW fun v w=>jy R fun i c=>v=T i/\Bx h w j (mQ L) [.box f 99 #[Z a c.l b,V c.a,V c.c,V c.e]] [.l a b c.l])) [.box f 99 #[Z a d.l b,V d.a,V d.c,V d.e]]
def oV (fu:Nat)(a:gP):Option (BA × gP):=if a.e≠0 then some ((⟨#[]⟩:BA),a) else (pO fu a 0 1).bind fun b=>if (!b)=true then (pK fu a 7).bind fun c=>some ((⟨#[]⟩:BA),c) else (ix a.l (wr ((wr (a.a+1)) - 1))).bind fun d=>some (d.a,(⟨a.l,wr (a.a+1),a.c,a.e⟩:gP))
theorem qO (fu:Nat):Og (oV fu):=by
 intro D K j o d f R x b;unfold oV at b;have a:=x.bx;clear x;generalize E:mQ _=G at a ⊢;refine cf func51 r ?_;refine lH [(0,Pt o)] ⟨r,y⟩ fun L=>?_;refine q (g (s (mP r) (n (q (q (g (s (mp r) (s (xn r) (s (vW r) (s (EM r (a.bk 0 r) r) (s (tF r r) (n ?_))))))))))));rcases iv b with ⟨u,b⟩|⟨u,b⟩
 ·refine jK (bt u) (q (g (s (mP r) (n (lS ?_)))));obtain rfl:=sm b;refine jI r (nu r) ?_;exact mZ (⟨r,a⟩)
 refine jD (bf u) (wk (q (q (g (s (mp r) ?_)))));obtain ⟨z,B,b⟩:=bs b;have hc:=(rD fu) (a.pr [0] [] [0] r)  B;refine sc (ec F5 r) hc ?_;rintro _ F ⟨rfl,v⟩;replace a:=a.cl [0] [] r v r;try dsimp only [pick,nth,ca,na] at a
 refine s (D5 r) (n ?_);rcases iv b with ⟨p,b⟩|⟨p,b⟩
 ·refine jK (cb p) (q (g (s (mp r) ?_)));obtain ⟨A,C,b⟩:=bs b;have hc:=(rJ fu) (a.pr [0] [] [1] r)  C;refine sc (ec FZ r) hc ?_;rintro _ H ⟨rfl,v⟩;replace a:=a.cl [0] [] r v r;try dsimp only [pick,nth,ca,na] at a
  refine n (q (g (s (mP r) (n (lS ?_)))));obtain rfl:=sm b;refine jI r (nu r) ?_;exact mZ (⟨r,a.dp [0]⟩)
 refine jD (wV p) (wk (q (g (s (mp r) (s (xn r) (s (nS r) (s (l3 r (a.bk 0 r) r) (s (kN r r) (s (xn r) (s (nS r) (lg (tb a 0 [V (wr (j.a+1))] r o9 r r r r r (show _=#[Z d j.l f,V (wr (j.a+1)),V j.c,V j.e] from r)) ?_)))))))))));intro I a;try dsimp only [List.set] at a
 refine n (q (qG a [0] [1] [] (by kernel_rfl) ?_));replace a:=a.drew;have c:=a.dp [1];refine pF 0 r (mp r) c (pF 1 r (xn r) c (pF 2 r (Dw r) c (uF 3 r (fun hS=>TM r (hS.bk 0 r) r) c (pF 4 r (mp r) c (pF 5 r (xn r) c (pF 6 r (nS r) c (uF 7 r (fun hS=>l3 r (hS.bk 0 r) r) c (pF 8 r (yh r r) c ?_))))))));obtain ⟨t,m,b⟩:=bs b;obtain ⟨J,w,m⟩:=lq m;refine pF 9 r (lu FE qj r r w (a.dl 1 r) m) c (pF 10 r (ME r) c (tU 11 r (fun _ hS=>kC vg r r ((uE (ds:=[V t.c,V t.f,T t.a,V t.d]) (hS.dl 0 r) m (fun _ h=>h)) 2 _ r)) (sF c) (pF 12 r (mP r) c (hD (lS ?_)))));obtain rfl:=sm b;refine jI r (nu r) ?_;exact mZ (⟨r,a.dp [1]⟩)
def NH (m:gP->Option ((List BA) × gP)):Prop:=∀ {k:World}{p}{i:gP}{j a b R},(fun L=>Pre k p L [.l a b i.l]->m i=some R-> Calls prog 53 #[Pt j] k (sW fun v w=>jy R fun o c=>∃ (d:OA)(f:Nat)(h:LV),v=Z d o f/\Bx k w p (mQ L) [O k.heap.size d f 9 BA h,.box j 99 #[Z a c.l b,V c.a,V c.c,V c.e]] [.els h o,.l a b c.l])) [.box j 99 #[Z a i.l b,V i.a,V i.c,V i.e]]
def rz (fu:Nat):Nat→(List BA)→(List kg)→Int→Int→Int→Option (Ld (List BA × List kg × Int × Int × Int) ((List BA) × gP))
 | 0,_,_,_,_,_=>none
 | o+1,h,b,c,d,a=>
 if a=0 then
  (mM fu (⟨b,c,d,a⟩:gP) 0 (⟨#[44]⟩:BA)).bind fun i=>
  if i=true then
   (lT fu (⟨b,c,d,a⟩:gP) (⟨#[44]⟩:BA)).bind fun j=>
   (oV fu j).bind fun p=>
   jy p fun k f=>
   (app h ([k]:List BA)).bind fun m=>
   rz fu o m f.l f.a f.c f.e
  else
   some (.go (h,b,c,d,a))
 else
  some (.go (h,b,c,d,a))
def xq (fu:Nat)(j:gP):Option ((List BA) × gP):=(oV fu j).bind fun k=>jy k fun b a=>(rz fu fu ([b]:List BA) a.l a.a a.c a.e).bind fun k=>k.el (fun k=>jy k fun c k=>jy k fun d k=>jy k fun f k=>jy k fun h i=>some (c,(⟨d,f,h,i⟩:gP))) (fun o=>some o)
theorem GV (fu:Nat):NH (xq fu):=by
 intro J aj K C u v R Y x;unfold xq at x;have m:=Y.bx;clear Y;generalize hG:mQ _=G at m ⊢;refine cf func53 r ?_;refine lH [(0,Pt C)] ⟨r,y⟩ fun ak=>?_;refine q (g (s (og r) (n (q (g (s (mp r) ?_))))));obtain ⟨⟨z,A⟩,h1,x⟩:=bs x;replace x:=pi x;have hc:=(qO fu) (m.pr [0] [] [0] r)  h1;refine sc (ec EO r) hc ?_;rintro _ w1 ⟨rfl,E⟩;replace m:=m.cl [0] [] r E r;try dsimp only [pick,nth,ca,na] at m
 refine l5 (jM m [[T z]] ([z]:List BA) (Br r) r r (by decide) ⟨r,y⟩) ?_;rintro _ w2 ⟨b2,rfl,m⟩;refine s (og r) (n (q ?_));obtain ⟨Y3,a,x⟩:=bs x;refine oD (fun f w=>∃ (h:List BA)(b:OA)(c:Nat)(d:LV)(j:List kg)(o p t:Int),Has f [(3,Z b h c)]/\Bx J w aj G [O J.heap.size b c 9 BA d,.box C 99 #[Z u j v,V o,V p,V t]] [.l u v j,.els d h]/\Ld.go (h,j,o,p,t)=Y3) (fun J3 F=>?_) ?_
 ·refine qb (kM (fun al f w=>∃ (h:List BA)(b:OA)(c:Nat)(d:LV)(j:List kg)(o p t:Int),Has f [(0,Pt C),(3,Z b h c)]/\Bx J w aj G [O J.heap.size b c 9 BA d,.box C 99 #[Z u j v,V o,V p,V t]] [.l u v j,.els d h]/\rz fu al h j o p t=some Y3) fu ⟨([z]:List BA),ad b2,1,[[T z]],A.l,A.a,A.c,A.e,⟨r,r,y⟩,m.dp [1,0],a⟩ ?_);clear m a;rintro L f w ⟨h,b,c,d,j,o,p,t,hf,m,a⟩ K3 M;obtain ⟨ak,rfl⟩:=ng hf;cases L with
  | zero=>exact nn a
  | succ L=>
   rw [rz] at a;refine q (q (g (s (mp r) (s (xn r) (s (vW r) (s (EM r (m.bk 1 r) r) (s (kH r r) (s (lI r) ?_))))))));rcases iv a with ⟨N,a⟩|⟨N,a⟩
   ·rw [uD N];refine kL r (s (mp r) ?_);obtain ⟨a1,h5,a⟩:=bs a;refine kL r ?_;have hc:=(nC fu) (m.pr [1] [0] [0] r)  h5;refine sc (ec wL r) hc ?_;rintro _ w5 ⟨rfl,E⟩;replace m:=m.cl [1] [0] r E r;try dsimp only [pick,nth,ca,na] at m
    refine s (kU r r) (n ?_);rcases iv a with ⟨H,a⟩|⟨H,a⟩
    ·refine jK (cb H) (wk (qb (q (g (s (mp r) ?_)))));obtain ⟨a2,h7,a⟩:=bs a;have hc:=(lX fu) (m.pr [0] [1] [1] r)  h7;refine sc (ec xC r) hc ?_;rintro _ w7 ⟨rfl,E⟩;replace m:=m.cl [0] [1] r E r;try dsimp only [pick,nth,ca,na] at m
     refine n (g (s (qw r) (s (mp r) ?_)));obtain ⟨⟨D,B⟩,h8,a⟩:=bs a;replace a:=pi a;have hc:=(qO fu) (m.pr [0] [1] [0] r)  h8;refine sc (ec EO r) hc ?_;rintro _ w8 ⟨rfl,E⟩;replace m:=m.cl [0] [1] r E r;try dsimp only [pick,nth,ca,na] at m
     refine l5 (jM m [[T D]] ([D]:List BA) (Br r) r r (by decide) ⟨r,y⟩) ?_;rintro _ w9 ⟨b9,rfl,m⟩;obtain ⟨Q,I,a⟩:=bs a;refine l5 (kR m 2 5 r r kW pJ r (by decide) (by decide) (nJ _) r r (m.BU 0 0 r r) I) ?_;rintro _ a8 ⟨S,U,W,rfl,m⟩;refine s (og r) (n ?_);exact M L _ _ (Ec _) ⟨Q,S,U,W,B.l,B.a,B.c,B.e,⟨r,r,y⟩,m.ad [2,1] [1,5],a⟩
    refine jD (wV H) (vE ?_);exact F _ _ ⟨h,b,c,d,j,o,p,t,⟨r,y⟩,m.ad [1,0] [1,2],sm a⟩
   rw [uL N];refine ko r (ko r (s (kI r r) (n (jD r (vE ?_)))));exact F _ _ ⟨h,b,c,d,j,o,p,t,⟨r,y⟩,m,sm a⟩
 clear m;rintro f w ⟨h,b,c,d,j,o,p,t,hf,m,X⟩;obtain ⟨ak,rfl⟩:=ng hf;subst X;replace x:=gi x;replace x:=pi x;replace x:=pi x;replace x:=pi x;replace x:=pi x;refine q (g (s (qw r) (s (og r) (n (lS ?_)))));obtain rfl:=sm x;refine jI r (nu r) ?_;exact mZ (⟨b,c,d,r,m.dp [1,0]⟩)
def KG (m:gP->Option Bool):Prop:=∀ {f i}{c:gP}{d a b h},(fun L=>Pre f i L [.l a b c.l]->m c=some h-> Calls prog 176 #[Pt d] f (sW fun v w=>v=.bool h/\Bx f w i (mQ L) L [.l a b c.l])) [.box d 99 #[Z a c.l b,V c.a,V c.c,V c.e]]
def xZ (fu:Nat)(a:gP):Option Bool:=(pO fu a 0 1).bind fun b=>if b=true then some true else (pO fu a 0 2).bind fun c=>if c=true then some true else (mM fu a 0 (⟨#[40]⟩:BA)).bind fun d=>if d=true then some true else (mM fu a 0 (⟨#[45]⟩:BA)).bind fun e=>if e=true then some true else (mM fu a 0 (⟨#[33]⟩:BA)).bind fun f=>some f
theorem KV (fu:Nat):KG (xZ fu):=by
 intro E N o h d f F p a;unfold xZ at a;have b:=p.bx;clear p;generalize H:mQ _=G at b ⊢;refine cf func176 r ?_;refine lH [(0,Pt h)] ⟨r,y⟩ fun Q=>?_;refine q (g (s (kG r) (n (q (g (s (mp r) ?_))))));obtain ⟨t,z,a⟩:=bs a;have hc:=(rD fu) (b.pr [0] [] [0] r)  z;refine sc (ec F5 r) hc ?_;rintro _ I ⟨rfl,c⟩;replace b:=b.cl [0] [] r c r;try dsimp only [pick,nth,ca,na] at b
 refine s (lI r) ?_;rcases iv a with ⟨i,a⟩|⟨i,a⟩
 ·rw [i];refine ko r (ko r (s (kU r r) (s (lI r) (ko r (ko r (s (kU r r) (s (lI r) (ko r (ko r (s (kU r r) (s (lI r) (ko r (ko r ?_)))))))))))));refine s (kU r r) (s (kG r) (n (lS ?_)));obtain rfl:=sm a;refine jI r (nu r) ?_;exact ⟨r,b.dp [1]⟩
 replace i:=nt i;rw [i];refine kL r (s (mp r) ?_);obtain ⟨u,A,a⟩:=bs a;refine kL r ?_;have hc:=(rD fu) (b.pr [0] [] [1] r)  A;refine sc (ec F5 r) hc ?_;rintro _ J ⟨rfl,c⟩;replace b:=b.cl [0] [] r c r;try dsimp only [pick,nth,ca,na] at b
 refine s (kI r r) (s (lI r) ?_);rcases iv a with ⟨j,a⟩|⟨j,a⟩
 ·rw [j];refine ko r (ko r (s (kU r r) (s (lI r) (ko r (ko r (s (kU r r) (s (lI r) (ko r (ko r (s (kU r r) (s (kG r) (n (lS ?_)))))))))))));obtain rfl:=sm a;refine jI r (nu r) ?_;exact ⟨r,b.dp [2]⟩
 replace j:=nt j;rw [j];refine kL r (s (mp r) ?_);obtain ⟨v,B,a⟩:=bs a;refine kL r ?_;have hc:=(nC fu) (b.pr [0] [] [2] r)  B;refine sc (ec wL r) hc ?_;rintro _ K ⟨rfl,c⟩;replace b:=b.cl [0] [] r c r;try dsimp only [pick,nth,ca,na] at b
 refine s (kI r r) (s (lI r) ?_);rcases iv a with ⟨k,a⟩|⟨k,a⟩
 ·rw [k];refine ko r (ko r (s (kU r r) (s (lI r) (ko r (ko r (s (kU r r) (s (kG r) (n (lS ?_)))))))));obtain rfl:=sm a;refine jI r (nu r) ?_;exact ⟨r,b.dp [3]⟩
 replace k:=nt k;rw [k];refine kL r (s (mp r) ?_);obtain ⟨w,C,a⟩:=bs a;refine kL r ?_;have hc:=(nC fu) (b.pr [0] [] [3] r)  C;refine sc (ec wL r) hc ?_;rintro _ L ⟨rfl,c⟩;replace b:=b.cl [0] [] r c r;try dsimp only [pick,nth,ca,na] at b
 refine s (kI r r) (s (lI r) ?_);rcases iv a with ⟨m,a⟩|⟨m,a⟩
 ·rw [m];refine ko r (ko r (s (kU r r) (s (kG r) (n (lS ?_)))));obtain rfl:=sm a;refine jI r (nu r) ?_;exact ⟨r,b.dp [4]⟩
 replace m:=nt m;rw [m];refine kL r (s (mp r) ?_);obtain ⟨x,D,a⟩:=bs a;refine kL r ?_;have hc:=(nC fu) (b.pr [0] [] [4] r)  D;refine sc (ec wL r) hc ?_;rintro _ M ⟨rfl,c⟩;replace b:=b.cl [0] [] r c r;try dsimp only [pick,nth,ca,na] at b
 refine s (kI r r) (s (kG r) (n (lS ?_)));obtain rfl:=sm a;refine jI r (nu r) ?_;exact ⟨r,b.dp [5]⟩
def NN (m:gP->Option (Int × Int)):Prop:=∀ {f j}{c:gP}{d a b R},(fun L=>Pre f j L [.l a b c.l]->m c=some R-> Calls prog 161 #[Pt d] f (sW fun v w=>jy R fun h i=>v=.tuple #[V h,V i]/\Bx f w j (mQ L) L [.l a b c.l])) [.box d 99 #[Z a c.l b,V c.a,V c.c,V c.e]]
def ru (fu:Nat)(c:gP):List BA→Nat→Option (Ld (Unit) (Int × Int))
 | [],_=>some (.go ())
 | d :: e,b=>
 (mM fu c 0 d).bind fun a=>
 if a=true then
  (ix ([3,3,4,4,4,2,2,2,1,1,1,1]:List Int) (b:Int)).bind fun f=>
  some (.out (f,wr (6+(b:Int))))
 else
  ru fu c e (b+1)
def zV (fu:Nat)(a:gP):Option (Int × Int):=(ru fu a ([(⟨#[43]⟩:BA),(⟨#[45]⟩:BA),(⟨#[42]⟩:BA),(⟨#[47]⟩:BA),(⟨#[37]⟩:BA),(⟨#[38]⟩:BA),(⟨#[124]⟩:BA),(⟨#[94]⟩:BA),(⟨#[60]⟩:BA),(⟨#[60,61]⟩:BA),(⟨#[61,61]⟩:BA),(⟨#[33,61]⟩:BA)]:List BA) 0).bind fun b=>b.el (fun _=>some (0,0)) (fun o=>some o)
theorem MJ (fu:Nat):NN (zV fu):=by
 intro t a1 i j b c R E m;unfold zV at m;have d:=E.bx;clear E;generalize Q:mQ _=G at d ⊢;refine cf func161 r ?_;refine lH [(0,Pt j)] ⟨r,y⟩ fun a2=>?_;refine q (g (s (xi r) (s (xi r) (n (q (g (l5 (jM d [[T (⟨#[43]⟩:BA)],[T (⟨#[45]⟩:BA)],[T (⟨#[42]⟩:BA)],[T (⟨#[47]⟩:BA)],[T (⟨#[37]⟩:BA)],[T (⟨#[38]⟩:BA)],[T (⟨#[124]⟩:BA)],[T (⟨#[94]⟩:BA)],[T (⟨#[60]⟩:BA)],[T (⟨#[60,61]⟩:BA)],[T (⟨#[61,61]⟩:BA)],[T (⟨#[33,61]⟩:BA)]] ([(⟨#[43]⟩:BA),(⟨#[45]⟩:BA),(⟨#[42]⟩:BA),(⟨#[47]⟩:BA),(⟨#[37]⟩:BA),(⟨#[38]⟩:BA),(⟨#[124]⟩:BA),(⟨#[94]⟩:BA),(⟨#[60]⟩:BA),(⟨#[60,61]⟩:BA),(⟨#[61,61]⟩:BA),(⟨#[33,61]⟩:BA)]:List BA) (Hr r r r r r r r r r r r r) r r (by decide) ⟨r,⟨r,⟨r,⟨r,⟨r,⟨r,⟨r,⟨r,⟨r,⟨r,⟨r,⟨r,y⟩⟩⟩⟩⟩⟩⟩⟩⟩⟩⟩⟩) ?_)))))));rintro _ S ⟨x,rfl,d⟩;refine s (og r) (n (q (g (l5 (jM d [[V 3],[V 3],[V 4],[V 4],[V 4],[V 2],[V 2],[V 2],[V 1],[V 1],[V 1],[V 1]] ([3,3,4,4,4,2,2,2,1,1,1,1]:List Int) (Tn r r r r r r r r r r r r) r r (by decide) ⟨r,⟨r,⟨r,⟨r,⟨r,⟨r,⟨r,⟨r,⟨r,⟨r,⟨r,⟨r,y⟩⟩⟩⟩⟩⟩⟩⟩⟩⟩⟩⟩) ?_))));rintro _ U ⟨z,rfl,d⟩;refine s (og r) (n (q (q (g (s (qw r) (s (mV kW r) (s (mi r) (n ?_))))))));have I:=(d.vw 1 1 r r).bd;obtain ⟨F,a,m⟩:=bs m
 refine oD (fun f w=>Has f []/\Bx t w a1 G [O t.heap.size (ad z) 12 3 Int [[V 3],[V 3],[V 4],[V 4],[V 4],[V 2],[V 2],[V 2],[V 1],[V 1],[V 1],[V 1]],O t.heap.size (ad x) 12 9 BA [[T (⟨#[43]⟩:BA)],[T (⟨#[45]⟩:BA)],[T (⟨#[42]⟩:BA)],[T (⟨#[47]⟩:BA)],[T (⟨#[37]⟩:BA)],[T (⟨#[38]⟩:BA)],[T (⟨#[124]⟩:BA)],[T (⟨#[94]⟩:BA)],[T (⟨#[60]⟩:BA)],[T (⟨#[60,61]⟩:BA)],[T (⟨#[61,61]⟩:BA)],[T (⟨#[33,61]⟩:BA)]],.box j 99 #[Z b i.l c,V i.a,V i.c,V i.e]] [.els [[V 3],[V 3],[V 4],[V 4],[V 4],[V 2],[V 2],[V 2],[V 1],[V 1],[V 1],[V 1]] ([3,3,4,4,4,2,2,2,1,1,1,1]:List Int),.els [[T (⟨#[43]⟩:BA)],[T (⟨#[45]⟩:BA)],[T (⟨#[42]⟩:BA)],[T (⟨#[47]⟩:BA)],[T (⟨#[37]⟩:BA)],[T (⟨#[38]⟩:BA)],[T (⟨#[124]⟩:BA)],[T (⟨#[94]⟩:BA)],[T (⟨#[60]⟩:BA)],[T (⟨#[60,61]⟩:BA)],[T (⟨#[61,61]⟩:BA)],[T (⟨#[33,61]⟩:BA)]] ([(⟨#[43]⟩:BA),(⟨#[45]⟩:BA),(⟨#[42]⟩:BA),(⟨#[47]⟩:BA),(⟨#[37]⟩:BA),(⟨#[38]⟩:BA),(⟨#[124]⟩:BA),(⟨#[94]⟩:BA),(⟨#[60]⟩:BA),(⟨#[60,61]⟩:BA),(⟨#[61,61]⟩:BA),(⟨#[33,61]⟩:BA)]:List BA),.l b c i.l]/\Ld.go ()=F) (fun W A=>?_) ?_
 ·refine qb (kM (fun a3 f w=>∃ (k:Nat),a3=([(⟨#[43]⟩:BA),(⟨#[45]⟩:BA),(⟨#[42]⟩:BA),(⟨#[47]⟩:BA),(⟨#[37]⟩:BA),(⟨#[38]⟩:BA),(⟨#[124]⟩:BA),(⟨#[94]⟩:BA),(⟨#[60]⟩:BA),(⟨#[60,61]⟩:BA),(⟨#[61,61]⟩:BA),(⟨#[33,61]⟩:BA)]:List BA).length - k/\k<=([(⟨#[43]⟩:BA),(⟨#[45]⟩:BA),(⟨#[42]⟩:BA),(⟨#[47]⟩:BA),(⟨#[37]⟩:BA),(⟨#[38]⟩:BA),(⟨#[124]⟩:BA),(⟨#[94]⟩:BA),(⟨#[60]⟩:BA),(⟨#[60,61]⟩:BA),(⟨#[61,61]⟩:BA),(⟨#[33,61]⟩:BA)]:List BA).length/\Has f [(12,V (k:Int)),(0,Pt j),(5,.slice (ad z) ([3,3,4,4,4,2,2,2,1,1,1,1]:List Int).length 12),(10,.slice (ad x) ([(⟨#[43]⟩:BA),(⟨#[45]⟩:BA),(⟨#[42]⟩:BA),(⟨#[47]⟩:BA),(⟨#[37]⟩:BA),(⟨#[38]⟩:BA),(⟨#[124]⟩:BA),(⟨#[94]⟩:BA),(⟨#[60]⟩:BA),(⟨#[60,61]⟩:BA),(⟨#[61,61]⟩:BA),(⟨#[33,61]⟩:BA)]:List BA).length 12),(11,V ((([(⟨#[43]⟩:BA),(⟨#[45]⟩:BA),(⟨#[42]⟩:BA),(⟨#[47]⟩:BA),(⟨#[37]⟩:BA),(⟨#[38]⟩:BA),(⟨#[124]⟩:BA),(⟨#[94]⟩:BA),(⟨#[60]⟩:BA),(⟨#[60,61]⟩:BA),(⟨#[61,61]⟩:BA),(⟨#[33,61]⟩:BA)]:List BA).length:Nat):Int))]/\Bx t w a1 G [O t.heap.size (ad z) 12 3 Int [[V 3],[V 3],[V 4],[V 4],[V 4],[V 2],[V 2],[V 2],[V 1],[V 1],[V 1],[V 1]],O t.heap.size (ad x) 12 9 BA [[T (⟨#[43]⟩:BA)],[T (⟨#[45]⟩:BA)],[T (⟨#[42]⟩:BA)],[T (⟨#[47]⟩:BA)],[T (⟨#[37]⟩:BA)],[T (⟨#[38]⟩:BA)],[T (⟨#[124]⟩:BA)],[T (⟨#[94]⟩:BA)],[T (⟨#[60]⟩:BA)],[T (⟨#[60,61]⟩:BA)],[T (⟨#[61,61]⟩:BA)],[T (⟨#[33,61]⟩:BA)]],.box j 99 #[Z b i.l c,V i.a,V i.c,V i.e]] [.els [[V 3],[V 3],[V 4],[V 4],[V 4],[V 2],[V 2],[V 2],[V 1],[V 1],[V 1],[V 1]] ([3,3,4,4,4,2,2,2,1,1,1,1]:List Int),.els [[T (⟨#[43]⟩:BA)],[T (⟨#[45]⟩:BA)],[T (⟨#[42]⟩:BA)],[T (⟨#[47]⟩:BA)],[T (⟨#[37]⟩:BA)],[T (⟨#[38]⟩:BA)],[T (⟨#[124]⟩:BA)],[T (⟨#[94]⟩:BA)],[T (⟨#[60]⟩:BA)],[T (⟨#[60,61]⟩:BA)],[T (⟨#[61,61]⟩:BA)],[T (⟨#[33,61]⟩:BA)]] ([(⟨#[43]⟩:BA),(⟨#[45]⟩:BA),(⟨#[42]⟩:BA),(⟨#[47]⟩:BA),(⟨#[37]⟩:BA),(⟨#[38]⟩:BA),(⟨#[124]⟩:BA),(⟨#[94]⟩:BA),(⟨#[60]⟩:BA),(⟨#[60,61]⟩:BA),(⟨#[61,61]⟩:BA),(⟨#[33,61]⟩:BA)]:List BA),.l b c i.l]/\ru fu i (([(⟨#[43]⟩:BA),(⟨#[45]⟩:BA),(⟨#[42]⟩:BA),(⟨#[47]⟩:BA),(⟨#[37]⟩:BA),(⟨#[38]⟩:BA),(⟨#[124]⟩:BA),(⟨#[94]⟩:BA),(⟨#[60]⟩:BA),(⟨#[60,61]⟩:BA),(⟨#[61,61]⟩:BA),(⟨#[33,61]⟩:BA)]:List BA).drop k) k=some F) (([(⟨#[43]⟩:BA),(⟨#[45]⟩:BA),(⟨#[42]⟩:BA),(⟨#[47]⟩:BA),(⟨#[37]⟩:BA),(⟨#[38]⟩:BA),(⟨#[124]⟩:BA),(⟨#[94]⟩:BA),(⟨#[60]⟩:BA),(⟨#[60,61]⟩:BA),(⟨#[61,61]⟩:BA),(⟨#[33,61]⟩:BA)]:List BA).length) ⟨0,r,uS _,⟨r,r,r,r,r,y⟩,d,a⟩ ?_)
  clear d a;rintro a3 f w ⟨k,rfl,J,hf,d,a⟩ X B;obtain ⟨a2,rfl⟩:=ng hf;rcases wY k ([(⟨#[43]⟩:BA),(⟨#[45]⟩:BA),(⟨#[42]⟩:BA),(⟨#[47]⟩:BA),(⟨#[37]⟩:BA),(⟨#[38]⟩:BA),(⟨#[124]⟩:BA),(⟨#[94]⟩:BA),(⟨#[60]⟩:BA),(⟨#[60,61]⟩:BA),(⟨#[61,61]⟩:BA),(⟨#[33,61]⟩:BA)]:List BA).length with u | u
  ·obtain ⟨K,p⟩:=mU (l:=([(⟨#[43]⟩:BA),(⟨#[45]⟩:BA),(⟨#[42]⟩:BA),(⟨#[47]⟩:BA),(⟨#[37]⟩:BA),(⟨#[38]⟩:BA),(⟨#[124]⟩:BA),(⟨#[94]⟩:BA),(⟨#[60]⟩:BA),(⟨#[60,61]⟩:BA),(⟨#[61,61]⟩:BA),(⟨#[33,61]⟩:BA)]:List BA)) u;rw [mR p,ru] at a;refine q (g (s (sO r r (by omega)) (n (q (jK r (wk (q (qb (q (g (s (mi r) (s (lu kW pJ r r r (d.vw 1 1 r r) p) (s (kC vg r r ((uE (ds:=[T K]) (d.vw 1 1 r r) p (fun _ h=>h)) 0 _ r)) ?_)))))))))))));refine s (xi r) (s (mP r) (n (q (g (s (mp r) (s (lF r) ?_))))));obtain ⟨H,L,a⟩:=bs a;have hc:=(nC fu) (d.pr [2] [0,1] [2] r)  L;refine sc (ec wL r) hc ?_;rintro _ Y ⟨rfl,M⟩;replace d:=d.cl [2] [0,1] r M r;try dsimp only [pick,nth,ca,na] at d
   refine n ?_;rcases iv a with ⟨v,a⟩|⟨v,a⟩
   ·refine jK (cb v) (q (g (s (qw r) (s (mi r) ?_))));obtain ⟨N,o,a⟩:=bs a;obtain ⟨k6,C,o⟩:=lq o;refine s (lu Ck o9 r r C (d.vw 1 1 r r) o) (s (kC NG r r ((uE (ds:=[V N]) (d.vw 1 1 r r) o (fun _ h=>h)) 0 _ r)) (s (mi r) (s (kN r r) (s (xi r) (s (xi r) (n (lS ?_)))))));obtain rfl:=sm a;replace m:=oi m;obtain rfl:=sm m;refine Cc r (nu r) (nu r) ?_;exact mZ (⟨r,d.ad [0] [3]⟩)
   refine jD (wV v) (wk (g (s (mE r r (by omega) (by omega)) (s (mi r) (n ?_)))));exact B (([(⟨#[43]⟩:BA),(⟨#[45]⟩:BA),(⟨#[42]⟩:BA),(⟨#[47]⟩:BA),(⟨#[37]⟩:BA),(⟨#[38]⟩:BA),(⟨#[124]⟩:BA),(⟨#[94]⟩:BA),(⟨#[60]⟩:BA),(⟨#[60,61]⟩:BA),(⟨#[61,61]⟩:BA),(⟨#[33,61]⟩:BA)]:List BA).length - (k+1)) _ _ (by omega) ⟨k+1,r,by omega,⟨r,r,r,r,r,y⟩,d.ad [1,2,0] [1,2,3],a⟩
  obtain rfl:k=([(⟨#[43]⟩:BA),(⟨#[45]⟩:BA),(⟨#[42]⟩:BA),(⟨#[47]⟩:BA),(⟨#[37]⟩:BA),(⟨#[38]⟩:BA),(⟨#[124]⟩:BA),(⟨#[94]⟩:BA),(⟨#[60]⟩:BA),(⟨#[60,61]⟩:BA),(⟨#[61,61]⟩:BA),(⟨#[33,61]⟩:BA)]:List BA).length:=by omega
  rw [lU,ru] at a;refine q (g (s (sM r r (by omega)) (n (q (jD r (vE ?_))))));exact A _ _ ⟨y,d,sm a⟩
 clear d;rintro f w ⟨hf,d,D⟩;obtain ⟨a2,rfl⟩:=ng hf;subst D;replace m:=gi m;refine q (g (s (xi r) (s (xi r) (n (lS ?_)))));obtain rfl:=sm m;refine Cc r (nu r) (nu r) ?_;exact mZ (⟨r,d.ad [2] [2]⟩)
def OP (m:gP->Option Bool):Prop:=∀ {f i}{c:gP}{d a b h},(fun L=>Pre f i L [.l a b c.l]->m c=some h-> Calls prog 162 #[Pt d] f (sW fun v w=>v=.bool h/\Bx f w i (mQ L) L [.l a b c.l])) [.box d 99 #[Z a c.l b,V c.a,V c.c,V c.e]]
def tJ (fu:Nat)(c:gP):Option Bool:=(pO fu c 0 1).bind fun a=>if a=true then (mM fu c 1 (⟨#[40]⟩:BA)).bind fun b=>some b else some false
theorem Im (fu:Nat):OP (tJ fu):=by
 intro u A i f c d v k b;unfold tJ at b;have a:=k.bx;clear k;generalize w:mQ _=G at a ⊢;refine cf func162 r ?_;refine lH [(0,Pt f)] ⟨r,y⟩ fun B=>?_;refine q (g (s (kG r) (n (q (g (s (mp r) ?_))))));obtain ⟨m,p,b⟩:=bs b;have hc:=(rD fu) (a.pr [0] [] [0] r)  p;refine sc (ec F5 r) hc ?_;rintro _ x ⟨rfl,j⟩;replace a:=a.cl [0] [] r j r;try dsimp only [pick,nth,ca,na] at a
 refine s (lI r) ?_;rcases iv b with ⟨h,b⟩|⟨h,b⟩
 ·rw [h];refine kL r (s (mp r) ?_);obtain ⟨o,t,b⟩:=bs b;refine kL r ?_;have hc:=(nC fu) (a.pr [0] [] [1] r)  t;refine sc (ec wL r) hc ?_;rintro _ z ⟨rfl,j⟩;replace a:=a.cl [0] [] r j r;try dsimp only [pick,nth,ca,na] at a
  refine s (kU r r) (s (kG r) (n (lS ?_)));obtain rfl:=sm b;refine jI r (nu r) ?_;exact ⟨r,a.dp [2]⟩
 replace h:=nt h;rw [h];refine ko r (ko r (s (kI r r) (s (kG r) (n (lS ?_)))));obtain rfl:=sm b;refine jI r (nu r) ?_;exact ⟨r,a.dp [1]⟩
def KE (m:gP->Option Bool):Prop:=∀ {f i}{c:gP}{d a b h},(fun L=>Pre f i L [.l a b c.l]->m c=some h-> Calls prog 77 #[Pt d] f (sW fun v w=>v=.bool h/\Bx f w i (mQ L) L [.l a b c.l])) [.box d 99 #[Z a c.l b,V c.a,V c.c,V c.e]]
def qB (fu:Nat)(b:gP):List BA→Nat→Option (Ld (Unit) (Bool))
 | [],_=>some (.go ())
 | c :: d,e=>
 (mM fu b 0 c).bind fun a=>
 if a=true then
  some (.out true)
 else
  qB fu b d (e+1)
def xW (fu:Nat)(b:gP):Option Bool:=(qB fu b ([(⟨#[118,97,114]⟩:BA),(⟨#[105,102]⟩:BA),(⟨#[119,104,105,108,101]⟩:BA),(⟨#[114,101,116,117,114,110]⟩:BA),(⟨#[116,104,114,111,119]⟩:BA),(⟨#[116,114,121]⟩:BA),(⟨#[112,114,105,110,116]⟩:BA)]:List BA) 0).bind fun c=>c.el (fun _=>(pO fu b 0 1).bind fun a=>some a) (fun o=>some o)
theorem KR (fu:Nat):KE (xW fu):=by
 intro u X i j b c M C k;unfold xW at k;have d:=C.bx;clear C;generalize N:mQ _=G at d ⊢;refine cf func77 r ?_;refine lH [(0,Pt j)] ⟨r,y⟩ fun Y=>?_;refine q (g (s (kG r) (n (q (q (g (l5 (jM d [[T (⟨#[118,97,114]⟩:BA)],[T (⟨#[105,102]⟩:BA)],[T (⟨#[119,104,105,108,101]⟩:BA)],[T (⟨#[114,101,116,117,114,110]⟩:BA)],[T (⟨#[116,104,114,111,119]⟩:BA)],[T (⟨#[116,114,121]⟩:BA)],[T (⟨#[112,114,105,110,116]⟩:BA)]] ([(⟨#[118,97,114]⟩:BA),(⟨#[105,102]⟩:BA),(⟨#[119,104,105,108,101]⟩:BA),(⟨#[114,101,116,117,114,110]⟩:BA),(⟨#[116,104,114,111,119]⟩:BA),(⟨#[116,114,121]⟩:BA),(⟨#[112,114,105,110,116]⟩:BA)]:List BA) (Vo r r r r r r r) r r (by decide) ⟨r,⟨r,⟨r,⟨r,⟨r,⟨r,⟨r,y⟩⟩⟩⟩⟩⟩⟩) ?_)))))));rintro _ Q ⟨v,rfl,d⟩;refine s (mV kW r) (s (mi r) (n ?_));have H:=(d.vw 0 0 r r).bd;obtain ⟨D,a,k⟩:=bs k;refine oD (fun f w=>Has f [(0,Pt j)]/\Bx u w X G [O u.heap.size (ad v) 7 9 BA [[T (⟨#[118,97,114]⟩:BA)],[T (⟨#[105,102]⟩:BA)],[T (⟨#[119,104,105,108,101]⟩:BA)],[T (⟨#[114,101,116,117,114,110]⟩:BA)],[T (⟨#[116,104,114,111,119]⟩:BA)],[T (⟨#[116,114,121]⟩:BA)],[T (⟨#[112,114,105,110,116]⟩:BA)]],.box j 99 #[Z b i.l c,V i.a,V i.c,V i.e]] [.els [[T (⟨#[118,97,114]⟩:BA)],[T (⟨#[105,102]⟩:BA)],[T (⟨#[119,104,105,108,101]⟩:BA)],[T (⟨#[114,101,116,117,114,110]⟩:BA)],[T (⟨#[116,104,114,111,119]⟩:BA)],[T (⟨#[116,114,121]⟩:BA)],[T (⟨#[112,114,105,110,116]⟩:BA)]] ([(⟨#[118,97,114]⟩:BA),(⟨#[105,102]⟩:BA),(⟨#[119,104,105,108,101]⟩:BA),(⟨#[114,101,116,117,114,110]⟩:BA),(⟨#[116,104,114,111,119]⟩:BA),(⟨#[116,114,121]⟩:BA),(⟨#[112,114,105,110,116]⟩:BA)]:List BA),.l b c i.l]/\Ld.go ()=D) (fun R x=>?_) ?_
 ·refine qb (kM (fun a0 f w=>∃ (m:Nat),a0=([(⟨#[118,97,114]⟩:BA),(⟨#[105,102]⟩:BA),(⟨#[119,104,105,108,101]⟩:BA),(⟨#[114,101,116,117,114,110]⟩:BA),(⟨#[116,104,114,111,119]⟩:BA),(⟨#[116,114,121]⟩:BA),(⟨#[112,114,105,110,116]⟩:BA)]:List BA).length - m/\m<=([(⟨#[118,97,114]⟩:BA),(⟨#[105,102]⟩:BA),(⟨#[119,104,105,108,101]⟩:BA),(⟨#[114,101,116,117,114,110]⟩:BA),(⟨#[116,104,114,111,119]⟩:BA),(⟨#[116,114,121]⟩:BA),(⟨#[112,114,105,110,116]⟩:BA)]:List BA).length/\Has f [(7,V (m:Int)),(0,Pt j),(5,.slice (ad v) ([(⟨#[118,97,114]⟩:BA),(⟨#[105,102]⟩:BA),(⟨#[119,104,105,108,101]⟩:BA),(⟨#[114,101,116,117,114,110]⟩:BA),(⟨#[116,104,114,111,119]⟩:BA),(⟨#[116,114,121]⟩:BA),(⟨#[112,114,105,110,116]⟩:BA)]:List BA).length 7),(6,V ((([(⟨#[118,97,114]⟩:BA),(⟨#[105,102]⟩:BA),(⟨#[119,104,105,108,101]⟩:BA),(⟨#[114,101,116,117,114,110]⟩:BA),(⟨#[116,104,114,111,119]⟩:BA),(⟨#[116,114,121]⟩:BA),(⟨#[112,114,105,110,116]⟩:BA)]:List BA).length:Nat):Int))]/\Bx u w X G [O u.heap.size (ad v) 7 9 BA [[T (⟨#[118,97,114]⟩:BA)],[T (⟨#[105,102]⟩:BA)],[T (⟨#[119,104,105,108,101]⟩:BA)],[T (⟨#[114,101,116,117,114,110]⟩:BA)],[T (⟨#[116,104,114,111,119]⟩:BA)],[T (⟨#[116,114,121]⟩:BA)],[T (⟨#[112,114,105,110,116]⟩:BA)]],.box j 99 #[Z b i.l c,V i.a,V i.c,V i.e]] [.els [[T (⟨#[118,97,114]⟩:BA)],[T (⟨#[105,102]⟩:BA)],[T (⟨#[119,104,105,108,101]⟩:BA)],[T (⟨#[114,101,116,117,114,110]⟩:BA)],[T (⟨#[116,104,114,111,119]⟩:BA)],[T (⟨#[116,114,121]⟩:BA)],[T (⟨#[112,114,105,110,116]⟩:BA)]] ([(⟨#[118,97,114]⟩:BA),(⟨#[105,102]⟩:BA),(⟨#[119,104,105,108,101]⟩:BA),(⟨#[114,101,116,117,114,110]⟩:BA),(⟨#[116,104,114,111,119]⟩:BA),(⟨#[116,114,121]⟩:BA),(⟨#[112,114,105,110,116]⟩:BA)]:List BA),.l b c i.l]/\qB fu i (([(⟨#[118,97,114]⟩:BA),(⟨#[105,102]⟩:BA),(⟨#[119,104,105,108,101]⟩:BA),(⟨#[114,101,116,117,114,110]⟩:BA),(⟨#[116,104,114,111,119]⟩:BA),(⟨#[116,114,121]⟩:BA),(⟨#[112,114,105,110,116]⟩:BA)]:List BA).drop m) m=some D) (([(⟨#[118,97,114]⟩:BA),(⟨#[105,102]⟩:BA),(⟨#[119,104,105,108,101]⟩:BA),(⟨#[114,101,116,117,114,110]⟩:BA),(⟨#[116,104,114,111,119]⟩:BA),(⟨#[116,114,121]⟩:BA),(⟨#[112,114,105,110,116]⟩:BA)]:List BA).length) ⟨0,r,uS _,⟨r,r,r,r,y⟩,d,a⟩ ?_)
  clear d a;rintro a0 f w ⟨m,rfl,I,hf,d,a⟩ S z;obtain ⟨Y,rfl⟩:=ng hf;rcases wY m ([(⟨#[118,97,114]⟩:BA),(⟨#[105,102]⟩:BA),(⟨#[119,104,105,108,101]⟩:BA),(⟨#[114,101,116,117,114,110]⟩:BA),(⟨#[116,104,114,111,119]⟩:BA),(⟨#[116,114,121]⟩:BA),(⟨#[112,114,105,110,116]⟩:BA)]:List BA).length with p | p
  ·obtain ⟨J,o⟩:=mU (l:=([(⟨#[118,97,114]⟩:BA),(⟨#[105,102]⟩:BA),(⟨#[119,104,105,108,101]⟩:BA),(⟨#[114,101,116,117,114,110]⟩:BA),(⟨#[116,104,114,111,119]⟩:BA),(⟨#[116,114,121]⟩:BA),(⟨#[112,114,105,110,116]⟩:BA)]:List BA)) p;rw [mR o,qB] at a;refine q (g (s (sO r r (by omega)) (n (q (jK r (wk (q (qb (q (g (s (lu kW pJ r r r (d.vw 0 0 r r) o) (s (kC vg r r ((uE (ds:=[T J]) (d.vw 0 0 r r) o (fun _ h=>h)) 0 _ r)) (s (mP r) ?_)))))))))))));refine n (q (g (s (mp r) (s (lF r) ?_))));obtain ⟨E,K,a⟩:=bs a;have hc:=(nC fu) (d.pr [1] [0] [1] r)  K;refine sc (ec wL r) hc ?_;rintro _ U ⟨rfl,A⟩;replace d:=d.cl [1] [0] r A r;try dsimp only [pick,nth,ca,na] at d
   refine n ?_;rcases iv a with ⟨t,a⟩|⟨t,a⟩
   ·refine jK (cb t) (q (g (s (kG r) (n (lS ?_)))));obtain rfl:=sm a;replace k:=oi k;obtain rfl:=sm k;refine jI r (nu r) ?_;exact ⟨r,d.ad [0] [2]⟩
   refine jD (wV t) (wk (g (s (mE r r (by omega) (by omega)) (s (mi r) (n ?_)))));exact z (([(⟨#[118,97,114]⟩:BA),(⟨#[105,102]⟩:BA),(⟨#[119,104,105,108,101]⟩:BA),(⟨#[114,101,116,117,114,110]⟩:BA),(⟨#[116,104,114,111,119]⟩:BA),(⟨#[116,114,121]⟩:BA),(⟨#[112,114,105,110,116]⟩:BA)]:List BA).length - (m+1)) _ _ (by omega) ⟨m+1,r,by omega,⟨r,r,r,r,y⟩,d.ad [1,0] [1,2],a⟩
  obtain rfl:m=([(⟨#[118,97,114]⟩:BA),(⟨#[105,102]⟩:BA),(⟨#[119,104,105,108,101]⟩:BA),(⟨#[114,101,116,117,114,110]⟩:BA),(⟨#[116,104,114,111,119]⟩:BA),(⟨#[116,114,121]⟩:BA),(⟨#[112,114,105,110,116]⟩:BA)]:List BA).length:=by omega
  rw [lU,qB] at a;refine q (g (s (sM r r (by omega)) (n (q (jD r (vE ?_))))));exact x _ _ ⟨⟨r,y⟩,d,sm a⟩
 clear d;rintro f w ⟨hf,d,B⟩;obtain ⟨Y,rfl⟩:=ng hf;subst B;replace k:=gi k;refine q (g (s (mp r) ?_));obtain ⟨F,L,k⟩:=bs k;have hc:=(rD fu) (d.pr [1] [0] [1] r)  L;refine sc (ec F5 r) hc ?_;rintro _ W ⟨rfl,A⟩;replace d:=d.cl [1] [0] r A r;try dsimp only [pick,nth,ca,na] at d
 refine s (kG r) (n (lS ?_));obtain rfl:=sm k;refine jI r (nu r) ?_;exact ⟨r,d.ad [0] [2]⟩
abbrev ny:=gP->Int->Int->Option (jA × gP)
abbrev qJ:=gP->Int->Option (jA × gP)
abbrev pU:=gP->Int->Option (jA × gP)
def qp (m:gP->Int->Int->Option (Ge × gP)):Prop:=∀ {k t}{h:gP}{o p i a b R},(fun L=>Pre k t L [.l a b h.l]->m h o p=some R-> Calls prog 130 #[Pt i,V o,V p] k (sW fun v w=>jy R fun j c=>∃ (d:OA)(f:Nat),v=.agg #[V j.e,V j.d,V j.g,T j.b,T j.c,Z d j.a f]/\Bx k w t (mQ L) [.box i 99 #[Z a c.l b,V c.a,V c.c,V c.e]] [.l d f j.a,.l a b c.l])) [.box i 99 #[Z a h.l b,V h.a,V h.c,V h.e]]
def xQ (m:gP->Int->Option (Ge × gP)):Prop:=∀ {k p}{h:gP}{o i a b R},(fun L=>Pre k p L [.l a b h.l]->m h o=some R-> Calls prog 160 #[Pt i,V o] k (sW fun v w=>jy R fun j c=>∃ (d:OA)(f:Nat),v=.agg #[V j.e,V j.d,V j.g,T j.b,T j.c,Z d j.a f]/\Bx k w p (mQ L) [.box i 99 #[Z a c.l b,V c.a,V c.c,V c.e]] [.l d f j.a,.l a b c.l])) [.box i 99 #[Z a h.l b,V h.a,V h.c,V h.e]]
def uo (m:gP->Int->Option (Ge × gP)):Prop:=∀ {k p}{h:gP}{o i a b R},(fun L=>Pre k p L [.l a b h.l]->m h o=some R-> Calls prog 164 #[Pt i,V o] k (sW fun v w=>jy R fun j c=>∃ (d:OA)(f:Nat),v=.agg #[V j.e,V j.d,V j.g,T j.b,T j.c,Z d j.a f]/\Bx k w p (mQ L) [.box i 99 #[Z a c.l b,V c.a,V c.c,V c.e]] [.l d f j.a,.l a b c.l])) [.box i 99 #[Z a h.l b,V h.a,V h.c,V h.e]]
def sK (fu:Nat)(r_r03_expression:ny)(r_r03_unary:qJ)(r_r03_target:pU)(f:gP)(h i:Int):Option (Ld (Int × Int × Int × BA × BA × List Ge × List kg × Int × Int × Int) (Ge × gP)):=if h=5 then (r_r03_unary f i).bind fun j=>jy j fun a c=>some (.go (a.e,a.d,a.g,a.b,a.c,a.a,c.l,c.a,c.c,c.e)) else (r_r03_expression f (wr (h+1)) i).bind fun j=>jy j fun b d=>some (.go (b.e,b.d,b.g,b.b,b.c,b.a,d.l,d.a,d.c,d.e))
def o8 (fu:Nat)(r_r03_expression:ny)(r_r03_unary:qJ)(r_r03_target:pU)(v w:Int):Nat→Int→Int→Int→BA→BA→(List Ge)→(List kg)→Int→Int→Int→Option (Ld (Int × Int × Int × BA × BA × List Ge × List kg × Int × Int × Int) (Ge × gP))
 | 0,_,_,_,_,_,_,_,_,_,_=>none
 | x+1,c,d,f,h,i,j,k,m,o,a=>
 if a=0 then
  if v < 5 then
   (zV fu (⟨k,m,o,a⟩:gP)).bind fun z=>
   jy z fun u p=>
   if u≠v then
    some (.out ((⟨c,d,f,h,i,j⟩:Ge),(⟨k,m,o,a⟩:gP)))
   else
    (r_r03_expression (⟨k,wr (m+1),o,a⟩:gP) (wr (v+1)) w).bind fun z=>
    jy z fun t b=>
    if v=1 then
     some (.out ((⟨p,0,0,be,be,([(⟨c,d,f,h,i,j⟩:Ge),t]:List Ge)⟩:Ge),b))
    else
     o8 fu r_r03_expression r_r03_unary r_r03_target v w x p 0 0 be be ([(⟨c,d,f,h,i,j⟩:Ge),t]:List Ge) b.l b.a b.c b.e
  else
   some (.go (c,d,f,h,i,j,k,m,o,a))
 else
  some (.go (c,d,f,h,i,j,k,m,o,a))
def sP (fu:Nat)(r_r03_expression:ny)(r_r03_unary:qJ)(r_r03_target:pU)(D:gP)(B C:Int):Option (Ge × gP):=(sK fu r_r03_expression r_r03_unary r_r03_target D B C).bind fun E=>E.el (fun E=>jy E fun c E=>jy E fun d E=>jy E fun e E=>jy E fun f E=>jy E fun h E=>jy E fun i E=>jy E fun j E=>jy E fun k E=>jy E fun l a=>(o8 fu r_r03_expression r_r03_unary r_r03_target B C fu c d e f h i j k l a).bind fun E=>E.el (fun E=>jy E fun m E=>jy E fun p E=>jy E fun t E=>jy E fun u E=>jy E fun v E=>jy E fun w E=>jy E fun x E=>jy E fun z E=>jy E fun A b=>some ((⟨m,p,t,u,v,w⟩:Ge),(⟨x,z,A,b⟩:gP))) (fun o=>some o)) (fun o=>some o)
def q9 (fu:Nat)(r_r03_expression:ny)(r_r03_unary:qJ)(r_r03_target:pU)(d:gP)(j:Int):List BA→Nat→Option (Ld (Unit) (Ge × gP))
 | [],_=>some (.go ())
 | h :: i,f=>
 (mM fu d 0 h).bind fun a=>
 if a=true then
  (r_r03_unary (⟨d.l,wr (d.a+1),d.c,d.e⟩:gP) (wr (j+1))).bind fun k=>
  jy k fun b c=>
  some (.out ((⟨wr (4+(f:Int)),0,0,be,be,([b]:List Ge)⟩:Ge),c))
 else
  q9 fu r_r03_expression r_r03_unary r_r03_target d j i (f+1)
def Aw (fu:Nat)(r_r03_expression:ny)(r_r03_unary:qJ)(r_r03_target:pU)(a:gP)(t:Int):Option (Ge × gP):=if a.e≠0 then some ((⟨0,0,0,be,be,([]:List Ge)⟩:Ge),a) else (xZ fu a).bind fun m=>if (!m)=true then (pK fu a 7).bind fun p=>some ((⟨0,0,0,be,be,([]:List Ge)⟩:Ge),p) else if 8 < t then (pK fu a 5).bind fun b=>some ((⟨0,0,0,be,be,([]:List Ge)⟩:Ge),b) else (q9 fu r_r03_expression r_r03_unary r_r03_target a t ([(⟨#[45]⟩:BA),(⟨#[33]⟩:BA)]:List BA) 0).bind fun v=>v.el (fun _=>(pO fu a 0 2).bind fun c=>if c=true then (ix a.l (wr ((wr (a.a+1)) - 1))).bind fun u=>some ((⟨0,u.d,0,be,be,([]:List Ge)⟩:Ge),(⟨a.l,wr (a.a+1),a.c,a.e⟩:gP)) else (mM fu a 0 (⟨#[40]⟩:BA)).bind fun d=>if d=true then (r_r03_expression (⟨a.l,wr (a.a+1),a.c,a.e⟩:gP) 1 (wr (t+1))).bind fun v=>jy v fun f h=>(lT fu h (⟨#[41]⟩:BA)).bind fun i=>some (f,i) else (r_r03_target a t).bind fun v=>jy v fun j k=>some (j,k)) (fun o=>some o)
def wM (fu:Nat)(r_r03_expression:ny)(r_r03_unary:qJ)(r_r03_target:pU)(b:BA)(a:gP):Option (Ld Unit (Ge × gP)):=if a.e=0 then (mM fu a 0 (⟨#[46]⟩:BA)).bind fun c=>if c=true then (oV fu (⟨a.l,wr (a.a+1),a.c,a.e⟩:gP)).bind fun h=>jy h fun d f=>some (.out ((⟨2,0,0,b,d,([]:List Ge)⟩:Ge),f)) else some (.go ()) else some (.go ())
def yH (fu:Nat)(r_r03_expression:ny)(r_r03_unary:qJ)(r_r03_target:pU)(i:gP)(j:Int):Option (Ge × gP):=(oV fu i).bind fun k=>jy k fun b a=>(wM fu r_r03_expression r_r03_unary r_r03_target b a).bind fun k=>k.el (fun _=>if a.e=0 then (mM fu a 0 (⟨#[91]⟩:BA)).bind fun c=>if c=true then (r_r03_expression (⟨a.l,wr (a.a+1),a.c,a.e⟩:gP) 1 (wr (j+1))).bind fun k=>jy k fun d f=>(lT fu f (⟨#[93]⟩:BA)).bind fun h=>some ((⟨3,0,0,b,be,([d]:List Ge)⟩:Ge),h) else some ((⟨1,0,0,b,be,([]:List Ge)⟩:Ge),a) else some ((⟨1,0,0,b,be,([]:List Ge)⟩:Ge),a)) (fun o=>some o)
def lQ:Nat→(gP→Int→Int→Option (Ge × gP)) × (gP→Int→Option (Ge × gP)) × (gP→Int→Option (Ge × gP))
 | 0=>((fun _ _ _=>none),(fun _ _=>none),(fun _ _=>none))
 | fu+1=>(sP fu ((lQ fu).1) ((lQ fu).2.1) ((lQ fu).2.2),Aw fu ((lQ fu).1) ((lQ fu).2.1) ((lQ fu).2.2),yH fu ((lQ fu).1) ((lQ fu).2.1) ((lQ fu).2.2))
def l8 (fu:Nat):=(lQ fu).1
def Ao (fu:Nat):=(lQ fu).2.1
def tK (fu:Nat):=(lQ fu).2.2
theorem Gu (fu:Nat)(r_r03_expression:ny)(r_r03_unary:qJ)(r_r03_target:pU)(H_r03_expression:qp r_r03_expression)(H_r03_unary:xQ r_r03_unary)(H_r03_target:uo r_r03_target):qp (sP fu r_r03_expression r_r03_unary r_r03_target):=by
 intro w0 b0 x0 x1 x2 a1 E F R hP z;unfold sP at z;have d:=hP.bx;clear hP;generalize hG:mQ _=G at d ⊢;refine cf func130 r ?_;refine lH [(0,Pt a1),(1,V x1),(2,V x2)] ⟨r,r,r,y⟩ fun b3=>?_;refine q (g (l5 (kD d (jP jS)) ?_));rintro _ w1 ⟨b1,rfl,d⟩;refine n (q (g (l5 (kD d (jP jS)) ?_)));rintro _ w2 ⟨b2,rfl,d⟩;refine n (q ?_);obtain ⟨Y3,J,z⟩:=bs z;refine oD (fun f w=>∃ (a3 a4 a5:Int)(a6 a7:BA)(Y:List Ge)(S:OA)(U:Nat)(a0:List kg)(a8 a9 W:Int),Has f [(0,Pt a1),(1,V x1),(2,V x2),(6,Pt b1),(7,Pt b2)]/\Bx w0 w b0 G [.box b2 166 #[V a3,V a4,V a5,T a6,T a7,Z S Y U],.box b1 166 #[V 0,V 0,V 0,T be,T be,sn],.box a1 99 #[Z E a0 F,V a8,V a9,V W]] [.l S U Y,.l E F a0]/\Ld.go (a3,a4,a5,a6,a7,Y,a0,a8,a9,W)=Y3) (fun J3 ak=>?_) ?_
 ·unfold sK at J;refine q (g (s (mi r) (s (kH r r) (n ?_))));rcases iv J with ⟨h4,J⟩|⟨h4,J⟩
  ·refine jK (bt h4) (g (s (mp r) (s (mi r) ?_)));obtain ⟨⟨v,aa⟩,h5,J⟩:=bs J;replace J:=pi J;have hc:=H_r03_unary (d.pr [2] [0,1] [0] r)  h5;refine sc (ec UA r) hc ?_;rintro _ w5 ⟨L,M,rfl,hK⟩;replace d:=d.cl [2] [0,1] r hK r;try dsimp only [pick,nth,ca,na] at d
   refine lg (tb d 1 [V v.e,V v.d,V v.g,T v.b,T v.c,Z L v.a M] r jS r r r r r (show _=#[V v.e,V v.d,V v.g,T v.b,T v.c,Z L v.a M] from r)) ?_;intro w6 d;try dsimp only [List.set] at d
   refine n ?_;exact ak _ _ ⟨v.e,v.d,v.g,v.b,v.c,v.a,L,M,aa.l,aa.a,aa.c,aa.e,⟨r,r,r,r,r,y⟩,d.ad [1,2,0] [0,1],sm J⟩
  refine jD (bf h4) (g (s (mp r) (s (mi r) (s (kN r r) (s (mi r) ?_)))));obtain ⟨⟨x,ab⟩,h7,J⟩:=bs J;replace J:=pi J;have hc:=H_r03_expression (d.pr [2] [0,1] [0] r)  h7;refine sc (ec CZ r) hc ?_;rintro _ w7 ⟨N,Q,rfl,hK⟩;replace d:=d.cl [2] [0,1] r hK r;try dsimp only [pick,nth,ca,na] at d
  refine lg (tb d 1 [V x.e,V x.d,V x.g,T x.b,T x.c,Z N x.a Q] r jS r r r r r (show _=#[V x.e,V x.d,V x.g,T x.b,T x.c,Z N x.a Q] from r)) ?_;intro w8 d;try dsimp only [List.set] at d
  refine n ?_;exact ak _ _ ⟨x.e,x.d,x.g,x.b,x.c,x.a,N,Q,ab.l,ab.a,ab.c,ab.e,⟨r,r,r,r,r,y⟩,d.ad [1,2,0] [0,1],sm J⟩
 clear d;rintro f w ⟨a3,a4,a5,a6,a7,Y,S,U,a0,a8,a9,W,hf,d,au⟩;obtain ⟨b3,rfl⟩:=ng hf;subst au;replace z:=gi z;replace z:=pi z;replace z:=pi z;replace z:=pi z;replace z:=pi z;replace z:=pi z;replace z:=pi z;replace z:=pi z;replace z:=pi z;replace z:=pi z;refine q ?_;obtain ⟨Y9,u,z⟩:=bs z;refine oD (fun f w=>∃ (j m o:Int)(p t:BA)(h:List Ge)(b:OA)(c:Nat)(D:List kg)(H I A:Int),Has f [(6,Pt b1),(7,Pt b2)]/\Bx w0 w b0 G [.box b2 166 #[V j,V m,V o,T p,T t,Z b h c],.box b1 166 #[V 0,V 0,V 0,T be,T be,sn],.box a1 99 #[Z E D F,V H,V I,V A]] [.l b c h,.l E F D]/\Ld.go (j,m,o,p,t,h,D,H,I,A)=Y9) (fun J9 al=>?_) ?_
 ·refine qb (kM (fun b4 f w=>∃ (j m o:Int)(p t:BA)(h:List Ge)(b:OA)(c:Nat)(D:List kg)(H I A:Int),Has f [(0,Pt a1),(1,V x1),(2,V x2),(6,Pt b1),(7,Pt b2)]/\Bx w0 w b0 G [.box b2 166 #[V j,V m,V o,T p,T t,Z b h c],.box b1 166 #[V 0,V 0,V 0,T be,T be,sn],.box a1 99 #[Z E D F,V H,V I,V A]] [.l b c h,.l E F D]/\o8 fu r_r03_expression r_r03_unary r_r03_target x1 x2 b4 j m o p t h D H I A=some Y9) fu ⟨a3,a4,a5,a6,a7,Y,S,U,a0,a8,a9,W,⟨r,r,r,r,r,y⟩,d,u⟩ ?_);clear d u;rintro n9 f w ⟨j,m,o,p,t,h,b,c,D,H,I,A,hf,d,u⟩ K9 aw;obtain ⟨b3,rfl⟩:=ng hf;cases n9 with
  | zero=>exact nn u
  | succ n9=>
   rw [o8] at u;refine q (q (g (s (mp r) (s (xn r) (s (vW r) (s (EM r (d.bk 2 r) r) (s (kH r r) (s (lI r) ?_))))))));rcases iv u with ⟨ae,u⟩|⟨ae,u⟩
   ·rw [uD ae];refine kL r (s (mi r) (kL r (s (sj r r) (s (kU r r) (n ?_)))));rcases iv u with ⟨af,u⟩|⟨af,u⟩
    ·refine jK (bt af) (wk (qb (q (g (s (mp r) ?_)))));obtain ⟨⟨ax,K⟩,ay,u⟩:=bs u;replace u:=pi u;have hc:=(MJ fu) (d.pr [2] [0,1] [1] r)  ay;refine sc (ec aaj r) hc ?_;rintro _ aG ⟨rfl,hK⟩;replace d:=d.cl [2] [0,1] r hK r;try dsimp only [pick,nth,ca,na] at d
     refine s vX (s (kF r r) (s (kF r r) (s (xi r) (s (xi r) (n (q (q (g (s (mi r) (s (mi r) (s (tF r r) (n ?_))))))))))));rcases iv u with ⟨ag,u⟩|⟨ag,u⟩
     ·refine jK (bt ag) (q (g (s (jQ [V j,V m,V o,T p,T t,Z b h c] nI r jS r r (Cells.part (d.bk 1 r).cells (o2:=0) r)) (lg (tb d 2 [V j,V m,V o,T p,T t,Z b h c] r jS r r r r r (show _=#[V j,V m,V o,T p,T t,Z b h c] from r)) ?_))));intro aH d;try dsimp only [List.set] at d
      refine n (lS ?_);obtain rfl:=sm u;replace z:=oi z;obtain rfl:=sm z;refine jI r (tH r nI r jS r (d.bk 2 r)) ?_;exact mZ (⟨b,c,r,d.ad [0] [1,2]⟩)
     refine jD (bf ag) (wk (q (g (s (mp r) (s (xn r) (s (nS r) (s (l3 r (d.bk 0 r) r) (s (kN r r) (s (xn r) (s (nS r) (lg (tb d 0 [V (wr (H+1))] r o9 r r r r r (show _=#[Z E D F,V (wr (H+1)),V I,V A] from r)) ?_)))))))))));intro aI d;try dsimp only [List.set] at d
     refine n (q (g (s (mp r) (s (mi r) (s (kN r r) (s (mi r) ?_))))));obtain ⟨⟨a,X⟩,az,u⟩:=bs u;replace u:=pi u;have hc:=H_r03_expression (d.pr [0] [1,2] [2] r)  az;refine sc (ec CZ r) hc ?_;rintro _ aJ ⟨B,C,rfl,hK⟩;replace d:=d.cl [0] [1,2] r hK r;try dsimp only [pick,nth,ca,na] at d
     refine l5 (kD d (jP jS)) ?_;rintro _ aK ⟨aL,rfl,d⟩;refine lg (tb d 0 [V a.e,V a.d,V a.g,T a.b,T a.c,Z B a.a C] r jS r r r r r (show _=#[V a.e,V a.d,V a.g,T a.b,T a.c,Z B a.a C] from r)) ?_;intro aM d;try dsimp only [List.set] at d
     refine n (q (g (s (mi r) (s (jQ [V j,V m,V o,T p,T t,Z b h c] nI r jS r r (Cells.part (d.bk 2 r).cells (o2:=0) r)) (s (jQ [V a.e,V a.d,V a.g,T a.b,T a.c,Z B a.a C] nI r jS r r (Cells.part (d.bk 0 r).cells (o2:=0) r)) (l5 (jM d [[V j,V m,V o,T p,T t,Z b h c],[V a.e,V a.d,V a.g,T a.b,T a.c,Z B a.a C]] ([(⟨j,m,o,p,t,h⟩:Ge),a]:List Ge) (xB r r) r r (by decide) ⟨jA.inn ⟨b,c,r,d.dl 3 r⟩,⟨jA.inn ⟨B,C,r,d.dl 0 r⟩,y⟩⟩) ?_))))));rintro _ aN ⟨a2,rfl,d⟩;refine s (uh r r) (lg (tb d 3 [V K,V 0,V 0,T be,T be,.slice (ad a2) ([(⟨j,m,o,p,t,h⟩:Ge),a]:List Ge).length 2] r jS r r r r r (show _=#[V K,V 0,V 0,T be,T be,.slice (ad a2) ([(⟨j,m,o,p,t,h⟩:Ge),a]:List Ge).length 2] from r)) ?_);intro aO d;try dsimp only [List.set] at d
     refine n (q (g (s (mi r) (s (kH r r) (n ?_)))));rcases iv u with ⟨ah,u⟩|⟨ah,u⟩
     ·refine jK (bt ah) (q (g (s (jQ [V K,V 0,V 0,T be,T be,.slice (ad a2) ([(⟨j,m,o,p,t,h⟩:Ge),a]:List Ge).length 2] nI r jS r r (Cells.part (d.bk 3 r).cells (o2:=0) r)) (lg (tb d 4 [V K,V 0,V 0,T be,T be,.slice (ad a2) ([(⟨j,m,o,p,t,h⟩:Ge),a]:List Ge).length 2] r jS r r r r r (show _=#[V K,V 0,V 0,T be,T be,.slice (ad a2) ([(⟨j,m,o,p,t,h⟩:Ge),a]:List Ge).length 2] from r)) ?_))));intro aP d;try dsimp only [List.set] at d
      refine n (lS ?_);replace d:=d.sV 0 0 r r;try dsimp only [List.eraseIdx] at d
      obtain rfl:=sm u;replace z:=oi z;obtain rfl:=sm z;refine jI r (tH r nI r jS r (d.bk 3 r)) ?_;exact mZ (⟨ad a2,2,r,d.ad [1] [0,2]⟩)
     refine jD (bf ah) (wk ?_);replace d:=d.sV 0 0 r r;try dsimp only [List.eraseIdx] at d
     exact aw n9 _ _ (Ec _) ⟨K,0,0,be,be,([(⟨j,m,o,p,t,h⟩:Ge),a]:List Ge),ad a2,2,X.l,X.a,X.c,X.e,⟨r,r,r,r,r,y⟩,d.ad [2,3,1] [0,2],u⟩
    refine jD (bf af) (vE ?_);exact al _ _ ⟨j,m,o,p,t,h,b,c,D,H,I,A,⟨r,r,y⟩,d,sm u⟩
   rw [uL ae];refine ko r (ko r (s (kI r r) (n (jD r (vE ?_)))));exact al _ _ ⟨j,m,o,p,t,h,b,c,D,H,I,A,⟨r,r,y⟩,d,sm u⟩
 clear d;rintro f w ⟨j,m,o,p,t,h,b,c,D,H,I,A,hf,d,aA⟩;obtain ⟨b3,rfl⟩:=ng hf;subst aA;replace z:=gi z;replace z:=pi z;replace z:=pi z;replace z:=pi z;replace z:=pi z;replace z:=pi z;replace z:=pi z;replace z:=pi z;replace z:=pi z;replace z:=pi z;refine q (g (s (jQ [V j,V m,V o,T p,T t,Z b h c] nI r jS r r (Cells.part (d.bk 0 r).cells (o2:=0) r)) (lg (tb d 1 [V j,V m,V o,T p,T t,Z b h c] r jS r r r r r (show _=#[V j,V m,V o,T p,T t,Z b h c] from r)) ?_)));intro aQ d;try dsimp only [List.set] at d
 refine n (lS ?_);obtain rfl:=sm z;refine jI r (tH r nI r jS r (d.bk 1 r)) ?_;exact mZ (⟨b,c,r,d.arr [2] r⟩)
theorem Ns (fu:Nat)(r_r03_expression:ny)(r_r03_unary:qJ)(r_r03_target:pU)(H_r03_expression:qp r_r03_expression)(H_r03_unary:xQ r_r03_unary)(H_r03_target:uo r_r03_target):xQ (Aw fu r_r03_expression r_r03_unary r_r03_target):=by
 intro w0 b4 x x1 I u v R hP j;unfold Aw at j;have a:=hP.bx;clear hP;generalize hG:mQ _=G at a ⊢;refine cf func160 r ?_;refine lH [(0,Pt I),(1,V x1)] ⟨r,r,y⟩ fun b5=>?_;refine q (g (l5 (kD a (jP jS)) ?_));rintro _ w1 ⟨b1,rfl,a⟩;refine n (q (q (g (s (mp r) (s (xn r) (s (vW r) (s (EM r (a.bk 1 r) r) (s (tF r r) (n ?_)))))))));rcases iv j with ⟨h2,j⟩|⟨h2,j⟩
 ·refine jK (bt h2) (q (g (s Qu (lg (tb a 0 [V 0,V 0,V 0,T be,T be,sn] r jS r r r r r (show _=#[V 0,V 0,V 0,T be,T be,sn] from r)) ?_))));intro w3 a;try dsimp only [List.set] at a
  refine n (lS ?_);replace a:=a.jZ (d:=.l none 0 ([]:List Ge)) oL;obtain rfl:=sm j;refine jI r (tH r nI r jS r (a.bk 0 r)) ?_;exact mZ (⟨none,0,r,a.arr [1] r⟩)
 refine jD (bf h2) (wk (q (q (g (s (mp r) ?_)))));obtain ⟨ar,h5,j⟩:=bs j;have hc:=(KV fu) (a.pr [1] [0] [0] r)  h5;refine sc (ec aaV r) hc ?_;rintro _ w5 ⟨rfl,E⟩;replace a:=a.cl [1] [0] r E r;try dsimp only [pick,nth,ca,na] at a
 refine s (D5 r) (n ?_);rcases iv j with ⟨X,j⟩|⟨X,j⟩
 ·refine jK (cb X) (q (g (s (mp r) ?_)));obtain ⟨au,h7,j⟩:=bs j;have hc:=(rJ fu) (a.pr [0] [1] [1] r)  h7;refine sc (ec FZ r) hc ?_;rintro _ w7 ⟨rfl,E⟩;replace a:=a.cl [0] [1] r E r;try dsimp only [pick,nth,ca,na] at a
  refine n (q (g (s Qu (lg (tb a 1 [V 0,V 0,V 0,T be,T be,sn] r jS r r r r r (show _=#[V 0,V 0,V 0,T be,T be,sn] from r)) ?_))));intro w8 a;try dsimp only [List.set] at a
  refine n (lS ?_);replace a:=a.jZ (d:=.l none 0 ([]:List Ge)) oL;obtain rfl:=sm j;refine jI r (tH r nI r jS r (a.bk 1 r)) ?_;exact mZ (⟨none,0,r,a.ad [0] [0,1]⟩)
 refine jD (wV X) (wk (q (q (g (s (mi r) (s (vJ r r) (n ?_)))))));rcases iv j with ⟨S,j⟩|⟨S,j⟩
 ·refine jK (bt S) (q (g (s (mp r) ?_)));obtain ⟨a8,a9,j⟩:=bs j;have hc:=(rJ fu) (a.pr [0] [1] [1] r)  a9;refine sc (ec FZ r) hc ?_;rintro _ az ⟨rfl,E⟩;replace a:=a.cl [0] [1] r E r;try dsimp only [pick,nth,ca,na] at a
  refine n (q (g (s Qu (lg (tb a 1 [V 0,V 0,V 0,T be,T be,sn] r jS r r r r r (show _=#[V 0,V 0,V 0,T be,T be,sn] from r)) ?_))));intro aA a;try dsimp only [List.set] at a
  refine n (lS ?_);replace a:=a.jZ (d:=.l none 0 ([]:List Ge)) oL;obtain rfl:=sm j;refine jI r (tH r nI r jS r (a.bk 1 r)) ?_;exact mZ (⟨none,0,r,a.ad [0] [0,1]⟩)
 refine jD (bf S) (wk (q (q (g (l5 (jM a [[T (⟨#[45]⟩:BA)],[T (⟨#[33]⟩:BA)]] ([(⟨#[45]⟩:BA),(⟨#[33]⟩:BA)]:List BA) (wB r r) r r (by decide) ⟨r,⟨r,y⟩⟩) ?_)))));rintro _ aB ⟨U,rfl,a⟩;refine s (mV kW r) (s (mi r) (n ?_));have av:=(a.vw 0 0 r r).bd;obtain ⟨Y,c,j⟩:=bs j;refine oD (fun f w=>Has f [(0,Pt I),(1,V x1),(4,Pt b1)]/\Bx w0 w b4 G [O w0.heap.size (ad U) 2 9 BA [[T (⟨#[45]⟩:BA)],[T (⟨#[33]⟩:BA)]],.box I 99 #[Z u x.l v,V x.a,V x.c,V x.e],.box b1 166 #[V 0,V 0,V 0,T be,T be,sn]] [.els [[T (⟨#[45]⟩:BA)],[T (⟨#[33]⟩:BA)]] ([(⟨#[45]⟩:BA),(⟨#[33]⟩:BA)]:List BA),.l u v x.l]/\Ld.go ()=Y) (fun aC a0=>?_) ?_
 ·refine qb (kM (fun b6 f w=>∃ (B:Nat),b6=([(⟨#[45]⟩:BA),(⟨#[33]⟩:BA)]:List BA).length - B/\B<=([(⟨#[45]⟩:BA),(⟨#[33]⟩:BA)]:List BA).length/\Has f [(27,V (B:Int)),(0,Pt I),(1,V x1),(4,Pt b1),(25,.slice (ad U) ([(⟨#[45]⟩:BA),(⟨#[33]⟩:BA)]:List BA).length 2),(26,V ((([(⟨#[45]⟩:BA),(⟨#[33]⟩:BA)]:List BA).length:Nat):Int))]/\Bx w0 w b4 G [O w0.heap.size (ad U) 2 9 BA [[T (⟨#[45]⟩:BA)],[T (⟨#[33]⟩:BA)]],.box I 99 #[Z u x.l v,V x.a,V x.c,V x.e],.box b1 166 #[V 0,V 0,V 0,T be,T be,sn]] [.els [[T (⟨#[45]⟩:BA)],[T (⟨#[33]⟩:BA)]] ([(⟨#[45]⟩:BA),(⟨#[33]⟩:BA)]:List BA),.l u v x.l]/\q9 fu r_r03_expression r_r03_unary r_r03_target x x1 (([(⟨#[45]⟩:BA),(⟨#[33]⟩:BA)]:List BA).drop B) B=some Y) (([(⟨#[45]⟩:BA),(⟨#[33]⟩:BA)]:List BA).length) ⟨0,r,uS _,⟨r,r,r,r,r,r,y⟩,a.dp [0,2],c⟩ ?_);clear a c;rintro b6 f w ⟨B,rfl,aw,hf,a,c⟩ aD a1;obtain ⟨b5,rfl⟩:=ng hf;rcases wY B ([(⟨#[45]⟩:BA),(⟨#[33]⟩:BA)]:List BA).length with Q | Q
  ·obtain ⟨aa,K⟩:=mU (l:=([(⟨#[45]⟩:BA),(⟨#[33]⟩:BA)]:List BA)) Q;rw [mR K,q9] at c;refine q (g (s (sO r r (by omega)) (n (q (jK r (wk (q (qb (q (g (s (mi r) (s (lu kW pJ r r r (a.vw 0 0 r r) K) (s (kC vg r r ((uE (ds:=[T aa]) (a.vw 0 0 r r) K (fun _ h=>h)) 0 _ r)) ?_)))))))))))));refine s (xi r) (s (mP r) (n (q (g (s (mp r) (s (lF r) ?_))))));obtain ⟨ab,ac,c⟩:=bs c;have hc:=(nC fu) (a.pr [1] [0,2] [1] r)  ac;refine sc (ec wL r) hc ?_;rintro _ aE ⟨rfl,E⟩;replace a:=a.cl [1] [0,2] r E r;try dsimp only [pick,nth,ca,na] at a
   refine n ?_;rcases iv c with ⟨L,c⟩|⟨L,c⟩
   ·refine jK (cb L) (q (g (s (mp r) (s (xn r) (s (nS r) (s (l3 r (a.bk 0 r) r) (s (kN r r) (s (xn r) (s (nS r) (lg (tb a 0 [V (wr (x.a+1))] r o9 r r r r r (show _=#[Z u x.l v,V (wr (x.a+1)),V x.c,V x.e] from r)) ?_))))))))));intro aF a;try dsimp only [List.set] at a
    refine n (q (g (s (mi r) (s (kN r r) (s (mp r) (s (mi r) (s (kN r r) ?_)))))));obtain ⟨⟨t,ae⟩,af,c⟩:=bs c;replace c:=pi c;have hc:=H_r03_unary (a.pr [0] [1,2] [2] r)  af;refine sc (ec UA r) hc ?_;rintro _ aG ⟨C,D,rfl,E⟩;replace a:=a.cl [0] [1,2] r E r;try dsimp only [pick,nth,ca,na] at a
    refine l5 (jM a [[V t.e,V t.d,V t.g,T t.b,T t.c,Z C t.a D]] ([t]:List Ge) (kX r) r r (by decide) ⟨jA.inn ⟨C,D,r,a.dl 0 r⟩,y⟩) ?_;rintro _ aH ⟨W,rfl,a⟩;refine s (uh r r) (lg (tb a 3 [V (wr (4+(B:Int))),V 0,V 0,T be,T be,.slice (ad W) ([t]:List Ge).length 1] r jS r r r r r (show _=#[V (wr (4+(B:Int))),V 0,V 0,T be,T be,.slice (ad W) ([t]:List Ge).length 1] from r)) ?_);intro aI a;try dsimp only [List.set] at a
    refine n (lS ?_);replace a:=a.sV 0 0 r r;try dsimp only [List.eraseIdx] at a
    obtain rfl:=sm c;replace j:=oi j;obtain rfl:=sm j;refine jI r (tH r nI r jS r (a.bk 2 r)) ?_;exact mZ (⟨ad W,1,r,a.ad [0] [0,2]⟩)
   refine jD (wV L) (wk (g (s (mE r r (by omega) (by omega)) (s (mi r) (n ?_)))));exact a1 (([(⟨#[45]⟩:BA),(⟨#[33]⟩:BA)]:List BA).length - (B+1)) _ _ (by omega) ⟨B+1,r,by omega,⟨r,r,r,r,r,r,y⟩,a.ad [1,0,2] [1,2],c⟩
  obtain rfl:B=([(⟨#[45]⟩:BA),(⟨#[33]⟩:BA)]:List BA).length:=by omega
  rw [lU,q9] at c;refine q (g (s (sM r r (by omega)) (n (q (jD r (vE ?_))))));exact a0 _ _ ⟨⟨r,r,r,y⟩,a,sm c⟩
 clear a;rintro f w ⟨hf,a,a2⟩;obtain ⟨b5,rfl⟩:=ng hf;subst a2;replace j:=gi j;refine q (q (g (s (mp r) ?_)));obtain ⟨ag,ah,j⟩:=bs j;have hc:=(rD fu) (a.pr [1] [0,2] [1] r)  ah;refine sc (ec F5 r) hc ?_;rintro _ aJ ⟨rfl,E⟩;replace a:=a.cl [1] [0,2] r E r;try dsimp only [pick,nth,ca,na] at a
 refine n ?_;rcases iv j with ⟨M,j⟩|⟨M,j⟩
 ·refine jK (cb M) (q (g (s (mp r) (s (xn r) (s (nS r) (s (l3 r (a.bk 0 r) r) (s (kN r r) (s (xn r) (s (nS r) (lg (tb a 0 [V (wr (x.a+1))] r o9 r r r r r (show _=#[Z u x.l v,V (wr (x.a+1)),V x.c,V x.e] from r)) ?_))))))))));intro aK a;try dsimp only [List.set] at a
  refine n (q (qG a [0] [2] [] (by kernel_rfl) ?_));replace a:=a.drew;have F:=a.ad [0] [2];refine pF 0 r (mp r) F (pF 1 r (xn r) F (pF 2 r (Dw r) F (uF 3 r (fun hS=>TM r (hS.bk 0 r) r) F (pF 4 r (mp r) F (pF 5 r (xn r) F (pF 6 r (nS r) F (uF 7 r (fun hS=>l3 r (hS.bk 0 r) r) F (pF 8 r (yh r r) F ?_))))))));obtain ⟨J,H,j⟩:=bs j;obtain ⟨aL,a3,H⟩:=lq H;refine pF 9 r (lu FE qj r r a3 (a.dl 2 r) H) F (pF 10 r (Ul r) F (tU 11 r (fun _ hS=>kC NG r r ((uE (ds:=[V J.c,V J.f,T J.a,V J.d]) (hS.dl 0 r) H (fun _ h=>h)) 3 _ r)) (sF F) (pF 12 r (LQ r r) F ?_)));refine hO 13 (os r r (tb a 2 [V 0,V J.d,V 0,T be,T be,sn] r jS r r r r r (show _=#[V 0,V J.d,V 0,T be,T be,sn] from r)) ?_);intro aM a;try dsimp only [List.set] at a
  have F:=a.ad [0] [2];refine ⟨sF F,?_⟩;refine hD (lS ?_);replace a:=a.jZ (d:=.l none 0 ([]:List Ge)) oL;obtain rfl:=sm j;refine jI r (tH r nI r jS r (a.bk 2 r)) ?_;exact mZ (⟨none,0,r,a.ad [0] [0,3]⟩)
 refine jD (wV M) (wk (q (q (g (s (mp r) ?_)))));obtain ⟨ai,aj,j⟩:=bs j;have hc:=(nC fu) (a.pr [0] [1,2] [2] r)  aj;refine sc (ec wL r) hc ?_;rintro _ aN ⟨rfl,E⟩;replace a:=a.cl [0] [1,2] r E r;try dsimp only [pick,nth,ca,na] at a
 refine n ?_;rcases iv j with ⟨N,j⟩|⟨N,j⟩
 ·refine jK (cb N) (q (g (s (mp r) (s (xn r) (s (nS r) (s (l3 r (a.bk 0 r) r) (s (kN r r) (s (xn r) (s (nS r) (lg (tb a 0 [V (wr (x.a+1))] r o9 r r r r r (show _=#[Z u x.l v,V (wr (x.a+1)),V x.c,V x.e] from r)) ?_))))))))));intro aO a;try dsimp only [List.set] at a
  refine n (q (g (s (mp r) (s (mi r) (s (kN r r) ?_)))));obtain ⟨⟨b,ak⟩,al,j⟩:=bs j;replace j:=pi j;have hc:=H_r03_expression (a.pr [0] [1,2] [3] r)  al;refine sc (ec CZ r) hc ?_;rintro _ aP ⟨o,p,rfl,E⟩;replace a:=a.cl [0] [1,2] r E r;try dsimp only [pick,nth,ca,na] at a
  refine l5 (kD a (jP jS)) ?_;rintro _ aQ ⟨aR,rfl,a⟩;refine lg (tb a 0 [V b.e,V b.d,V b.g,T b.b,T b.c,Z o b.a p] r jS r r r r r (show _=#[V b.e,V b.d,V b.g,T b.b,T b.c,Z o b.a p] from r)) ?_;intro aS a;try dsimp only [List.set] at a
  refine n (q (g (s (mp r) ?_)));obtain ⟨am,an,j⟩:=bs j;have hc:=(lX fu) (a.pr [1] [0,2,3] [1] r)  an;refine sc (ec xC r) hc ?_;rintro _ aT ⟨rfl,E⟩;replace a:=a.cl [1] [0,2,3] r E r;try dsimp only [pick,nth,ca,na] at a
  refine n (q (g (s (jQ [V b.e,V b.d,V b.g,T b.b,T b.c,Z o b.a p] nI r jS r r (Cells.part (a.bk 1 r).cells (o2:=0) r)) (lg (tb a 3 [V b.e,V b.d,V b.g,T b.b,T b.c,Z o b.a p] r jS r r r r r (show _=#[V b.e,V b.d,V b.g,T b.b,T b.c,Z o b.a p] from r)) ?_))));intro aU a;try dsimp only [List.set] at a
  refine n (lS ?_);obtain rfl:=sm j;refine jI r (tH r nI r jS r (a.bk 3 r)) ?_;exact mZ (⟨o,p,r,a.ad [0] [1,0]⟩)
 refine jD (wV N) (wk (q (g (s (mp r) (s (mi r) ?_)))));obtain ⟨⟨m,ao⟩,ap,j⟩:=bs j;replace j:=pi j;have hc:=H_r03_target (a.pr [0] [1,2] [3] r)  ap;refine sc (ec VD r) hc ?_;rintro _ aV ⟨z,A,rfl,E⟩;replace a:=a.cl [0] [1,2] r E r;try dsimp only [pick,nth,ca,na] at a
 refine lg (tb a 2 [V m.e,V m.d,V m.g,T m.b,T m.c,Z z m.a A] r jS r r r r r (show _=#[V m.e,V m.d,V m.g,T m.b,T m.c,Z z m.a A] from r)) ?_;intro aW a;try dsimp only [List.set] at a
 refine n (lS ?_);obtain rfl:=sm j;refine jI r (tH r nI r jS r (a.bk 2 r)) ?_;exact mZ (⟨z,A,r,a.ad [0] [0,1]⟩)
theorem Lm (fu:Nat)(r_r03_expression:ny)(r_r03_unary:qJ)(r_r03_target:pU)(H_r03_expression:qp r_r03_expression)(H_r03_unary:xQ r_r03_unary)(H_r03_target:uo r_r03_target):uo (yH fu r_r03_expression r_r03_unary r_r03_target):=by
 intro w0 ap F S z t u R U o;unfold yH at o;have b:=U.bx;clear U;generalize hG:mQ _=G at b ⊢;refine cf func164 r ?_;refine lH [(0,Pt z),(1,V S)] ⟨r,r,y⟩ fun aq=>?_;refine q (g (l5 (kD b (jP jS)) ?_));rintro _ w1 ⟨W,rfl,b⟩;refine n (q (g (s (mp r) ?_)));obtain ⟨⟨p,c⟩,h2,o⟩:=bs o;replace o:=pi o;have hc:=(qO fu) (b.pr [1] [0] [0] r)  h2;refine sc (ec EO r) hc ?_;rintro _ w2 ⟨rfl,v⟩;replace b:=b.cl [1] [0] r v r;try dsimp only [pick,nth,ca,na] at b
 refine s (mP r) (n (q ?_));obtain ⟨Y3,m,o⟩:=bs o;refine oD (fun f w=>Has f [(0,Pt z),(1,V S),(4,Pt W),(5,T p)]/\Bx w0 w ap G [.box z 99 #[Z t c.l u,V c.a,V c.c,V c.e],.box W 166 #[V 0,V 0,V 0,T be,T be,sn]] [.l t u c.l]/\Ld.go ()=Y3) (fun J3 D=>?_) ?_
 ·unfold wM at m;refine q (g (s (mp r) (s (xn r) (s (vW r) (s (EM r (b.bk 0 r) r) (s (kH r r) (s (lI r) ?_)))))));rcases iv m with ⟨H,m⟩|⟨H,m⟩
  ·rw [uD H];refine kL r (s (mp r) ?_);obtain ⟨X,h5,m⟩:=bs m;refine kL r ?_;have hc:=(nC fu) (b.pr [0] [1] [0] r)  h5;refine sc (ec wL r) hc ?_;rintro _ w5 ⟨rfl,v⟩;replace b:=b.cl [0] [1] r v r;try dsimp only [pick,nth,ca,na] at b
   refine s (kU r r) (n ?_);rcases iv m with ⟨E,m⟩|⟨E,m⟩
   ·refine jK (cb E) (q (g (s (mp r) (s (xn r) (s (nS r) (s (l3 r (b.bk 0 r) r) (s (kN r r) (s (xn r) (s (nS r) (lg (tb b 0 [V (wr (c.a+1))] r o9 r r r r r (show _=#[Z t c.l u,V (wr (c.a+1)),V c.c,V c.e] from r)) ?_))))))))));intro w7 b;try dsimp only [List.set] at b
    refine n (q (g (s (lF r) (s (mp r) ?_))));obtain ⟨⟨A,Y⟩,h8,m⟩:=bs m;replace m:=pi m;have hc:=(qO fu) (b.pr [0] [1] [1] r)  h8;refine sc (ec EO r) hc ?_;rintro _ w8 ⟨rfl,v⟩;replace b:=b.cl [0] [1] r v r;try dsimp only [pick,nth,ca,na] at b
    refine s (uQ r r r) (lg (tb b 1 [V 2,V 0,V 0,T p,T A,sn] r jS r r r r r (show _=#[V 2,V 0,V 0,T p,T A,sn] from r)) ?_);intro w9 b;try dsimp only [List.set] at b
    refine n (lS ?_);replace b:=b.jZ (d:=.l none 0 ([]:List Ge)) oL;obtain rfl:=sm m;replace o:=oi o;obtain rfl:=sm o;refine jI r (tH r nI r jS r (b.bk 1 r)) ?_;exact mZ (⟨none,0,r,b.ad [0] [0,1]⟩)
   refine jD (wV E) (wk ?_);exact D _ _ ⟨⟨r,r,r,r,y⟩,b.dp [1],sm m⟩
  rw [uL H];refine ko r (ko r (s (kI r r) (n (jD r (wk ?_)))));exact D _ _ ⟨⟨r,r,r,r,y⟩,b.dp [0],sm m⟩
 clear b;rintro f w ⟨hf,b,I⟩;obtain ⟨aq,rfl⟩:=ng hf;subst I;replace o:=gi o;refine q (q (g (s (mp r) (s (xn r) (s (vW r) (s (EM r (b.bk 0 r) r) (s (kH r r) (s (lI r) ?_))))))));rcases iv o with ⟨B,o⟩|⟨B,o⟩
 ·rw [uD B];refine kL r (s (mp r) ?_);obtain ⟨J,K,o⟩:=bs o;refine kL r ?_;have hc:=(nC fu) (b.pr [0] [1] [0] r)  K;refine sc (ec wL r) hc ?_;rintro _ a5 ⟨rfl,v⟩;replace b:=b.cl [0] [1] r v r;try dsimp only [pick,nth,ca,na] at b
  refine s (kU r r) (n ?_);rcases iv o with ⟨x,o⟩|⟨x,o⟩
  ·refine jK (cb x) (q (g (s (mp r) (s (xn r) (s (nS r) (s (l3 r (b.bk 0 r) r) (s (kN r r) (s (xn r) (s (nS r) (lg (tb b 0 [V (wr (c.a+1))] r o9 r r r r r (show _=#[Z t c.l u,V (wr (c.a+1)),V c.c,V c.e] from r)) ?_))))))))));intro a6 b;try dsimp only [List.set] at b
   refine n (q (g (s (mp r) (s (mi r) (s (kN r r) ?_)))));obtain ⟨⟨a,L⟩,M,o⟩:=bs o;replace o:=pi o;have hc:=H_r03_expression (b.pr [0] [1] [1] r)  M;refine sc (ec CZ r) hc ?_;rintro _ a7 ⟨h,j,rfl,v⟩;replace b:=b.cl [0] [1] r v r;try dsimp only [pick,nth,ca,na] at b
   refine l5 (kD b (jP jS)) ?_;rintro _ a8 ⟨a9,rfl,b⟩;refine lg (tb b 0 [V a.e,V a.d,V a.g,T a.b,T a.c,Z h a.a j] r jS r r r r r (show _=#[V a.e,V a.d,V a.g,T a.b,T a.c,Z h a.a j] from r)) ?_;intro aa b;try dsimp only [List.set] at b
   refine n (q (g (s (mp r) ?_)));obtain ⟨N,Q,o⟩:=bs o;have hc:=(lX fu) (b.pr [1] [0,2] [1] r)  Q;refine sc (ec xC r) hc ?_;rintro _ ab ⟨rfl,v⟩;replace b:=b.cl [1] [0,2] r v r;try dsimp only [pick,nth,ca,na] at b
   refine n (q (g (s (lF r) (s (jQ [V a.e,V a.d,V a.g,T a.b,T a.c,Z h a.a j] nI r jS r r (Cells.part (b.bk 1 r).cells (o2:=0) r)) (l5 (jM b [[V a.e,V a.d,V a.g,T a.b,T a.c,Z h a.a j]] ([a]:List Ge) (kX r) r r (by decide) ⟨jA.inn ⟨h,j,r,b.dl 1 r⟩,y⟩) ?_)))));rintro _ ac ⟨C,rfl,b⟩;refine s (Ep r r r) (lg (tb b 3 [V 3,V 0,V 0,T p,T be,.slice (ad C) ([a]:List Ge).length 1] r jS r r r r r (show _=#[V 3,V 0,V 0,T p,T be,.slice (ad C) ([a]:List Ge).length 1] from r)) ?_);intro ae b;try dsimp only [List.set] at b
   refine n (lS ?_);replace b:=b.sV 0 0 r r;try dsimp only [List.eraseIdx] at b
   obtain rfl:=sm o;refine jI r (tH r nI r jS r (b.bk 2 r)) ?_;exact mZ (⟨ad C,1,r,b.ad [0] [0,1]⟩)
  refine jD (wV x) (wk (q (g (s (lF r) (s (Hg r r) (lg (tb b 1 [V 1,V 0,V 0,T p,T be,sn] r jS r r r r r (show _=#[V 1,V 0,V 0,T p,T be,sn] from r)) ?_))))));intro af b;try dsimp only [List.set] at b
  refine n (lS ?_);replace b:=b.jZ (d:=.l none 0 ([]:List Ge)) oL;obtain rfl:=sm o;refine jI r (tH r nI r jS r (b.bk 1 r)) ?_;exact mZ (⟨none,0,r,b.ad [0] [0,2]⟩)
 rw [uL B];refine ko r (ko r (s (kI r r) (n (jD r (wk (q (g (s (lF r) (s (Hg r r) (lg (tb b 1 [V 1,V 0,V 0,T p,T be,sn] r jS r r r r r (show _=#[V 1,V 0,V 0,T p,T be,sn] from r)) ?_))))))))));intro ag b;try dsimp only [List.set] at b
 refine n (lS ?_);replace b:=b.jZ (d:=.l none 0 ([]:List Ge)) oL;obtain rfl:=sm o;refine jI r (tH r nI r jS r (b.bk 1 r)) ?_;exact mZ (⟨none,0,r,b.arr [0] r⟩)
theorem Bd (fu:Nat):qp (l8 fu)/\xQ (Ao fu)/\uo (tK fu):=by
 induction fu with
 | zero=>exact ⟨by intro a b;intros;(try intro _);intros;exact nn (by assumption),by intro a b;intros;(try intro _);intros;exact nn (by assumption),by intro a b;intros;(try intro _);intros;exact nn (by assumption)⟩
 | succ fu ih=>exact ⟨Gu fu (l8 fu) (Ao fu) (tK fu) ih.1 ih.2.1 ih.2.2,Ns fu (l8 fu) (Ao fu) (tK fu) ih.1 ih.2.1 ih.2.2,Lm fu (l8 fu) (Ao fu) (tK fu) ih.1 ih.2.1 ih.2.2⟩
theorem rG (fu:Nat):qp (l8 fu):=(Bd fu).1
theorem KZ (fu:Nat):uo (tK fu):=(Bd fu).2.2
def G6 (m:gP->Option ((List Ge) × gP)):Prop:=∀ {k:World}{p}{i:gP}{j a b R},(fun L=>Pre k p L [.l a b i.l]->m i=some R-> Calls prog 163 #[Pt j] k (sW fun v w=>jy R fun o c=>∃ (d:OA)(f:Nat)(h:LV),v=Z d o f/\Bx k w p (mQ L) [O k.heap.size d f 166 Ge h,.box j 99 #[Z a c.l b,V c.a,V c.c,V c.e]] [.els h o,.l a b c.l])) [.box j 99 #[Z a i.l b,V i.a,V i.c,V i.e]]
def pR (fu:Nat):Nat→(List kg)→Int→Int→Int→(List Ge)→Option (Ld (List kg × Int × Int × Int × List Ge) ((List Ge) × gP))
 | 0,_,_,_,_,_=>none
 | k+1,b,c,d,a,h=>
 if a=0 then
  (mM fu (⟨b,c,d,a⟩:gP) 0 (⟨#[44]⟩:BA)).bind fun i=>
  if i=true then
   (l8 fu (⟨b,wr (c+1),d,a⟩:gP) 1 0).bind fun o=>
   jy o fun j f=>
   (app h ([j]:List Ge)).bind fun m=>
   pR fu k f.l f.a f.c f.e m
  else
   some (.go (b,c,d,a,h))
 else
  some (.go (b,c,d,a,h))
def tL (fu:Nat)(a:gP):Option (Ld (List Ge × List kg × Int × Int × Int) ((List Ge) × gP)):=if a.e=0 then (mM fu a 0 (⟨#[41]⟩:BA)).bind fun j=>if (!j)=true then (l8 fu a 1 0).bind fun p=>jy p fun k b=>(app ([]:List Ge) ([k]:List Ge)).bind fun m=>(pR fu fu b.l b.a b.c b.e m).bind fun p=>p.el (fun p=>jy p fun c p=>jy p fun d p=>jy p fun f p=>jy p fun h i=>some (.go (i,c,d,f,h))) (fun o=>some (.out o)) else some (.go (([]:List Ge),a.l,a.a,a.c,a.e)) else some (.go (([]:List Ge),a.l,a.a,a.c,a.e))
def tX (fu:Nat)(i:gP):Option ((List Ge) × gP):=(lT fu i (⟨#[40]⟩:BA)).bind fun b=>(tL fu b).bind fun j=>j.el (fun j=>jy j fun c j=>jy j fun d j=>jy j fun e j=>jy j fun f h=>(lT fu (⟨d,e,f,h⟩:gP) (⟨#[41]⟩:BA)).bind fun a=>some (c,a)) (fun o=>some o)
theorem HZ (fu:Nat):G6 (tX fu):=by
 intro w0 aR x0 K v x R hP J;unfold tX at J;have c:=hP.bx;clear hP;generalize hG:mQ _=G at c ⊢;refine cf func163 r ?_;refine lH [(0,Pt K)] ⟨r,y⟩ fun aS=>?_;refine q (g (s (og r) (n (q (g (s (og r) (n (q (g (s (mp r) ?_))))))))));obtain ⟨A,h1,J⟩:=bs J;have hc:=(lX fu) (c.pr [0] [] [0] r)  h1;refine sc (ec xC r) hc ?_;rintro _ w1 ⟨rfl,U⟩;replace c:=c.cl [0] [] r U r;try dsimp only [pick,nth,ca,na] at c
 refine n (q ?_);replace c:=c.EK Ge 166;obtain ⟨Y3,b,J⟩:=bs J;refine oD (fun f w=>∃ (N:List Ge)(E:OA)(F:Nat)(H:LV)(Q:List kg)(W X Y:Int),Has f [(0,Pt K),(3,Z E N F)]/\Bx w0 w aR G [O w0.heap.size E F 166 Ge H,.box K 99 #[Z v Q x,V W,V X,V Y]] [.l v x Q,.els H N]/\Ld.go (N,Q,W,X,Y)=Y3) (fun J3 a2=>?_) ?_
 ·unfold tL at b;refine q (g (s (mp r) (s (xn r) (s (vW r) (s (EM r (c.bk 1 r) r) (s (kH r r) (s (lI r) ?_)))))));rcases iv b with ⟨h4,b⟩|⟨h4,b⟩
  ·rw [uD h4];refine kL r (s (mp r) ?_);obtain ⟨aq,h5,b⟩:=bs b;refine kL r ?_;have hc:=(nC fu) (c.pr [1] [0] [1] r)  h5;refine sc (ec wL r) hc ?_;rintro _ w5 ⟨rfl,U⟩;replace c:=c.cl [1] [0] r U r;try dsimp only [pick,nth,ca,na] at c
   refine kL r (s (D5 r) (s (kU r r) (n ?_)));rcases iv b with ⟨h6,b⟩|⟨h6,b⟩
   ·refine jK (cb h6) (q (g (s (qw r) (s (mp r) ?_))));obtain ⟨⟨B,S⟩,h7,b⟩:=bs b;replace b:=pi b;have hc:=(rG fu) (c.pr [0] [1] [2] r)  h7;refine sc (ec CZ r) hc ?_;rintro _ w7 ⟨L,M,rfl,U⟩;replace c:=c.cl [0] [1] r U r;try dsimp only [pick,nth,ca,na] at c
    refine l5 (jM c [[V B.e,V B.d,V B.g,T B.b,T B.c,Z L B.a M]] ([B]:List Ge) (kX r) r r (by decide) ⟨jA.inn ⟨L,M,r,c.dl 0 r⟩,y⟩) ?_;rintro _ w8 ⟨b8,rfl,c⟩;obtain ⟨r9,ae,b⟩:=bs b;refine l5 (kR c 2 4 r r uH jS r (by decide) (by decide) (nJ _) r r (c.BU 0 0 r r) ae) ?_;rintro _ w9 ⟨A9,C9,Q9,rfl,c⟩;refine s (og r) (n ?_);obtain ⟨a7,a,b⟩:=bs b;refine oD (fun f w=>∃ (d:List kg)(o t u:Int)(p:List Ge)(h:OA)(j:Nat)(m:LV),Has f [(0,Pt K),(3,Z h p j)]/\Bx w0 w aR G [.box K 99 #[Z v d x,V o,V t,V u],O w0.heap.size h j 166 Ge m] [.l v x d,.els m p]/\Ld.go (d,o,t,u,p)=a7) (fun aB a1=>?_) ?_
    ·refine qb (kM (fun aT f w=>∃ (d:List kg)(o t u:Int)(p:List Ge)(h:OA)(j:Nat)(m:LV),Has f [(0,Pt K),(3,Z h p j)]/\Bx w0 w aR G [.box K 99 #[Z v d x,V o,V t,V u],O w0.heap.size h j 166 Ge m] [.l v x d,.els m p]/\pR fu aT d o t u p=some a7) fu ⟨S.l,S.a,S.c,S.e,r9,A9,C9,Q9,⟨r,r,y⟩,c.ad [1,2] [2,4],a⟩ ?_);clear c a;rintro a3 f w ⟨d,o,t,u,p,h,j,m,hf,c,a⟩ aC a8;obtain ⟨aS,rfl⟩:=ng hf;cases a3 with
     | zero=>exact nn a
     | succ a3=>
      rw [pR] at a;refine q (q (g (s (mp r) (s (xn r) (s (vW r) (s (EM r (c.bk 0 r) r) (s (kH r r) (s (lI r) ?_))))))));rcases iv a with ⟨a4,a⟩|⟨a4,a⟩
      ·rw [uD a4];refine kL r (s (mp r) ?_);obtain ⟨af,ag,a⟩:=bs a;refine kL r ?_;have hc:=(nC fu) (c.pr [0] [1] [0] r)  ag;refine sc (ec wL r) hc ?_;rintro _ aD ⟨rfl,U⟩;replace c:=c.cl [0] [1] r U r;try dsimp only [pick,nth,ca,na] at c
       refine s (kU r r) (n ?_);rcases iv a with ⟨a0,a⟩|⟨a0,a⟩
       ·refine jK (cb a0) (wk (qb (q (g (s (mp r) (s (xn r) (s (nS r) (s (l3 r (c.bk 0 r) r) (s (kN r r) (s (xn r) (s (nS r) (lg (tb c 0 [V (wr (o+1))] r o9 r r r r r (show _=#[Z v d x,V (wr (o+1)),V t,V u] from r)) ?_))))))))))));intro aE c;try dsimp only [List.set] at c
        refine n (g (s (qw r) (s (mp r) ?_)));obtain ⟨⟨z,I⟩,ah,a⟩:=bs a;replace a:=pi a;have hc:=(rG fu) (c.pr [0] [1] [1] r)  ah;refine sc (ec CZ r) hc ?_;rintro _ aF ⟨C,D,rfl,U⟩;replace c:=c.cl [0] [1] r U r;try dsimp only [pick,nth,ca,na] at c
        refine l5 (jM c [[V z.e,V z.d,V z.g,T z.b,T z.c,Z C z.a D]] ([z]:List Ge) (kX r) r r (by decide) ⟨jA.inn ⟨C,D,r,c.dl 0 r⟩,y⟩) ?_;rintro _ aG ⟨aH,rfl,c⟩;obtain ⟨ai,a9,a⟩:=bs a;refine l5 (kR c 2 5 r r uH jS r (by decide) (by decide) (nJ _) r r (c.BU 0 0 r r) a9) ?_;rintro _ aI ⟨aj,ak,al,rfl,c⟩;refine s (og r) (n ?_);exact a8 a3 _ _ (Ec _) ⟨I.l,I.a,I.c,I.e,ai,aj,ak,al,⟨r,r,y⟩,c.ad [1,2] [2,5],a⟩
       refine jD (wV a0) (vE ?_);exact a1 _ _ ⟨d,o,t,u,p,h,j,m,⟨r,r,y⟩,c.dp [1,2],sm a⟩
      rw [uL a4];refine ko r (ko r (s (kI r r) (n (jD r (vE ?_)))));exact a1 _ _ ⟨d,o,t,u,p,h,j,m,⟨r,r,y⟩,c,sm a⟩
    clear c;rintro f w ⟨d,o,t,u,p,h,j,m,hf,c,aa⟩;obtain ⟨aS,rfl⟩:=ng hf;subst aa;replace b:=gi b;replace b:=pi b;replace b:=pi b;replace b:=pi b;replace b:=pi b;exact a2 _ _ ⟨p,h,j,m,d,o,t,u,⟨r,r,y⟩,c.arr [1,0] r,sm b⟩
   refine jD (wV h6) (wk ?_);exact a2 _ _ ⟨([]:List Ge),none,0,[],A.l,A.a,A.c,A.e,⟨r,r,y⟩,c.ad [1,0] [2,1],sm b⟩
  rw [uL h4];refine ko r (ko r (ko r (s (kI r r) (n (jD r (wk ?_))))));exact a2 _ _ ⟨([]:List Ge),none,0,[],A.l,A.a,A.c,A.e,⟨r,r,y⟩,c.dp [1,0],sm b⟩
 clear c;rintro f w ⟨N,E,F,H,Q,W,X,Y,hf,c,am⟩;obtain ⟨aS,rfl⟩:=ng hf;subst am;replace J:=gi J;replace J:=pi J;replace J:=pi J;replace J:=pi J;replace J:=pi J;refine q (g (s (mp r) ?_));obtain ⟨an,ao,J⟩:=bs J;have hc:=(lX fu) (c.pr [1] [0] [0] r)  ao;refine sc (ec xC r) hc ?_;rintro _ aJ ⟨rfl,U⟩;replace c:=c.cl [1] [0] r U r;try dsimp only [pick,nth,ca,na] at c
 refine n (q (g (s (qw r) (s (og r) (n (lS ?_))))));obtain rfl:=sm J;refine jI r (nu r) ?_;exact mZ (⟨E,F,H,r,c.ad [1,0] [2,0]⟩)
def MC (m:gP->Gs->Option (gP × Gs)):Prop:=∀ {B C}{x:gP}{b:Gs}{z c d A f h i j k o p t R},(fun L=>Pre B C L [.l c d x.l,.l f h b.d,.l i j b.a,.l k o b.e,.l p t b.i]->m x b=some R-> Calls prog 129 #[Pt z,Pt A] B (sW fun v w=>jy R fun u a=>v=.tuple #[]/\Bx B w C (mQ L) [.box z 99 #[Z c u.l d,V u.a,V u.c,V u.e],.box A 115 #[V a.c,V a.f,V a.n,T a.b,T a.j,V a.m,V a.g,Z f a.d h,T a.k,V a.h,Z i a.a j,Z k a.e o,Z p a.i t]] [.l c d u.l,.l f h a.d,.l i j a.a,.l k o a.e,.l p t a.i])) [.box z 99 #[Z c x.l d,V x.a,V x.c,V x.e],.box A 115 #[V b.c,V b.f,V b.n,T b.b,T b.j,V b.m,V b.g,Z f b.d h,T b.k,V b.h,Z i b.a j,Z k b.e o,Z p b.i t]]
def yG (fu:Nat)(a:kg):Option (Ld Bool (gP × Gs)):=if a.d < 1 then some (.go true) else some (.go (decide (8 < a.d)))
def zY (fu:Nat)(b:gP)(a:Gs):Option (gP × Gs):=if b.e≠0 then some (b,a) else (mM fu b 0 (⟨#[105,110,116]⟩:BA)).bind fun k=>if (!k)=true then (oV fu b).bind fun u=>jy u fun m p=>some (p,(⟨a.c,a.f,a.n,a.b,m,a.m,a.g,a.d,a.k,a.h,a.a,a.e,a.i⟩:Gs)) else (mM fu (⟨b.l,wr (b.a+1),b.c,b.e⟩:gP) 0 (⟨#[91]⟩:BA)).bind fun t=>if (!t)=true then some ((⟨b.l,wr (b.a+1),b.c,b.e⟩:gP),a) else (pO fu (⟨b.l,wr ((wr (b.a+1))+1),b.c,b.e⟩:gP) 0 2).bind fun c=>if (!c)=true then (pK fu (⟨b.l,wr ((wr (b.a+1))+1),b.c,b.e⟩:gP) 7).bind fun d=>some (d,a) else (ix b.l (wr ((wr (b.a+1))+1))).bind fun f=>(yG fu f).bind fun u=>u.el (fun h=>if h=true then (pK fu (⟨b.l,wr ((wr (b.a+1))+1),b.c,b.e⟩:gP) 5).bind fun i=>some (i,(⟨a.c,a.f,a.n,a.b,a.j,f.d,a.g,a.d,a.k,a.h,a.a,a.e,a.i⟩:Gs)) else (lT fu (⟨b.l,wr ((wr ((wr (b.a+1))+1))+1),b.c,b.e⟩:gP) (⟨#[93]⟩:BA)).bind fun j=>some (j,(⟨a.c,a.f,a.n,a.b,a.j,f.d,a.g,a.d,a.k,a.h,a.a,a.e,a.i⟩:Gs))) (fun o=>some o)
theorem NS (fu:Nat):MC (zY fu):=by
 intro w0 az m b K d j N o p t u v x z A R hP c;unfold zY at c;have a:=hP.bx;clear hP;generalize hG:mQ _=G at a ⊢;refine cf func129 r ?_;refine lH [(0,Pt K),(1,Pt N)] ⟨r,r,y⟩ fun aA=>?_;refine q (q (g (s (mp r) (s (xn r) (s (vW r) (s (EM r (a.bk 0 r) r) (s (tF r r) (n ?_))))))));rcases iv c with ⟨Y,c⟩|⟨Y,c⟩
 ·refine jK (bt Y) (lS ?_);obtain rfl:=sm c;refine nE (P:=prog) (fn:=f129) r ?_;exact mZ (⟨r,a⟩)
 refine jD (bf Y) (wk (q (q (g (s (mp r) ?_)))));obtain ⟨aa,h2,c⟩:=bs c;have hc:=(nC fu) (a.pr [0] [1] [0] r)  h2;refine sc (ec wL r) hc ?_;rintro _ w2 ⟨rfl,H⟩;replace a:=a.cl [0] [1] r H r;try dsimp only [pick,nth,ca,na] at a
 refine s (D5 r) (n ?_);rcases iv c with ⟨S,c⟩|⟨S,c⟩
 ·refine jK (cb S) (q (g (s (mp r) (s (mp r) ?_))));obtain ⟨⟨L,ab⟩,h4,c⟩:=bs c;replace c:=pi c;have hc:=(qO fu) (a.pr [0] [1] [1] r)  h4;refine sc (ec EO r) hc ?_;rintro _ w4 ⟨rfl,H⟩;replace a:=a.cl [0] [1] r H r;try dsimp only [pick,nth,ca,na] at a
  refine s (xn r) (s (Jh r) (lg (tb a 1 [T L] r pJ r r r r r (show _=#[V b.c,V b.f,V b.n,T b.b,T L,V b.m,V b.g,Z o b.d p,T b.k,V b.h,Z t b.a u,Z v b.e x,Z z b.i A] from r)) ?_));intro w5 a;try dsimp only [List.set] at a
  refine n (lS ?_);obtain rfl:=sm c;refine nE (P:=prog) (fn:=f129) r ?_;exact mZ (⟨r,a.dp [0,3,4,5,6]⟩)
 refine jD (wV S) (wk (q (g (s (mp r) (s (xn r) (s (nS r) (s (l3 r (a.bk 0 r) r) (s (kN r r) (s (xn r) (s (nS r) (lg (tb a 0 [V (wr (m.a+1))] r o9 r r r r r (show _=#[Z d m.l j,V (wr (m.a+1)),V m.c,V m.e] from r)) ?_)))))))))));intro w6 a;try dsimp only [List.set] at a
 refine n (q (q (g (s (mp r) ?_))));obtain ⟨ac,h7,c⟩:=bs c;have hc:=(nC fu) (a.pr [0] [1] [1] r)  h7;refine sc (ec wL r) hc ?_;rintro _ w7 ⟨rfl,H⟩;replace a:=a.cl [0] [1] r H r;try dsimp only [pick,nth,ca,na] at a
 refine s (D5 r) (n ?_);rcases iv c with ⟨U,c⟩|⟨U,c⟩
 ·refine jK (cb U) (lS ?_);obtain rfl:=sm c;refine nE (P:=prog) (fn:=f129) r ?_;exact mZ (⟨r,a.dp [2,3,4,5,6]⟩)
 refine jD (wV U) (wk (q (g (s (mp r) (s (xn r) (s (nS r) (s (l3 r (a.bk 0 r) r) (s (kN r r) (s (xn r) (s (nS r) (lg (tb a 0 [V (wr ((wr (m.a+1))+1))] r o9 r r r r r (show _=#[Z d m.l j,V (wr ((wr (m.a+1))+1)),V m.c,V m.e] from r)) ?_)))))))))));intro w9 a;try dsimp only [List.set] at a
 refine n (q (q (g (s (mp r) ?_))));obtain ⟨a0,a1,c⟩:=bs c;have hc:=(rD fu) (a.pr [0] [1] [2] r)  a1;refine sc (ec F5 r) hc ?_;rintro _ ai ⟨rfl,H⟩;replace a:=a.cl [0] [1] r H r;try dsimp only [pick,nth,ca,na] at a
 refine s (D5 r) (n ?_);rcases iv c with ⟨I,c⟩|⟨I,c⟩
 ·refine jK (cb I) (q (g (s (mp r) ?_)));obtain ⟨a2,a3,c⟩:=bs c;have hc:=(rJ fu) (a.pr [0] [1] [3] r)  a3;refine sc (ec FZ r) hc ?_;rintro _ aj ⟨rfl,H⟩;replace a:=a.cl [0] [1] r H r;try dsimp only [pick,nth,ca,na] at a
  refine n (lS ?_);obtain rfl:=sm c;refine nE (P:=prog) (fn:=f129) r ?_;exact mZ (⟨r,a.dp [0,5,6,7,8]⟩)
 refine jD (wV I) (wk (q (qG a [0] [3] [] (by kernel_rfl) ?_)));replace a:=a.drew;have D:=a.ad [0] [3];refine pF 0 r (mp r) D (pF 1 r (mp r) D (pF 2 r (xn r) D (pF 3 r (Dw r) D (uF 4 r (fun hS=>TM r (hS.bk 0 r) r) D (pF 5 r (mp r) D (pF 6 r (xn r) D (pF 7 r (nS r) D (uF 8 r (fun hS=>l3 r (hS.bk 0 r) r) D ?_))))))));obtain ⟨C,F,c⟩:=bs c;obtain ⟨ak,W,F⟩:=lq F;refine pF 9 r (lu FE qj r r W (a.dl 3 r) F) D (pF 10 r (Ul r) D (tU 11 r (fun _ hS=>kC NG r r ((uE (ds:=[V C.c,V C.f,T C.a,V C.d]) (hS.dl 0 r) F (fun _ h=>h)) 3 _ r)) (sF D) (pF 12 r (xn r) D (pF 13 r (DJ r) D ?_))));refine hO 14 (os r r (tb a 1 [V C.d] r o9 r r r r r (show _=#[V b.c,V b.f,V b.n,T b.b,T b.j,V C.d,V b.g,Z o b.d p,T b.k,V b.h,Z t b.a u,Z v b.e x,Z z b.i A] from r)) ?_);intro al a;try dsimp only [List.set] at a
 have D:=a.ad [0] [3];refine ⟨sF D,?_⟩;refine hD (q (q ?_));obtain ⟨a4,B,c⟩:=bs c;refine oD (fun f w=>∃ (E:Bool),Has f [(0,Pt K),(64,.bool E)]/\Bx w0 w az G [.box K 99 #[Z d m.l j,V (wr ((wr (m.a+1))+1)),V m.c,V m.e],.box N 115 #[V b.c,V b.f,V b.n,T b.b,T b.j,V C.d,V b.g,Z o b.d p,T b.k,V b.h,Z t b.a u,Z v b.e x,Z z b.i A]] [.l d j m.l,.l o p b.d,.l t u b.a,.l v x b.e,.l z A b.i]/\Ld.go E=a4) (fun am M=>?_) ?_
 ·unfold yG at B;refine g (s (mp r) (s (xn r) (s (DJ r) (s (l3 r (a.bk 1 r) r) (s (sj r r) (s (lI r) ?_))))));rcases iv B with ⟨Q,B⟩|⟨Q,B⟩
  ·rw [uD Q];refine ko r (ko r (ko r (ko r (ko r (s (kU r r) (n ?_))))));exact M _ _ ⟨true,⟨r,r,y⟩,a.dp [3,4,5,6,7],sm B⟩
  rw [uL Q];refine kL r (s (mp r) (kL r (s (xn r) (kL r (s (DJ r) (kL r (s (l3 r (a.bk 1 r) r) (kL r (s (vJ r r) (s (kI r r) (n ?_)))))))))));exact M _ _ ⟨decide (8 < C.d),⟨r,r,y⟩,a.dp [3,4,5,6,7],sm B⟩
 clear a;rintro f w ⟨E,hf,a,X⟩;obtain ⟨aA,rfl⟩:=ng hf;subst X;replace c:=gi c;rcases iv c with ⟨J,c⟩|⟨J,c⟩
 ·refine jK (cb J) (q (g (s (mp r) ?_)));obtain ⟨a5,a6,c⟩:=bs c;have hc:=(rJ fu) (a.pr [0] [1] [0] r)  a6;refine sc (ec FZ r) hc ?_;rintro _ an ⟨rfl,H⟩;replace a:=a.cl [0] [1] r H r;try dsimp only [pick,nth,ca,na] at a
  refine n (lS ?_);obtain rfl:=sm c;refine nE (P:=prog) (fn:=f129) r ?_;exact mZ (⟨r,a.dp [0,2,3,4,5]⟩)
 refine jD (wV J) (wk (q (g (s (mp r) (s (xn r) (s (nS r) (s (l3 r (a.bk 0 r) r) (s (kN r r) (s (xn r) (s (nS r) (lg (tb a 0 [V (wr ((wr ((wr (m.a+1))+1))+1))] r o9 r r r r r (show _=#[Z d m.l j,V (wr ((wr ((wr (m.a+1))+1))+1)),V m.c,V m.e] from r)) ?_)))))))))));intro ao a;try dsimp only [List.set] at a
 refine n (g (s (mp r) ?_));obtain ⟨a7,a8,c⟩:=bs c;have hc:=(lX fu) (a.pr [0] [1] [0] r)  a8;refine sc (ec xC r) hc ?_;rintro _ ap ⟨rfl,H⟩;replace a:=a.cl [0] [1] r H r;try dsimp only [pick,nth,ca,na] at a
 refine n ?_;obtain rfl:=sm c;refine nE (P:=prog) (fn:=f129) r ?_;exact mZ (⟨r,a.dp [0,2,3,4,5]⟩)
def NT (m:gP->Gs->Bool->Option (gP × Gs)):Prop:=∀ {D F}{A:gP}{b:Gs}{E B c d C f h p t i j k o R},(fun L=>Pre D F L [.l c d A.l,.l f h b.d,.l p t b.a,.l i j b.e,.l k o b.i]->m A b E=some R-> Calls prog 131 #[Pt B,Pt C,.bool E] D (sW fun v w=>jy R fun z a=>∃ (u:OA)(x:Nat),v=.tuple #[]/\Bx D w F (mQ L) [.box B 99 #[Z c z.l d,V z.a,V z.c,V z.e],.box C 115 #[V a.c,V a.f,V a.n,T a.b,T a.j,V a.m,V a.g,Z f a.d h,T a.k,V a.h,Z u a.a x,Z i a.e j,Z k a.i o]] [.l c d z.l,.l f h a.d,.l u x a.a,.l i j a.e,.l k o a.i])) [.box B 99 #[Z c A.l d,V A.a,V A.c,V A.e],.box C 115 #[V b.c,V b.f,V b.n,T b.b,T b.j,V b.m,V b.g,Z f b.d h,T b.k,V b.h,Z p b.a t,Z i b.e j,Z k b.i o]]
def yO (fu:Nat)(i:gP)(a:Gs)(j:Bool):Option (Ld Unit (gP × Gs)):=if i.e=0 then if j=true then (tJ fu i).bind fun b=>if b=true then (oV fu i).bind fun k=>jy k fun c d=>(tX fu d).bind fun k=>jy k fun f h=>some (.out (h,(⟨a.c,a.f,a.n,a.b,a.j,a.m,a.g,a.d,c,a.h,f,a.e,a.i⟩:Gs))) else some (.go ()) else some (.go ()) else some (.go ())
def rO (fu:Nat)(d:gP)(a:Gs)(e:Bool):Option (gP × Gs):=(yO fu d a e).bind fun f=>f.el (fun _=>(l8 fu d 1 0).bind fun f=>jy f fun b c=>some (c,(⟨a.c,a.f,a.n,a.b,a.j,a.m,a.g,a.d,a.k,a.h,([b]:List Ge),a.e,a.i⟩:Gs))) (fun o=>some o)
theorem xV (fu:Nat):NT (rO fu):=by
 intro w0 am H a x2 I C D J h j A B m o p t R hP E;unfold rO at E;have c:=hP.bx;clear hP;generalize hG:mQ _=G at c ⊢;refine cf func131 r ?_;refine lH [(0,Pt I),(1,Pt J),(2,.bool x2)] ⟨r,r,r,y⟩ fun an=>?_;refine q ?_;obtain ⟨Y1,b,E⟩:=bs E;refine oD (fun f w=>Has f [(0,Pt I),(1,Pt J)]/\Bx w0 w am G [.box I 99 #[Z C H.l D,V H.a,V H.c,V H.e],.box J 115 #[V a.c,V a.f,V a.n,T a.b,T a.j,V a.m,V a.g,Z h a.d j,T a.k,V a.h,Z A a.a B,Z m a.e o,Z p a.i t]] [.l C D H.l,.l h j a.d,.l A B a.a,.l m o a.e,.l p t a.i]/\Ld.go ()=Y1) (fun J1 L=>?_) ?_
 ·unfold yO at b;refine q (g (s (mp r) (s (xn r) (s (vW r) (s (EM r (c.bk 0 r) r) (s (kH r r) (s (lI r) ?_)))))));rcases iv b with ⟨W,b⟩|⟨W,b⟩
  ·rw [uD W];refine kL r (s (lI r) (s (kU r r) (s (lI r) ?_)));rcases iv b with ⟨Q,b⟩|⟨Q,b⟩
   ·rw [Q];refine kL r (s (mp r) ?_);obtain ⟨a4,h4,b⟩:=bs b;refine kL r ?_;have hc:=(Im fu) (c.pr [0] [1] [0] r)  h4;refine sc (ec Vg r) hc ?_;rintro _ w4 ⟨rfl,M⟩;replace c:=c.cl [0] [1] r M r;try dsimp only [pick,nth,ca,na] at c
    refine s (kU r r) (n ?_);rcases iv b with ⟨S,b⟩|⟨S,b⟩
    ·refine jK (cb S) (q (g (s (mp r) (s (mp r) ?_))));obtain ⟨⟨F,a5⟩,h6,b⟩:=bs b;replace b:=pi b;have hc:=(qO fu) (c.pr [0] [1] [1] r)  h6;refine sc (ec EO r) hc ?_;rintro _ w6 ⟨rfl,M⟩;replace c:=c.cl [0] [1] r M r;try dsimp only [pick,nth,ca,na] at c
     refine s (xn r) (s (Fu r) (lg (tb c 1 [T F] r pJ r r r r r (show _=#[V a.c,V a.f,V a.n,T a.b,T a.j,V a.m,V a.g,Z h a.d j,T F,V a.h,Z A a.a B,Z m a.e o,Z p a.i t] from r)) ?_));intro w7 c;try dsimp only [List.set] at c
     refine n (q (g (s (mp r) (s (mp r) ?_))));obtain ⟨⟨K,a6⟩,h8,b⟩:=bs b;replace b:=pi b;have hc:=(HZ fu) (c.pr [0] [1] [0] r)  h8;refine sc (ec Zj r) hc ?_;rintro _ w8 ⟨u,v,U,rfl,M⟩;have X:=c.sS.size;replace c:=c.cl [0] [1] r M r;try dsimp only [pick,nth,ca,na] at c
     replace c:=c.DF 0 w0.heap.size r X;try dsimp only [List.set] at c
     refine s (xn r) (s (vF r) (lg (tb c 2 [Z u K v] r vY r r r r r (show _=#[V a.c,V a.f,V a.n,T a.b,T a.j,V a.m,V a.g,Z h a.d j,T F,V a.h,Z u K v,Z m a.e o,Z p a.i t] from r)) ?_));intro w9 c;try dsimp only [List.set] at c
     refine n (lS ?_);replace c:=c.sV 0 0 r r;try dsimp only [List.eraseIdx] at c
     obtain rfl:=sm b;replace E:=oi E;obtain rfl:=sm E;refine nE (P:=prog) (fn:=f131) r ?_;exact mZ (⟨u,v,r,c.dp [1,5,0,7,8]⟩)
    refine jD (wV S) (wk ?_);exact L _ _ ⟨⟨r,r,y⟩,c.dp [1,2,3,4,5],sm b⟩
   replace Q:=nt Q;rw [Q];refine ko r (ko r (s (kI r r) (n (jD r (wk ?_)))));exact L _ _ ⟨⟨r,r,y⟩,c,sm b⟩
  rw [uL W];refine ko r (s (kI r r) (s (lI r) (ko r (ko r (s (kI r r) (n (jD r (wk ?_))))))));exact L _ _ ⟨⟨r,r,y⟩,c,sm b⟩
 clear c;rintro f w ⟨hf,c,Y⟩;obtain ⟨an,rfl⟩:=ng hf;subst Y;replace E:=gi E;refine g (s (mp r) (s (mp r) ?_));obtain ⟨⟨d,a0⟩,a1,E⟩:=bs E;replace E:=pi E;have hc:=(rG fu) (c.pr [0] [1] [0] r)  a1;refine sc (ec CZ r) hc ?_;rintro _ ac ⟨x,z,rfl,M⟩;replace c:=c.cl [0] [1] r M r;try dsimp only [pick,nth,ca,na] at c
 refine l5 (jM c [[V d.e,V d.d,V d.g,T d.b,T d.c,Z x d.a z]] ([d]:List Ge) (kX r) r r (by decide) ⟨jA.inn ⟨x,z,r,c.dl 0 r⟩,y⟩) ?_;rintro _ ae ⟨N,rfl,c⟩;refine s (xn r) (s (vF r) (lg (tb c 2 [.slice (ad N) ([d]:List Ge).length 1] r vY r r r r r (show _=#[V a.c,V a.f,V a.n,T a.b,T a.j,V a.m,V a.g,Z h a.d j,T a.k,V a.h,.slice (ad N) ([d]:List Ge).length 1,Z m a.e o,Z p a.i t] from r)) ?_));intro af c;try dsimp only [List.set] at c
 refine n ?_;replace c:=c.sV 0 0 r r;try dsimp only [List.eraseIdx] at c
 obtain rfl:=sm E;refine nE (P:=prog) (fn:=f131) r ?_;exact mZ (⟨ad N,1,r,c.dp [2,4,0,6,7]⟩)
def KO (m:gP->Gs->Option (gP × Gs)):Prop:=∀ {F G}{C:gP}{b:Gs}{D c d E k o p t f h i j R},(fun L=>Pre F G L [.l c d C.l,.l k o b.d,.l p t b.a,.l f h b.e,.l i j b.i]->m C b=some R-> Calls prog 132 #[Pt D,Pt E] F (sW fun v w=>jy R fun B a=>∃ (u:OA)(x:Nat)(z:OA)(A:Nat),v=.tuple #[]/\Bx F w G (mQ L) [.box D 99 #[Z c B.l d,V B.a,V B.c,V B.e],.box E 115 #[V a.c,V a.f,V a.n,T a.b,T a.j,V a.m,V a.g,Z u a.d x,T a.k,V a.h,Z z a.a A,Z f a.e h,Z i a.i j]] [.l c d B.l,.l u x a.d,.l z A a.a,.l f h a.e,.l i j a.i])) [.box D 99 #[Z c C.l d,V C.a,V C.c,V C.e],.box E 115 #[V b.c,V b.f,V b.n,T b.b,T b.j,V b.m,V b.g,Z k b.d o,T b.k,V b.h,Z p b.a t,Z f b.e h,Z i b.i j]]
def yg (fu:Nat)(k:gP)(b:Gs):Option (gP × Gs):=(tJ fu k).bind fun d=>if d=true then (rO fu k (⟨3,b.f,b.n,b.b,b.j,b.m,b.g,b.d,b.k,b.h,b.a,b.e,b.i⟩:Gs) true).bind fun l=>jy l fun e f=>some (e,f) else (tK fu k 0).bind fun l=>jy l fun h i=>(lT fu i (⟨#[61]⟩:BA)).bind fun j=>(rO fu j (⟨3,b.f,b.n,b.b,b.j,b.m,b.g,([h]:List Ge),b.k,b.h,b.a,b.e,b.i⟩:Gs) true).bind fun l=>jy l fun c a=>if a.k=(⟨#[]⟩:BA) then some (c,(⟨2,a.f,a.n,a.b,a.j,a.m,a.g,a.d,a.k,a.h,a.a,a.e,a.i⟩:Gs)) else some (c,a)
theorem KL (fu:Nat):KO (yg fu):=by
 intro w0 ag M c I E F J w x z A m o p t R S j;unfold yg at j;have b:=S.bx;clear S;generalize hG:mQ _=G at b ⊢;refine cf func132 r ?_;refine lH [(0,Pt I),(1,Pt J)] ⟨r,r,y⟩ fun ah=>?_;refine q (g (s (mp r) (s (xn r) (s (ze r) (lg (tb b 1 [V 3] r o9 r r r r r (show _=#[V 3,V c.f,V c.n,T c.b,T c.j,V c.m,V c.g,Z w c.d x,T c.k,V c.h,Z z c.a A,Z m c.e o,Z p c.i t] from r)) ?_)))));intro w1 b;try dsimp only [List.set] at b
 refine n (q (q (g (s (mp r) ?_))));obtain ⟨U,h2,j⟩:=bs j;have hc:=(Im fu) (b.pr [0] [1] [0] r)  h2;refine sc (ec Vg r) hc ?_;rintro _ w2 ⟨rfl,D⟩;replace b:=b.cl [0] [1] r D r;try dsimp only [pick,nth,ca,na] at b
 refine n ?_;rcases iv j with ⟨K,j⟩|⟨K,j⟩
 ·refine jK (cb K) (q (g (s (mp r) (s (mp r) ?_))));obtain ⟨⟨W,X⟩,h4,j⟩:=bs j;replace j:=pi j;have hc:=(xV fu) (b.pr [0,1] [] [1,2,3,4,5] r)  h4;refine sc (ec JB r) hc ?_;rintro _ w4 ⟨B,C,rfl,D⟩;replace b:=b.cl [0,1] [] r D r;try dsimp only [pick,nth,ca,na] at b
  refine n (lS ?_);obtain rfl:=sm j;refine nE (P:=prog) (fn:=f132) r ?_;exact mZ (⟨w,x,B,C,r,b.dp [0,1,2,3,4]⟩)
 refine jD (wV K) (wk (q (g (s (mp r) (s (mp r) ?_)))));obtain ⟨⟨h,Y⟩,h5,j⟩:=bs j;replace j:=pi j;have hc:=(KZ fu) (b.pr [0] [1] [1] r)  h5;refine sc (ec VD r) hc ?_;rintro _ w5 ⟨u,v,rfl,D⟩;replace b:=b.cl [0] [1] r D r;try dsimp only [pick,nth,ca,na] at b
 refine l5 (jM b [[V h.e,V h.d,V h.g,T h.b,T h.c,Z u h.a v]] ([h]:List Ge) (kX r) r r (by decide) ⟨jA.inn ⟨u,v,r,b.dl 0 r⟩,y⟩) ?_;rintro _ w6 ⟨L,rfl,b⟩;refine s (xn r) (s (y8 r) (lg (tb b 2 [.slice (ad L) ([h]:List Ge).length 1] r vY r r r r r (show _=#[V 3,V c.f,V c.n,T c.b,T c.j,V c.m,V c.g,.slice (ad L) ([h]:List Ge).length 1,T c.k,V c.h,Z z c.a A,Z m c.e o,Z p c.i t] from r)) ?_));intro w7 b;try dsimp only [List.set] at b
 refine n (q (g (s (mp r) ?_)));obtain ⟨a0,h8,j⟩:=bs j;have hc:=(lX fu) (b.pr [1] [0,2] [2] r)  h8;refine sc (ec xC r) hc ?_;rintro _ w8 ⟨rfl,D⟩;replace b:=b.cl [1] [0,2] r D r;try dsimp only [pick,nth,ca,na] at b
 refine n (q (g (s (mp r) (s (mp r) ?_))));replace b:=b.sV 1 1 r r;try dsimp only [List.eraseIdx] at b
 obtain ⟨⟨N,a⟩,Q,j⟩:=bs j;replace j:=pi j;have hc:=(xV fu) (b.pr [0,1] [] [1,0,7,8,9] r)  Q;refine sc (ec JB r) hc ?_;rintro _ a5 ⟨d,f,rfl,D⟩;replace b:=b.cl [0,1] [] r D r;try dsimp only [pick,nth,ca,na] at b
 refine n (q (g (s (mp r) (s (xn r) (s (Fu r) (s (l9 r (b.bk 1 r) r) (s (rY r r) (n ?_))))))));rcases iv j with ⟨H,j⟩|⟨H,j⟩
 ·refine jK (bt H) (g (s (mp r) (s (xn r) (s (ze r) (lg (tb b 1 [V 2] r o9 r r r r r (show _=#[V 2,V a.f,V a.n,T a.b,T a.j,V a.m,V a.g,.slice (ad L) a.d.length 1,T a.k,V a.h,Z d a.a f,Z m a.e o,Z p a.i t] from r)) ?_)))));intro a6 b;try dsimp only [List.set] at b
  refine n ?_;obtain rfl:=sm j;refine nE (P:=prog) (fn:=f132) r ?_;exact mZ (⟨ad L,1,d,f,r,b.dp [0,1,2,3,4]⟩)
 refine jD (bf H) (wk ?_);obtain rfl:=sm j;refine nE (P:=prog) (fn:=f132) r ?_;exact mZ (⟨ad L,1,d,f,r,b.dp [0,1,2,3,4]⟩)
abbrev uO:=gP->Int->Option ((List jB) × Int × gP)
abbrev qA:=gP->Int->Option (jB × gP)
def xL (m:gP->Int->Option ((List Gs) × Int × gP)):Prop:=∀ {k:World}{u}{i:gP}{o j a b R},(fun L=>Pre k u L [.l a b i.l]->m i o=some R-> Calls prog 54 #[Pt j,V o] k (sW fun v w=>jy R fun p R=>jy R fun t c=>∃ (d:OA)(f:Nat)(h:LV),v=.tuple #[Z d p f,V t]/\Bx k w u (mQ L) [O k.heap.size d f 115 Gs h,.box j 99 #[Z a c.l b,V c.a,V c.c,V c.e]] [.els h p,.l a b c.l])) [.box j 99 #[Z a i.l b,V i.a,V i.c,V i.e]]
def vR (m:gP->Int->Option (Gs × gP)):Prop:=∀ {z B}{u:gP}{A x a b R},(fun L=>Pre z B L [.l a b u.l]->m u A=some R-> Calls prog 78 #[Pt x,V A] z (sW fun v w=>jy R fun c d=>∃ (f:OA)(h:Nat)(i:OA)(j:Nat)(k:OA)(o:Nat)(p:OA)(t:Nat),v=.agg #[V c.c,V c.f,V c.n,T c.b,T c.j,V c.m,V c.g,Z f c.d h,T c.k,V c.h,Z i c.a j,Z k c.e o,Z p c.i t]/\Bx z w B (mQ L) [.box x 99 #[Z a d.l b,V d.a,V d.c,V d.e]] [.l f h c.d,.l i j c.a,.l k o c.e,.l p t c.i,.l a b d.l])) [.box x 99 #[Z a u.l b,V u.a,V u.c,V u.e]]
def p8 (fu:Nat)(r_r03_block:uO)(r_r03_statement:qA)(m:Int):Nat→(List Gs)→(List kg)→Int→Int→Int→Option (Ld (List Gs × List kg × Int × Int × Int) ((List Gs) × Int × gP))
 | 0,_,_,_,_,_=>none
 | t+1,i,b,c,d,a=>
 if a=0 then
  (mM fu (⟨b,c,d,a⟩:gP) 0 (⟨#[125]⟩:BA)).bind fun o=>
  if (!o)=true then
   (xW fu (⟨b,c,d,a⟩:gP)).bind fun p=>
   if (!p)=true then
    (pK fu (⟨b,c,d,a⟩:gP) 7).bind fun j=>
    p8 fu r_r03_block r_r03_statement m t i j.l j.a j.c j.e
   else
    if 8 < m then
     (pK fu (⟨b,c,d,a⟩:gP) 5).bind fun f=>
     p8 fu r_r03_block r_r03_statement m t i f.l f.a f.c f.e
    else
     (r_r03_statement (⟨b,c,d,a⟩:gP) m).bind fun v=>
     jy v fun k h=>
     (app i ([k]:List Gs)).bind fun u=>
     p8 fu r_r03_block r_r03_statement m t u h.l h.a h.c h.e
  else
   some (.go (i,b,c,d,a))
 else
  some (.go (i,b,c,d,a))
def xX (fu:Nat)(r_r03_block:uO)(r_r03_statement:qA)(a:List kg)(b c:Int):Option (Ld Int ((List Gs) × Int × gP)):=if c=0 then (ix a b).bind fun d=>some (.go d.f) else some (.go 0)
def zU (fu:Nat)(r_r03_block:uO)(r_r03_statement:qA)(k:gP)(m:Int):Option ((List Gs) × Int × gP):=(lT fu k (⟨#[123]⟩:BA)).bind fun a=>(p8 fu r_r03_block r_r03_statement m fu ([]:List Gs) a.l a.a a.c a.e).bind fun p=>p.el (fun p=>jy p fun i p=>jy p fun b p=>jy p fun c p=>jy p fun j d=>(xX fu r_r03_block r_r03_statement b c d).bind fun p=>p.el (fun f=>(lT fu (⟨b,c,j,d⟩:gP) (⟨#[125]⟩:BA)).bind fun h=>some (i,f,h)) (fun o=>some o)) (fun o=>some o)
def tQ (fu:Nat)(r_r03_block:uO)(r_r03_statement:qA)(b:gP)(c:kg):Option (Ld (BA × Int) (Gs × gP)):=(pO fu b 0 3).bind fun a=>if a=true then some (.go (c.a,wr (b.a+1))) else some (.go ((⟨#[]⟩:BA),b.a))
def tV (fu:Nat)(r_r03_block:uO)(r_r03_statement:qA)(b:gP)(x1:Int):Option (Gs × gP):=(ix b.l b.a).bind fun i=>(tQ fu r_r03_block r_r03_statement b i).bind fun a7=>a7.el (fun a7=>jy a7 fun d c=>if d=(⟨#[118,97,114]⟩:BA) then (oV fu (⟨b.l,c,b.c,b.e⟩:gP)).bind fun a7=>jy a7 fun t u=>(lT fu u (⟨#[58]⟩:BA)).bind fun v=>(zY fu v (⟨1,i.f,0,t,be,0,0,([]:List Ge),be,0,([]:List Ge),([]:List Gs),([]:List Gs)⟩:Gs)).bind fun a7=>jy a7 fun w x=>(lT fu w (⟨#[59]⟩:BA)).bind fun z=>some (x,z) else if d=(⟨#[105,102]⟩:BA) then (l8 fu (⟨b.l,c,b.c,b.e⟩:gP) 1 0).bind fun a7=>jy a7 fun f A=>(r_r03_block A (wr (x1+1))).bind fun a7=>jy a7 fun h a7=>jy a7 fun a2 a=>if a.e=0 then (mM fu a 0 (⟨#[101,108,115,101]⟩:BA)).bind fun B=>if B=true then (r_r03_block (⟨a.l,wr (a.a+1),a.c,a.e⟩:gP) (wr (x1+1))).bind fun a7=>jy a7 fun C a7=>jy a7 fun a3 D=>some ((⟨4,i.f,0,be,be,0,0,([]:List Ge),be,0,([f]:List Ge),h,C⟩:Gs),D) else some ((⟨4,i.f,0,be,be,0,0,([]:List Ge),be,0,([f]:List Ge),h,([]:List Gs)⟩:Gs),a) else some ((⟨4,i.f,0,be,be,0,0,([]:List Ge),be,0,([f]:List Ge),h,([]:List Gs)⟩:Gs),a) else if d=(⟨#[119,104,105,108,101]⟩:BA) then (l8 fu (⟨b.l,c,b.c,b.e⟩:gP) 1 0).bind fun a7=>jy a7 fun E F=>(r_r03_block F (wr (x1+1))).bind fun a7=>jy a7 fun G a7=>jy a7 fun a4 H=>some ((⟨5,i.f,0,be,be,0,0,([]:List Ge),be,0,([E]:List Ge),G,([]:List Gs)⟩:Gs),H) else if d=(⟨#[116,114,121]⟩:BA) then (r_r03_block (⟨b.l,c,b.c,b.e⟩:gP) (wr (x1+1))).bind fun a7=>jy a7 fun I a7=>jy a7 fun a5 J=>(lT fu J (⟨#[99,97,116,99,104]⟩:BA)).bind fun K=>(oV fu K).bind fun a7=>jy a7 fun L M=>(r_r03_block M (wr (x1+1))).bind fun a7=>jy a7 fun N a7=>jy a7 fun a6 P=>some ((⟨8,i.f,0,L,be,0,0,([]:List Ge),be,0,([]:List Ge),I,N⟩:Gs),P) else if d=(⟨#[114,101,116,117,114,110]⟩:BA) then (rO fu (⟨b.l,c,b.c,b.e⟩:gP) (⟨6,i.f,0,be,be,0,0,([]:List Ge),be,0,([]:List Ge),([]:List Gs),([]:List Gs)⟩:Gs) true).bind fun a7=>jy a7 fun Q R=>(lT fu Q (⟨#[59]⟩:BA)).bind fun S=>some (R,S) else if d=(⟨#[116,104,114,111,119]⟩:BA) then (rO fu (⟨b.l,c,b.c,b.e⟩:gP) (⟨7,i.f,0,be,be,0,0,([]:List Ge),be,0,([]:List Ge),([]:List Gs),([]:List Gs)⟩:Gs) false).bind fun a7=>jy a7 fun U W=>(lT fu U (⟨#[59]⟩:BA)).bind fun X=>some (W,X) else if d=(⟨#[112,114,105,110,116]⟩:BA) then (rO fu (⟨b.l,c,b.c,b.e⟩:gP) (⟨9,i.f,0,be,be,0,0,([]:List Ge),be,0,([]:List Ge),([]:List Gs),([]:List Gs)⟩:Gs) false).bind fun a7=>jy a7 fun Y a0=>(lT fu Y (⟨#[59]⟩:BA)).bind fun j=>some (a0,j) else (yg fu (⟨b.l,c,b.c,b.e⟩:gP) (⟨0,i.f,0,be,be,0,0,([]:List Ge),be,0,([]:List Ge),([]:List Gs),([]:List Gs)⟩:Gs)).bind fun a7=>jy a7 fun k m=>(lT fu k (⟨#[59]⟩:BA)).bind fun p=>some (m,p)) (fun o=>some o)
def uw:Nat→(gP→Int→Option ((List Gs) × Int × gP)) × (gP→Int→Option (Gs × gP))
 | 0=>((fun _ _=>none),(fun _ _=>none))
 | fu+1=>(zU fu ((uw fu).1) ((uw fu).2),tV fu ((uw fu).1) ((uw fu).2))
def xk (fu:Nat):=(uw fu).1
def wT (fu:Nat):=(uw fu).2
theorem ML (fu:Nat)(r_r03_block:uO)(r_r03_statement:qA)(H_r03_block:xL r_r03_block)(H_r03_statement:vR r_r03_statement):xL (zU fu r_r03_block r_r03_statement):=by
 intro w0 aQ x0 x1 N x z R hP B;unfold zU at B;have b:=hP.bx;clear hP;generalize hG:mQ _=G at b ⊢;refine cf func54 r ?_;refine lH [(0,Pt N),(1,V x1)] ⟨r,r,y⟩ fun aR=>?_;refine q (g (s (og r) (s (xi r) (n (q (g (s (og r) (n (q (g (s (mp r) ?_)))))))))));obtain ⟨S,h1,B⟩:=bs B;have hc:=(lX fu) (b.pr [0] [] [0] r)  h1;refine sc (ec xC r) hc ?_;rintro _ w1 ⟨rfl,X⟩;replace b:=b.cl [0] [] r X r;try dsimp only [pick,nth,ca,na] at b
 refine n (q ?_);replace b:=b.EK Gs 115;obtain ⟨Y2,a,B⟩:=bs B;refine oD (fun f w=>∃ (o:List Gs)(c:OA)(d:Nat)(j:LV)(p:List kg)(t u v:Int),Has f [(0,Pt N),(6,Z c o d)]/\Bx w0 w aQ G [O w0.heap.size c d 115 Gs j,.box N 99 #[Z x p z,V t,V u,V v]] [.l x z p,.els j o]/\Ld.go (o,p,t,u,v)=Y2) (fun J2 a6=>?_) ?_
 ·refine qb (kM (fun aS f w=>∃ (o:List Gs)(c:OA)(d:Nat)(j:LV)(p:List kg)(t u v:Int),Has f [(0,Pt N),(1,V x1),(6,Z c o d)]/\Bx w0 w aQ G [O w0.heap.size c d 115 Gs j,.box N 99 #[Z x p z,V t,V u,V v]] [.l x z p,.els j o]/\p8 fu r_r03_block r_r03_statement x1 aS o p t u v=some Y2) fu ⟨([]:List Gs),none,0,[],S.l,S.a,S.c,S.e,⟨r,r,r,y⟩,b.dp [1,0],a⟩ ?_);clear b a;rintro n2 f w ⟨o,c,d,j,p,t,u,v,hf,b,a⟩ K2 a2;obtain ⟨aR,rfl⟩:=ng hf;cases n2 with
  | zero=>exact nn a
  | succ n2=>
   rw [p8] at a;refine q (q (g (s (mp r) (s (xn r) (s (vW r) (s (EM r (b.bk 1 r) r) (s (kH r r) (s (lI r) ?_))))))));rcases iv a with ⟨h4,a⟩|⟨h4,a⟩
   ·rw [uD h4];refine kL r (s (mp r) ?_);obtain ⟨av,h5,a⟩:=bs a;refine kL r ?_;have hc:=(nC fu) (b.pr [1] [0] [0] r)  h5;refine sc (ec wL r) hc ?_;rintro _ w5 ⟨rfl,X⟩;replace b:=b.cl [1] [0] r X r;try dsimp only [pick,nth,ca,na] at b
    refine kL r (s (D5 r) (s (kU r r) (n ?_)));rcases iv a with ⟨h6,a⟩|⟨h6,a⟩
    ·refine jK (cb h6) (wk (qb (q (g (s (mp r) ?_)))));obtain ⟨aw,h7,a⟩:=bs a;have hc:=(KR fu) (b.pr [0] [1] [1] r)  h7;refine sc (ec acs r) hc ?_;rintro _ w7 ⟨rfl,X⟩;replace b:=b.cl [0] [1] r X r;try dsimp only [pick,nth,ca,na] at b
     refine s (D5 r) (n ?_);rcases iv a with ⟨h8,a⟩|⟨h8,a⟩
     ·refine jK (cb h8) (g (s (mp r) ?_));obtain ⟨U,h9,a⟩:=bs a;have hc:=(rJ fu) (b.pr [0] [1] [2] r)  h9;refine sc (ec FZ r) hc ?_;rintro _ w9 ⟨rfl,X⟩;replace b:=b.cl [0] [1] r X r;try dsimp only [pick,nth,ca,na] at b
      refine n ?_;exact a2 n2 _ _ (Ec _) ⟨o,c,d,j,U.l,U.a,U.c,U.e,⟨r,r,r,y⟩,b.ad [1,0] [0,4],a⟩
     refine jD (wV h8) (q (g (s (mi r) (s (vJ r r) (n ?_)))));rcases iv a with ⟨a3,a⟩|⟨a3,a⟩
     ·refine jK (bt a3) (g (s (mp r) ?_));obtain ⟨L,ah,a⟩:=bs a;have hc:=(rJ fu) (b.pr [0] [1] [2] r)  ah;refine sc (ec FZ r) hc ?_;rintro _ aB ⟨rfl,X⟩;replace b:=b.cl [0] [1] r X r;try dsimp only [pick,nth,ca,na] at b
      refine n ?_;exact a2 n2 _ _ (Ec _) ⟨o,c,d,j,L.l,L.a,L.c,L.e,⟨r,r,r,y⟩,b.ad [1,0] [0,4],a⟩
     refine jD (bf a3) (g (s (qw r) (s (mp r) (s (mi r) ?_))));obtain ⟨⟨m,M⟩,ai,a⟩:=bs a;replace a:=pi a;have hc:=H_r03_statement (b.pr [0] [1] [2] r)  ai;refine sc (ec ace r) hc ?_;rintro _ aC ⟨C,D,E,F,H,I,J,K,rfl,X⟩;replace b:=b.cl [0] [1] r X r;try dsimp only [pick,nth,ca,na] at b
     refine l5 (jM b [[V m.c,V m.f,V m.n,T m.b,T m.j,V m.m,V m.g,Z C m.d D,T m.k,V m.h,Z E m.a F,Z H m.e I,Z J m.i K]] ([m]:List Gs) (rQ r) r r (by decide) ⟨jB.inn ⟨C,D,E,F,H,I,J,K,r,b.dl 0 r,b.dl 1 r,b.dl 2 r,b.dl 3 r⟩,y⟩) ?_;rintro _ aD ⟨aE,rfl,b⟩;obtain ⟨aj,aa,a⟩:=bs a;refine l5 (kR b 2 9 r r CF jR r (by decide) (by decide) (nJ _) r r (b.BU 0 0 r r) aa) ?_;rintro _ aF ⟨ak,al,am,rfl,b⟩;refine s (og r) (n ?_);exact a2 n2 _ _ (Ec _) ⟨aj,ak,al,am,M.l,M.a,M.c,M.e,⟨r,r,r,y⟩,b.ad [2,1] [5,9],a⟩
    refine jD (wV h6) (vE ?_);exact a6 _ _ ⟨o,c,d,j,p,t,u,v,⟨r,r,y⟩,b.ad [1,0] [1,2],sm a⟩
   rw [uL h4];refine ko r (ko r (ko r (s (kI r r) (n (jD r (vE ?_))))));exact a6 _ _ ⟨o,c,d,j,p,t,u,v,⟨r,r,y⟩,b,sm a⟩
 clear b;rintro f w ⟨o,c,d,j,p,t,u,v,hf,b,an⟩;obtain ⟨aR,rfl⟩:=ng hf;subst an;replace B:=gi B;replace B:=pi B;replace B:=pi B;replace B:=pi B;replace B:=pi B;refine q (g (s (xi r) (n (q ?_))));obtain ⟨ao,A,B⟩:=bs B;refine oD (fun f w=>∃ (Q:Int),Has f [(0,Pt N),(6,Z c o d),(7,V Q)]/\Bx w0 w aQ G [O w0.heap.size c d 115 Gs j,.box N 99 #[Z x p z,V t,V u,V v]] [.l x z p,.els j o]/\Ld.go Q=ao) (fun aG a1=>?_) ?_
 ·unfold xX at A;refine q (g (s (mp r) (s (xn r) (s (vW r) (s (EM r (b.bk 1 r) r) (s (kH r r) (n ?_)))))));rcases iv A with ⟨a4,A⟩|⟨a4,A⟩
  ·refine jK (bt a4) (qG b [1] [0] [] (by kernel_rfl) ?_);replace b:=b.drew;have Y:=b.ad [1] [0];refine pF 0 r (mp r) Y (pF 1 r (xn r) Y (pF 2 r (Dw r) Y (uF 3 r (fun hS=>TM r (hS.bk 0 r) r) Y (pF 4 r (mp r) Y (pF 5 r (xn r) Y (pF 6 r (nS r) Y (uF 7 r (fun hS=>l3 r (hS.bk 0 r) r) Y ?_)))))));obtain ⟨a0,W,A⟩:=bs A;obtain ⟨aH,ab,W⟩:=lq W;refine pF 8 r (lu FE qj r r ab (b.dl 0 r) W) Y (pF 9 r (MO r) Y (tU 10 r (fun _ hS=>kC NG r r ((uE (ds:=[V a0.c,V a0.f,T a0.a,V a0.d]) (hS.dl 0 r) W (fun _ h=>h)) 1 _ r)) (sF Y) (pF 11 r (xi r) Y (hD ?_))));exact a1 _ _ ⟨a0.f,⟨r,r,r,y⟩,b,sm A⟩
  refine jD (bf a4) (wk ?_);exact a1 _ _ ⟨0,⟨r,r,r,y⟩,b,sm A⟩
 clear b;rintro f w ⟨Q,hf,b,ac⟩;obtain ⟨aR,rfl⟩:=ng hf;subst ac;replace B:=gi B;refine q (g (s (mp r) ?_));obtain ⟨ap,aq,B⟩:=bs B;have hc:=(lX fu) (b.pr [1] [0] [0] r)  aq;refine sc (ec xC r) hc ?_;rintro _ aI ⟨rfl,X⟩;replace b:=b.cl [1] [0] r X r;try dsimp only [pick,nth,ca,na] at b
 refine n (q (g (s (qw r) (s (mi r) (s (og r) (s (xi r) (n (lS ?_))))))));obtain rfl:=sm B;refine Cc r (nu r) (nu r) ?_;exact mZ (mZ ⟨c,d,j,r,b.ad [1,0] [2,0]⟩)
theorem Hl (fu:Nat)(r_r03_block:uO)(r_r03_statement:qA)(H_r03_block:xL r_r03_block)(H_r03_statement:vR r_r03_statement):vR (tV fu r_r03_block r_r03_statement):=by
 intro w0 cN x0 x1 ap a5 a6 R hP p;unfold tV at p;have a:=hP.bx;clear hP;generalize hG:mQ _=G at a ⊢;refine cf func78 r ?_;refine lH [(0,Pt ap),(1,V x1)] ⟨r,r,y⟩ fun cO=>?_;refine q (g (l5 (kD a (jP jR)) ?_));rintro _ w1 ⟨b1,rfl,a⟩;refine n (q (qG a [1] [0] [] (by kernel_rfl) ?_));replace a:=a.drew;have hs:=a.arr [1] r;refine pF 0 r (mp r) hs (pF 1 r (xn r) hs (pF 2 r (Dw r) hs (uF 3 r (fun hS=>TM r (hS.bk 0 r) r) hs (pF 4 r (mp r) hs (pF 5 r (xn r) hs (pF 6 r (nS r) hs (uF 7 r (fun hS=>l3 r (hS.bk 0 r) r) hs ?_)))))));obtain ⟨Q,ak,p⟩:=bs p;obtain ⟨k2,aG,ak⟩:=lq ak;refine pF 8 r (lu FE qj r r aG (a.dl 0 r) ak) hs (pF 9 r (MO r) hs (tU 10 r (fun _ hS=>kC NG r r ((uE (ds:=[V Q.c,V Q.f,T Q.a,V Q.d]) (hS.dl 0 r) ak (fun _ h=>h)) 1 _ r)) (sF hs) (pF 11 r (Xd r) hs ?_)));refine hO 12 (oo r r (kD a (jP jR)) ?_);rintro _ w3 ⟨b3,rfl,a⟩;have hs:=a.arr [2] r;refine ⟨sF hs,?_⟩;refine hO 13 (os r r (tb a 0 [V 0,V Q.f,V 0,T be,T be,V 0,V 0,sn,T be,V 0,sn,sn,sn] r jR r r r r r (show _=#[V 0,V Q.f,V 0,T be,T be,V 0,V 0,sn,T be,V 0,sn,sn,sn] from r)) ?_);intro w4 a;try dsimp only [List.set] at a
 have hs:=a.arr [2] r;refine ⟨sF hs,?_⟩;refine hD (q (g (s (mP r) (n (q ?_)))));obtain ⟨Y5,ah,p⟩:=bs p;refine oD (fun f w=>∃ (al:BA)(am:Int),Has f [(0,Pt ap),(1,V x1),(4,Pt b1),(5,Pt b3),(6,T al)]/\Bx w0 w cN G [.box b3 115 #[V 0,V Q.f,V 0,T be,T be,V 0,V 0,sn,T be,V 0,sn,sn,sn],.box b1 115 #[V 0,V 0,V 0,T be,T be,V 0,V 0,sn,T be,V 0,sn,sn,sn],.box ap 99 #[Z a5 x0.l a6,V am,V x0.c,V x0.e]] [.l a5 a6 x0.l]/\Ld.go (al,am)=Y5) (fun J5 aH=>?_) ?_
 ·unfold tQ at ah;refine q (g (s (mp r) ?_));obtain ⟨bK,h6,ah⟩:=bs ah;have hc:=(rD fu) (a.pr [2] [0,1] [0] r)  h6;refine sc (ec F5 r) hc ?_;rintro _ w6 ⟨rfl,J⟩;replace a:=a.cl [2] [0,1] r J r;try dsimp only [pick,nth,ca,na] at a
  refine n ?_;rcases iv ah with ⟨h7,ah⟩|⟨h7,ah⟩
  ·refine jK (cb h7) (q (qG a [0] [1] [] (by kernel_rfl) ?_));replace a:=a.drew;have hs:=a.ad [0] [1];refine pF 0 r (mp r) hs (pF 1 r (xn r) hs (pF 2 r (Dw r) hs (uF 3 r (fun hS=>TM r (hS.bk 0 r) r) hs (pF 4 r (mp r) hs (pF 5 r (xn r) hs (pF 6 r (nS r) hs (uF 7 r (fun hS=>l3 r (hS.bk 0 r) r) hs (pF 8 r (lu FE qj r r aG (a.dl 1 r) ak) hs (pF 9 r (ME r) hs (tU 10 r (fun _ hS=>kC vg r r ((uE (ds:=[V Q.c,V Q.f,T Q.a,V Q.d]) (hS.dl 0 r) ak (fun _ h=>h)) 2 _ r)) (sF hs) (pF 11 r (mP r) hs (hD (g ?_)))))))))))));refine s (mp r) (s (xn r) (s (nS r) (s (l3 r (a.bk 0 r) r) (s (kN r r) (s (xn r) (s (nS r) (lg (tb a 0 [V (wr (x0.a+1))] r o9 r r r r r (show _=#[Z a5 x0.l a6,V (wr (x0.a+1)),V x0.c,V x0.e] from r)) ?_)))))));intro w8 a;try dsimp only [List.set] at a
   refine n ?_;exact aH _ _ ⟨Q.a,wr (x0.a+1),⟨r,r,r,r,r,y⟩,a.ad [1,2,0] [1],sm ah⟩
  refine jD (wV h7) (wk ?_);exact aH _ _ ⟨(⟨#[]⟩:BA),x0.a,⟨r,r,r,r,r,y⟩,a.ad [1,2,0] [1],sm ah⟩
 clear a;rintro f w ⟨al,am,hf,a,aP⟩;obtain ⟨cO,rfl⟩:=ng hf;subst aP;replace p:=gi p;replace p:=pi p;refine q (q (g (s (lF r) (n (qb (q (g (s (rY r r) (s (kG r) (n ?_))))))))));rcases iv p with ⟨h9,p⟩|⟨h9,p⟩
 ·refine jK (bt h9) (q (g (s (mp r) ?_)));obtain ⟨⟨an,aR⟩,aS,p⟩:=bs p;replace p:=pi p;have hc:=(qO fu) (a.pr [2] [0,1] [0] r)  aS;refine sc (ec EO r) hc ?_;rintro _ bS ⟨rfl,J⟩;replace a:=a.cl [2] [0,1] r J r;try dsimp only [pick,nth,ca,na] at a
  refine s (ze r) (lg (tb a 1 [V 1] r o9 r r r r r (show _=#[V 1,V Q.f,V 0,T be,T be,V 0,V 0,sn,T be,V 0,sn,sn,sn] from r)) ?_);intro bT a;try dsimp only [List.set] at a
  refine s (BD r) (lg (tb a 1 [T an] r pJ r r r r r (show _=#[V 1,V Q.f,V 0,T an,T be,V 0,V 0,sn,T be,V 0,sn,sn,sn] from r)) ?_);intro bU a;try dsimp only [List.set] at a
  refine n (q (g (s (mp r) ?_)));obtain ⟨aT,aU,p⟩:=bs p;have hc:=(lX fu) (a.pr [0] [1,2] [0] r)  aU;refine sc (ec xC r) hc ?_;rintro _ bV ⟨rfl,J⟩;replace a:=a.cl [0] [1,2] r J r;try dsimp only [pick,nth,ca,na] at a
  refine n (q (g (s (mp r) ?_)));replace a:=a.jZ (d:=.l none 0 ([]:List Ge)) oL;replace a:=a.jZ (d:=.l none 0 ([]:List Ge)) oL;replace a:=a.jZ (d:=.l none 0 ([]:List Gs)) oL;replace a:=a.jZ (d:=.l none 0 ([]:List Gs)) oL;obtain ⟨⟨aV,c⟩,aW,p⟩:=bs p;replace p:=pi p;have hc:=(NS fu) (a.pr [0,1] [2] [4,3,2,1,0] r)  aW;refine sc (ec ZO r) hc ?_;rintro _ bW ⟨rfl,J⟩;replace a:=a.cl [0,1] [2] r J r;try dsimp only [pick,nth,ca,na] at a
  refine n (g (s (mp r) ?_));obtain ⟨aX,aY,p⟩:=bs p;have hc:=(lX fu) (a.pr [0] [1,2] [0] r)  aY;refine sc (ec xC r) hc ?_;rintro _ bX ⟨rfl,J⟩;replace a:=a.cl [0] [1,2] r J r;try dsimp only [pick,nth,ca,na] at a
  refine n (q (g (s (jQ [V c.c,V c.f,V c.n,T c.b,T c.j,V c.m,V c.g,Z none c.d 0,T c.k,V c.h,Z none c.a 0,Z none c.e 0,Z none c.i 0] mh r jR r r (Cells.part (a.bk 1 r).cells (o2:=0) r)) (lg (tb a 2 [V c.c,V c.f,V c.n,T c.b,T c.j,V c.m,V c.g,Z none c.d 0,T c.k,V c.h,Z none c.a 0,Z none c.e 0,Z none c.i 0] r jR r r r r r (show _=#[V c.c,V c.f,V c.n,T c.b,T c.j,V c.m,V c.g,Z none c.d 0,T c.k,V c.h,Z none c.a 0,Z none c.e 0,Z none c.i 0] from r)) ?_))));intro bY a;try dsimp only [List.set] at a
  refine n (lS ?_);obtain rfl:=sm p;refine jI r (tH r mh r jR r (a.bk 2 r)) ?_;exact mZ (⟨none,0,none,0,none,0,none,0,r,a.ad [0] [2,3,4,5,0]⟩)
 refine jD (bf h9) (q (g (s (rY r r) (s (kG r) (n ?_)))));rcases iv p with ⟨ar,p⟩|⟨ar,p⟩
 ·refine jK (bt ar) (q (g (s (mp r) ?_)));obtain ⟨⟨v,aZ⟩,b0,p⟩:=bs p;replace p:=pi p;have hc:=(rG fu) (a.pr [2] [0,1] [0] r)  b0;refine sc (ec CZ r) hc ?_;rintro _ bZ ⟨ab,ac,rfl,J⟩;replace a:=a.cl [2] [0,1] r J r;try dsimp only [pick,nth,ca,na] at a
  refine l5 (jM a [[V v.e,V v.d,V v.g,T v.b,T v.c,Z ab v.a ac]] ([v]:List Ge) (kX r) r r (by decide) ⟨jA.inn ⟨ab,ac,r,a.dl 0 r⟩,y⟩) ?_;rintro _ c0 ⟨a1,rfl,a⟩;refine s (ze r) (lg (tb a 2 [V 4] r o9 r r r r r (show _=#[V 4,V Q.f,V 0,T be,T be,V 0,V 0,sn,T be,V 0,sn,sn,sn] from r)) ?_);intro c1 a;try dsimp only [List.set] at a
  refine s (vF r) (lg (tb a 2 [.slice (ad a1) ([v]:List Ge).length 1] r vY r r r r r (show _=#[V 4,V Q.f,V 0,T be,T be,V 0,V 0,sn,T be,V 0,.slice (ad a1) ([v]:List Ge).length 1,sn,sn] from r)) ?_);intro c2 a;try dsimp only [List.set] at a
  refine n (q (g (s (mp r) (s (mi r) (s (kN r r) ?_)))));obtain ⟨⟨B,b2,a7⟩,b4,p⟩:=bs p;replace p:=pi p;replace p:=pi p;have hc:=H_r03_block (a.pr [1] [0,2,3] [2] r)  b4;refine sc (ec LK r) hc ?_;rintro _ c3 ⟨t,u,aB,rfl,J⟩;have ag:=a.sS.size;replace a:=a.cl [1] [0,2,3] r J r;try dsimp only [pick,nth,ca,na] at a
  replace a:=a.DF 0 w0.heap.size r ag;try dsimp only [List.set] at a
  refine s vX (s (kF r r) (s (kF r r) (s (yx r) (lg (tb a 3 [Z t B u] r Co r r r r r (show _=#[V 4,V Q.f,V 0,T be,T be,V 0,V 0,sn,T be,V 0,.slice (ad a1) ([v]:List Ge).length 1,Z t B u,sn] from r)) ?_))));intro c4 a;try dsimp only [List.set] at a
  refine n (q (g (s (mp r) (s (xn r) (s (vW r) (s (EM r (a.bk 1 r) r) (s (kH r r) (s (lI r) ?_))))))));rcases iv p with ⟨au,p⟩|⟨au,p⟩
  ·rw [uD au];refine kL r (s (mp r) ?_);obtain ⟨b5,b6,p⟩:=bs p;refine kL r ?_;have hc:=(nC fu) (a.pr [1] [0,2,3,4] [1] r)  b6;refine sc (ec wL r) hc ?_;rintro _ c5 ⟨rfl,J⟩;replace a:=a.cl [1] [0,2,3,4] r J r;try dsimp only [pick,nth,ca,na] at a
   refine s (kU r r) (n ?_);rcases iv p with ⟨ao,p⟩|⟨ao,p⟩
   ·refine jK (cb ao) (q (g (s (mp r) (s (xn r) (s (nS r) (s (l3 r (a.bk 0 r) r) (s (kN r r) (s (xn r) (s (nS r) (lg (tb a 0 [V (wr (a7.a+1))] r o9 r r r r r (show _=#[Z a5 a7.l a6,V (wr (a7.a+1)),V a7.c,V a7.e] from r)) ?_))))))))));intro c6 a;try dsimp only [List.set] at a
    refine n (g (s (mp r) (s (mi r) (s (kN r r) ?_))));obtain ⟨⟨a8,b7,b8⟩,b9,p⟩:=bs p;replace p:=pi p;replace p:=pi p;have hc:=H_r03_block (a.pr [0] [1,2,3,4] [2] r)  b9;refine sc (ec LK r) hc ?_;rintro _ c7 ⟨C,D,aC,rfl,J⟩;have ag:=a.sS.size;replace a:=a.cl [0] [1,2,3,4] r J r;try dsimp only [pick,nth,ca,na] at a
    replace a:=a.DF 0 w0.heap.size r ag;try dsimp only [List.set] at a
    refine s vX (s (kF r r) (s (kF r r) (s (xU r) (lg (tb a 4 [Z C a8 D] r Co r r r r r (show _=#[V 4,V Q.f,V 0,T be,T be,V 0,V 0,sn,T be,V 0,.slice (ad a1) ([v]:List Ge).length 1,Z t B u,Z C a8 D] from r)) ?_))));intro c8 a;try dsimp only [List.set] at a
    refine n (q (g (s (jQ [V 4,V Q.f,V 0,T be,T be,V 0,V 0,sn,T be,V 0,.slice (ad a1) ([v]:List Ge).length 1,Z t B u,Z C a8 D] mh r jR r r (Cells.part (a.bk 4 r).cells (o2:=0) r)) (lg (tb a 5 [V 4,V Q.f,V 0,T be,T be,V 0,V 0,sn,T be,V 0,.slice (ad a1) ([v]:List Ge).length 1,Z t B u,Z C a8 D] r jR r r r r r (show _=#[V 4,V Q.f,V 0,T be,T be,V 0,V 0,sn,T be,V 0,.slice (ad a1) ([v]:List Ge).length 1,Z t B u,Z C a8 D] from r)) ?_))));intro c9 a;try dsimp only [List.set] at a
    refine n (lS ?_);replace a:=a.sV 3 5 r r;try dsimp only [List.eraseIdx] at a
    replace a:=a.sV 2 4 r r;try dsimp only [List.eraseIdx] at a
    replace a:=a.sV 0 2 r r;try dsimp only [List.eraseIdx] at a
    replace a:=a.jZ (d:=.l none 0 ([]:List Ge)) oL;obtain rfl:=sm p;refine jI r (tH r mh r jR r (a.bk 2 r)) ?_;exact mZ (⟨none,0,ad a1,1,t,u,C,D,r,a.ad [0] [0,3,2,1,4]⟩)
   refine jD (wV ao) (wk (q (g (s (jQ [V 4,V Q.f,V 0,T be,T be,V 0,V 0,sn,T be,V 0,.slice (ad a1) ([v]:List Ge).length 1,Z t B u,sn] mh r jR r r (Cells.part (a.bk 3 r).cells (o2:=0) r)) (lg (tb a 4 [V 4,V Q.f,V 0,T be,T be,V 0,V 0,sn,T be,V 0,.slice (ad a1) ([v]:List Ge).length 1,Z t B u,sn] r jR r r r r r (show _=#[V 4,V Q.f,V 0,T be,T be,V 0,V 0,sn,T be,V 0,.slice (ad a1) ([v]:List Ge).length 1,Z t B u,sn] from r)) ?_)))));intro cc a;try dsimp only [List.set] at a
   refine n (lS ?_);replace a:=a.sV 2 3 r r;try dsimp only [List.eraseIdx] at a
   replace a:=a.sV 1 2 r r;try dsimp only [List.eraseIdx] at a
   replace a:=a.jZ (d:=.l none 0 ([]:List Ge)) oL;replace a:=a.jZ (d:=.l none 0 ([]:List Gs)) oL;obtain rfl:=sm p;refine jI r (tH r mh r jR r (a.bk 2 r)) ?_;exact mZ (⟨none,0,ad a1,1,t,u,none,0,r,a.ad [0] [1,3,2,0,5]⟩)
  rw [uL au];refine ko r (ko r (s (kI r r) (n (jD r (wk (q (g (s (jQ [V 4,V Q.f,V 0,T be,T be,V 0,V 0,sn,T be,V 0,.slice (ad a1) ([v]:List Ge).length 1,Z t B u,sn] mh r jR r r (Cells.part (a.bk 3 r).cells (o2:=0) r)) (lg (tb a 4 [V 4,V Q.f,V 0,T be,T be,V 0,V 0,sn,T be,V 0,.slice (ad a1) ([v]:List Ge).length 1,Z t B u,sn] r jR r r r r r (show _=#[V 4,V Q.f,V 0,T be,T be,V 0,V 0,sn,T be,V 0,.slice (ad a1) ([v]:List Ge).length 1,Z t B u,sn] from r)) ?_)))))))));intro cd a;try dsimp only [List.set] at a
  refine n (lS ?_);replace a:=a.sV 2 2 r r;try dsimp only [List.eraseIdx] at a
  replace a:=a.sV 0 1 r r;try dsimp only [List.eraseIdx] at a
  replace a:=a.jZ (d:=.l none 0 ([]:List Ge)) oL;replace a:=a.jZ (d:=.l none 0 ([]:List Gs)) oL;obtain rfl:=sm p;refine jI r (tH r mh r jR r (a.bk 2 r)) ?_;exact mZ (⟨none,0,ad a1,1,t,u,none,0,r,a.ad [0] [1,3,2,0,4]⟩)
 refine jD (bf ar) (q (g (s (rY r r) (s (kG r) (n ?_)))));rcases iv p with ⟨av,p⟩|⟨av,p⟩
 ·refine jK (bt av) (q (g (s (mp r) ?_)));obtain ⟨⟨A,ba⟩,bb,p⟩:=bs p;replace p:=pi p;have hc:=(rG fu) (a.pr [2] [0,1] [0] r)  bb;refine sc (ec CZ r) hc ?_;rintro _ ce ⟨ae,af,rfl,J⟩;replace a:=a.cl [2] [0,1] r J r;try dsimp only [pick,nth,ca,na] at a
  refine l5 (jM a [[V A.e,V A.d,V A.g,T A.b,T A.c,Z ae A.a af]] ([A]:List Ge) (kX r) r r (by decide) ⟨jA.inn ⟨ae,af,r,a.dl 0 r⟩,y⟩) ?_;rintro _ cg ⟨aj,rfl,a⟩;refine s (ze r) (lg (tb a 2 [V 5] r o9 r r r r r (show _=#[V 5,V Q.f,V 0,T be,T be,V 0,V 0,sn,T be,V 0,sn,sn,sn] from r)) ?_);intro ch a;try dsimp only [List.set] at a
  refine s (vF r) (lg (tb a 2 [.slice (ad aj) ([A]:List Ge).length 1] r vY r r r r r (show _=#[V 5,V Q.f,V 0,T be,T be,V 0,V 0,sn,T be,V 0,.slice (ad aj) ([A]:List Ge).length 1,sn,sn] from r)) ?_);intro ci a;try dsimp only [List.set] at a
  refine n (g (s (mp r) (s (mi r) (s (kN r r) ?_))));obtain ⟨⟨a9,bc,bd⟩,bg,p⟩:=bs p;replace p:=pi p;replace p:=pi p;have hc:=H_r03_block (a.pr [1] [0,2,3] [2] r)  bg;refine sc (ec LK r) hc ?_;rintro _ cj ⟨E,F,aD,rfl,J⟩;have ag:=a.sS.size;replace a:=a.cl [1] [0,2,3] r J r;try dsimp only [pick,nth,ca,na] at a
  replace a:=a.DF 0 w0.heap.size r ag;try dsimp only [List.set] at a
  refine s vX (s (kF r r) (s (kF r r) (s (yx r) (lg (tb a 3 [Z E a9 F] r Co r r r r r (show _=#[V 5,V Q.f,V 0,T be,T be,V 0,V 0,sn,T be,V 0,.slice (ad aj) ([A]:List Ge).length 1,Z E a9 F,sn] from r)) ?_))));intro ck a;try dsimp only [List.set] at a
  refine n (q (g (s (jQ [V 5,V Q.f,V 0,T be,T be,V 0,V 0,sn,T be,V 0,.slice (ad aj) ([A]:List Ge).length 1,Z E a9 F,sn] mh r jR r r (Cells.part (a.bk 3 r).cells (o2:=0) r)) (lg (tb a 4 [V 5,V Q.f,V 0,T be,T be,V 0,V 0,sn,T be,V 0,.slice (ad aj) ([A]:List Ge).length 1,Z E a9 F,sn] r jR r r r r r (show _=#[V 5,V Q.f,V 0,T be,T be,V 0,V 0,sn,T be,V 0,.slice (ad aj) ([A]:List Ge).length 1,Z E a9 F,sn] from r)) ?_))));intro cm a;try dsimp only [List.set] at a
  refine n (lS ?_);replace a:=a.sV 2 2 r r;try dsimp only [List.eraseIdx] at a
  replace a:=a.sV 0 1 r r;try dsimp only [List.eraseIdx] at a
  replace a:=a.jZ (d:=.l none 0 ([]:List Ge)) oL;replace a:=a.jZ (d:=.l none 0 ([]:List Gs)) oL;obtain rfl:=sm p;refine jI r (tH r mh r jR r (a.bk 2 r)) ?_;exact mZ (⟨none,0,ad aj,1,E,F,none,0,r,a.ad [0] [1,3,2,0,4]⟩)
 refine jD (bf av) (q (g (s (rY r r) (s (kG r) (n ?_)))));rcases iv p with ⟨aw,p⟩|⟨aw,p⟩
 ·refine jK (bt aw) (q (g (s (ze r) (lg (tb a 0 [V 8] r o9 r r r r r (show _=#[V 8,V Q.f,V 0,T be,T be,V 0,V 0,sn,T be,V 0,sn,sn,sn] from r)) ?_))));intro cn a;try dsimp only [List.set] at a
  refine n (q (g (s (mp r) (s (mi r) (s (kN r r) ?_)))));obtain ⟨⟨a2,bh,bi⟩,bj,p⟩:=bs p;replace p:=pi p;replace p:=pi p;have hc:=H_r03_block (a.pr [2] [0,1] [0] r)  bj;refine sc (ec LK r) hc ?_;rintro _ co ⟨x,z,aE,rfl,J⟩;have ag:=a.sS.size;replace a:=a.cl [2] [0,1] r J r;try dsimp only [pick,nth,ca,na] at a
  replace a:=a.DF 0 w0.heap.size r ag;try dsimp only [List.set] at a
  refine s vX (s (kF r r) (s (kF r r) (s (yx r) (lg (tb a 2 [Z x a2 z] r Co r r r r r (show _=#[V 8,V Q.f,V 0,T be,T be,V 0,V 0,sn,T be,V 0,sn,Z x a2 z,sn] from r)) ?_))));intro TH a;try dsimp only [List.set] at a
  refine n (q (g (s (mp r) ?_)));obtain ⟨bl,bm,p⟩:=bs p;have hc:=(lX fu) (a.pr [1] [0,2,3] [1] r)  bm;refine sc (ec xC r) hc ?_;rintro _ cp ⟨rfl,J⟩;replace a:=a.cl [1] [0,2,3] r J r;try dsimp only [pick,nth,ca,na] at a
  refine n (q (g (s (mp r) ?_)));obtain ⟨⟨a4,bn⟩,bo,p⟩:=bs p;replace p:=pi p;have hc:=(qO fu) (a.pr [0] [1,2,3] [0] r)  bo;refine sc (ec EO r) hc ?_;rintro _ cq ⟨rfl,J⟩;replace a:=a.cl [0] [1,2,3] r J r;try dsimp only [pick,nth,ca,na] at a
  refine s (BD r) (lg (tb a 2 [T a4] r pJ r r r r r (show _=#[V 8,V Q.f,V 0,T a4,T be,V 0,V 0,sn,T be,V 0,sn,Z x a2 z,sn] from r)) ?_);intro cr a;try dsimp only [List.set] at a
  refine n (g (s (mp r) (s (mi r) (s (kN r r) ?_))));obtain ⟨⟨aa,bp,bq⟩,br,p⟩:=bs p;replace p:=pi p;replace p:=pi p;have hc:=H_r03_block (a.pr [0] [1,2,3] [0] r)  br;refine sc (ec LK r) hc ?_;rintro _ ct ⟨H,I,aF,rfl,J⟩;have ag:=a.sS.size;replace a:=a.cl [0] [1,2,3] r J r;try dsimp only [pick,nth,ca,na] at a
  replace a:=a.DF 0 w0.heap.size r ag;try dsimp only [List.set] at a
  refine s vX (s (kF r r) (s (kF r r) (s (xU r) (lg (tb a 3 [Z H aa I] r Co r r r r r (show _=#[V 8,V Q.f,V 0,T a4,T be,V 0,V 0,sn,T be,V 0,sn,Z x a2 z,Z H aa I] from r)) ?_))));intro cu a;try dsimp only [List.set] at a
  refine n (q (g (s (jQ [V 8,V Q.f,V 0,T a4,T be,V 0,V 0,sn,T be,V 0,sn,Z x a2 z,Z H aa I] mh r jR r r (Cells.part (a.bk 3 r).cells (o2:=0) r)) (lg (tb a 4 [V 8,V Q.f,V 0,T a4,T be,V 0,V 0,sn,T be,V 0,sn,Z x a2 z,Z H aa I] r jR r r r r r (show _=#[V 8,V Q.f,V 0,T a4,T be,V 0,V 0,sn,T be,V 0,sn,Z x a2 z,Z H aa I] from r)) ?_))));intro cv a;try dsimp only [List.set] at a
  refine n (lS ?_);replace a:=a.sV 2 4 r r;try dsimp only [List.eraseIdx] at a
  replace a:=a.sV 0 1 r r;try dsimp only [List.eraseIdx] at a
  replace a:=a.jZ (d:=.l none 0 ([]:List Ge)) oL;replace a:=a.jZ (d:=.l none 0 ([]:List Ge)) oL;obtain rfl:=sm p;refine jI r (tH r mh r jR r (a.bk 2 r)) ?_;exact mZ (⟨none,0,none,0,x,z,H,I,r,a.ad [0] [1,0,3,2,4]⟩)
 refine jD (bf aw) (q (g (s (rY r r) (s (kG r) (n ?_)))));rcases iv p with ⟨ax,p⟩|⟨ax,p⟩
 ·refine jK (bt ax) (q (g (s (ze r) (lg (tb a 0 [V 6] r o9 r r r r r (show _=#[V 6,V Q.f,V 0,T be,T be,V 0,V 0,sn,T be,V 0,sn,sn,sn] from r)) ?_))));intro cw a;try dsimp only [List.set] at a
  refine n (q (g (s (mp r) ?_)));replace a:=a.jZ (d:=.l none 0 ([]:List Ge)) oL;replace a:=a.jZ (d:=.l none 0 ([]:List Ge)) oL;replace a:=a.jZ (d:=.l none 0 ([]:List Gs)) oL;replace a:=a.jZ (d:=.l none 0 ([]:List Gs)) oL;obtain ⟨⟨bu,j⟩,bv,p⟩:=bs p;replace p:=pi p;have hc:=(xV fu) (a.pr [2,0] [1] [4,3,2,1,0] r)  bv;refine sc (ec JB r) hc ?_;rintro _ cx ⟨S,U,rfl,J⟩;replace a:=a.cl [2,0] [1] r J r;try dsimp only [pick,nth,ca,na] at a
  refine n (g (s (mp r) ?_));obtain ⟨bw,bz,p⟩:=bs p;have hc:=(lX fu) (a.pr [0] [1,2] [0] r)  bz;refine sc (ec xC r) hc ?_;rintro _ cy ⟨rfl,J⟩;replace a:=a.cl [0] [1,2] r J r;try dsimp only [pick,nth,ca,na] at a
  refine n (q (g (s (jQ [V j.c,V j.f,V j.n,T j.b,T j.j,V j.m,V j.g,Z none j.d 0,T j.k,V j.h,Z S j.a U,Z none j.e 0,Z none j.i 0] mh r jR r r (Cells.part (a.bk 1 r).cells (o2:=0) r)) (lg (tb a 2 [V j.c,V j.f,V j.n,T j.b,T j.j,V j.m,V j.g,Z none j.d 0,T j.k,V j.h,Z S j.a U,Z none j.e 0,Z none j.i 0] r jR r r r r r (show _=#[V j.c,V j.f,V j.n,T j.b,T j.j,V j.m,V j.g,Z none j.d 0,T j.k,V j.h,Z S j.a U,Z none j.e 0,Z none j.i 0] from r)) ?_))));intro cz a;try dsimp only [List.set] at a
  refine n (lS ?_);obtain rfl:=sm p;refine jI r (tH r mh r jR r (a.bk 2 r)) ?_;exact mZ (⟨none,0,S,U,none,0,none,0,r,a.ad [0] [2,3,4,5,0]⟩)
 refine jD (bf ax) (q (g (s (rY r r) (s (kG r) (n ?_)))));rcases iv p with ⟨ay,p⟩|⟨ay,p⟩
 ·refine jK (bt ay) (q (g (s (ze r) (lg (tb a 0 [V 7] r o9 r r r r r (show _=#[V 7,V Q.f,V 0,T be,T be,V 0,V 0,sn,T be,V 0,sn,sn,sn] from r)) ?_))));intro cA a;try dsimp only [List.set] at a
  refine n (q (g (s (mp r) ?_)));replace a:=a.jZ (d:=.l none 0 ([]:List Ge)) oL;replace a:=a.jZ (d:=.l none 0 ([]:List Ge)) oL;replace a:=a.jZ (d:=.l none 0 ([]:List Gs)) oL;replace a:=a.jZ (d:=.l none 0 ([]:List Gs)) oL;obtain ⟨⟨bA,m⟩,bB,p⟩:=bs p;replace p:=pi p;have hc:=(xV fu) (a.pr [2,0] [1] [4,3,2,1,0] r)  bB;refine sc (ec JB r) hc ?_;rintro _ cB ⟨W,X,rfl,J⟩;replace a:=a.cl [2,0] [1] r J r;try dsimp only [pick,nth,ca,na] at a
  refine n (g (s (mp r) ?_));obtain ⟨bC,bD,p⟩:=bs p;have hc:=(lX fu) (a.pr [0] [1,2] [0] r)  bD;refine sc (ec xC r) hc ?_;rintro _ cC ⟨rfl,J⟩;replace a:=a.cl [0] [1,2] r J r;try dsimp only [pick,nth,ca,na] at a
  refine n (q (g (s (jQ [V m.c,V m.f,V m.n,T m.b,T m.j,V m.m,V m.g,Z none m.d 0,T m.k,V m.h,Z W m.a X,Z none m.e 0,Z none m.i 0] mh r jR r r (Cells.part (a.bk 1 r).cells (o2:=0) r)) (lg (tb a 2 [V m.c,V m.f,V m.n,T m.b,T m.j,V m.m,V m.g,Z none m.d 0,T m.k,V m.h,Z W m.a X,Z none m.e 0,Z none m.i 0] r jR r r r r r (show _=#[V m.c,V m.f,V m.n,T m.b,T m.j,V m.m,V m.g,Z none m.d 0,T m.k,V m.h,Z W m.a X,Z none m.e 0,Z none m.i 0] from r)) ?_))));intro cD a;try dsimp only [List.set] at a
  refine n (lS ?_);obtain rfl:=sm p;refine jI r (tH r mh r jR r (a.bk 2 r)) ?_;exact mZ (⟨none,0,W,X,none,0,none,0,r,a.ad [0] [2,3,4,5,0]⟩)
 refine jD (bf ay) (q (g (s (rY r r) (s (kG r) (n ?_)))));rcases iv p with ⟨az,p⟩|⟨az,p⟩
 ·refine jK (bt az) (q (g (s (ze r) (lg (tb a 0 [V 9] r o9 r r r r r (show _=#[V 9,V Q.f,V 0,T be,T be,V 0,V 0,sn,T be,V 0,sn,sn,sn] from r)) ?_))));intro cE a;try dsimp only [List.set] at a
  refine n (q (g (s (mp r) ?_)));replace a:=a.jZ (d:=.l none 0 ([]:List Ge)) oL;replace a:=a.jZ (d:=.l none 0 ([]:List Ge)) oL;replace a:=a.jZ (d:=.l none 0 ([]:List Gs)) oL;replace a:=a.jZ (d:=.l none 0 ([]:List Gs)) oL;obtain ⟨⟨bE,o⟩,bF,p⟩:=bs p;replace p:=pi p;have hc:=(xV fu) (a.pr [2,0] [1] [4,3,2,1,0] r)  bF;refine sc (ec JB r) hc ?_;rintro _ cF ⟨Y,a0,rfl,J⟩;replace a:=a.cl [2,0] [1] r J r;try dsimp only [pick,nth,ca,na] at a
  refine n (g (s (mp r) ?_));obtain ⟨aM,aJ,p⟩:=bs p;have hc:=(lX fu) (a.pr [0] [1,2] [0] r)  aJ;refine sc (ec xC r) hc ?_;rintro _ bL ⟨rfl,J⟩;replace a:=a.cl [0] [1,2] r J r;try dsimp only [pick,nth,ca,na] at a
  refine n (q (g (s (jQ [V o.c,V o.f,V o.n,T o.b,T o.j,V o.m,V o.g,Z none o.d 0,T o.k,V o.h,Z Y o.a a0,Z none o.e 0,Z none o.i 0] mh r jR r r (Cells.part (a.bk 1 r).cells (o2:=0) r)) (lg (tb a 2 [V o.c,V o.f,V o.n,T o.b,T o.j,V o.m,V o.g,Z none o.d 0,T o.k,V o.h,Z Y o.a a0,Z none o.e 0,Z none o.i 0] r jR r r r r r (show _=#[V o.c,V o.f,V o.n,T o.b,T o.j,V o.m,V o.g,Z none o.d 0,T o.k,V o.h,Z Y o.a a0,Z none o.e 0,Z none o.i 0] from r)) ?_))));intro bM a;try dsimp only [List.set] at a
  refine n (lS ?_);obtain rfl:=sm p;refine jI r (tH r mh r jR r (a.bk 2 r)) ?_;exact mZ (⟨none,0,Y,a0,none,0,none,0,r,a.ad [0] [2,3,4,5,0]⟩)
 refine jD (bf az) (q (g (s (mp r) ?_)));replace a:=a.jZ (d:=.l none 0 ([]:List Ge)) oL;replace a:=a.jZ (d:=.l none 0 ([]:List Ge)) oL;replace a:=a.jZ (d:=.l none 0 ([]:List Gs)) oL;replace a:=a.jZ (d:=.l none 0 ([]:List Gs)) oL;obtain ⟨⟨aN,b⟩,aK,p⟩:=bs p;replace p:=pi p;have hc:=(KL fu) (a.pr [2,0] [1] [4,3,2,1,0] r)  aK;refine sc (ec aaW r) hc ?_;rintro _ bN ⟨K,L,M,N,rfl,J⟩;replace a:=a.cl [2,0] [1] r J r;try dsimp only [pick,nth,ca,na] at a
 refine n (g (s (mp r) ?_));obtain ⟨aO,aL,p⟩:=bs p;have hc:=(lX fu) (a.pr [0] [1,2] [0] r)  aL;refine sc (ec xC r) hc ?_;rintro _ bO ⟨rfl,J⟩;replace a:=a.cl [0] [1,2] r J r;try dsimp only [pick,nth,ca,na] at a
 refine n (q (g (s (jQ [V b.c,V b.f,V b.n,T b.b,T b.j,V b.m,V b.g,Z K b.d L,T b.k,V b.h,Z M b.a N,Z none b.e 0,Z none b.i 0] mh r jR r r (Cells.part (a.bk 1 r).cells (o2:=0) r)) (lg (tb a 2 [V b.c,V b.f,V b.n,T b.b,T b.j,V b.m,V b.g,Z K b.d L,T b.k,V b.h,Z M b.a N,Z none b.e 0,Z none b.i 0] r jR r r r r r (show _=#[V b.c,V b.f,V b.n,T b.b,T b.j,V b.m,V b.g,Z K b.d L,T b.k,V b.h,Z M b.a N,Z none b.e 0,Z none b.i 0] from r)) ?_))));intro bP a;try dsimp only [List.set] at a
 refine n (lS ?_);obtain rfl:=sm p;refine jI r (tH r mh r jR r (a.bk 2 r)) ?_;exact mZ (⟨K,L,M,N,none,0,none,0,r,a.ad [0] [2,3,4,5,0]⟩)
theorem KS (fu:Nat):xL (xk fu)/\vR (wT fu):=by
 induction fu with
 | zero=>exact ⟨by intro a b;intros;(try intro _);intros;exact nn (by assumption),by intro a b;intros;(try intro _);intros;exact nn (by assumption)⟩
 | succ fu ih=>exact ⟨ML fu (xk fu) (wT fu) ih.1 ih.2,Hl fu (xk fu) (wT fu) ih.1 ih.2⟩
theorem Ng (fu:Nat):xL (xk fu):=(KS fu).1
def Jj (m:gP->Option (jV × gP)):Prop:=∀ {p t}{j:gP}{k a b R},(fun L=>Pre p t L [.l a b j.l]->m j=some R-> Calls prog 28 #[Pt k] p (sW fun v w=>jy R fun o c=>∃ (d:OA)(f:Nat)(h:OA)(i:Nat),v=.agg #[Z d o.a f,Z h o.b i]/\Bx p w t (mQ L) [.box k 99 #[Z a c.l b,V c.a,V c.c,V c.e]] [.l d f o.a,.l h i o.b,.l a b c.l])) [.box k 99 #[Z a j.l b,V j.a,V j.c,V j.e]]
def qQ (fu:Nat):Nat→(List Gr)→(List kg)→Int→Int→Int→Option (Ld (List Gr × List kg × Int × Int × Int) (jV × gP))
 | 0,_,_,_,_,_=>none
 | u+1,h,c,d,f,b=>
 if b=0 then
  (mM fu (⟨c,d,f,b⟩:gP) 0 (⟨#[114,101,99,111,114,100]⟩:BA)).bind fun m=>
  if m=true then
   (oV fu (⟨c,wr (d+1),f,b⟩:gP)).bind fun v=>
   jy v fun o p=>
   (lT fu p (⟨#[123]⟩:BA)).bind fun i=>
   (xq fu i).bind fun v=>
   jy v fun j k=>
   (lT fu k (⟨#[125]⟩:BA)).bind fun a=>
   (app h ([(⟨o,j⟩:Gr)]:List Gr)).bind fun t=>
   qQ fu u t a.l a.a a.c a.e
  else
   some (.go (h,c,d,f,b))
 else
  some (.go (h,c,d,f,b))
def vP (fu:Nat)(a:gP):Option (Ld (List BA × List kg × Int × Int × Int) (jV × gP)):=if a.e=0 then (mM fu a 0 (⟨#[41]⟩:BA)).bind fun c=>if (!c)=true then (xq fu a).bind fun f=>jy f fun d b=>some (.go (d,b.l,b.a,b.c,b.e)) else some (.go (([]:List BA),a.l,a.a,a.c,a.e)) else some (.go (([]:List BA),a.l,a.a,a.c,a.e))
def qR (fu:Nat):Nat→(List Gn)→(List kg)→Int→Int→Int→Option (Ld (List Gn × List kg × Int × Int × Int) (jV × gP))
 | 0,_,_,_,_,_=>none
 | B+1,h,a,b,d,c=>
 if c=0 then
  (mM fu (⟨a,b,d,c⟩:gP) 0 (⟨#[102,117,110,99]⟩:BA)).bind fun i=>
  if i=true then
   (ix a b).bind fun C=>
   (oV fu (⟨a,wr (b+1),d,c⟩:gP)).bind fun F=>
   jy F fun j k=>
   (lT fu k (⟨#[40]⟩:BA)).bind fun m=>
   (vP fu m).bind fun F=>F.el (fun F=>
   jy F fun p F=>jy F fun t F=>jy F fun u F=>jy F fun v w=>
   (lT fu (⟨t,u,v,w⟩:gP) (⟨#[41]⟩:BA)).bind fun x=>
   (xk fu x 1).bind fun F=>
   jy F fun z F=>jy F fun A f=>
   (app z ([(⟨10,A,0,be,be,0,0,([]:List Ge),be,0,([]:List Ge),([]:List Gs),([]:List Gs)⟩:Gs)]:List Gs)).bind fun D=>
   (app h ([(⟨j,C.f,p,D⟩:Gn)]:List Gn)).bind fun E=>
   qR fu B E f.l f.a f.c f.e
   ) (fun o=>some (.out o))
  else
   some (.go (h,a,b,d,c))
 else
  some (.go (h,a,b,d,c))
def wG (fu:Nat)(u:gP):Option (jV × gP):=(qQ fu fu ([]:List Gr) u.l u.a u.c u.e).bind fun v=>v.el (fun v=>jy v fun h v=>jy v fun k v=>jy v fun m v=>jy v fun p t=>(qR fu fu ([]:List Gn) k m p t).bind fun v=>v.el (fun v=>jy v fun f v=>jy v fun b v=>jy v fun c v=>jy v fun d a=>if a=0 then (pO fu (⟨b,c,d,a⟩:gP) 0 0).bind fun i=>if (!i)=true then (pK fu (⟨b,c,d,a⟩:gP) 7).bind fun j=>some ((⟨h,f⟩:jV),j) else some ((⟨h,f⟩:jV),(⟨b,c,d,a⟩:gP)) else some ((⟨h,f⟩:jV),(⟨b,c,d,a⟩:gP))) (fun o=>some o)) (fun o=>some o)
theorem Ka (fu:Nat):Jj (wG fu):=by
 intro w0 cw x0 a2 x z R hP L;unfold wG at L;have a:=hP.bx;clear hP;generalize hG:mQ _=G at a ⊢;refine cf func28 r ?_;refine lH [(0,Pt a2)] ⟨r,y⟩ fun cx=>?_;refine q (g (l5 (kD a (jP uz)) ?_));rintro _ w1 ⟨b1,rfl,a⟩;refine n (q (g (l5 (kD a (jP uz)) ?_)));rintro _ w2 ⟨b2,rfl,a⟩;refine n (q ?_);replace a:=a.EK Gr 143;obtain ⟨Y3,u,L⟩:=bs L;refine oD (fun f w=>∃ (p:List Gr)(j:OA)(m:Nat)(t:LV)(F:List kg)(M N Q:Int),Has f [(0,Pt a2),(2,Pt b1),(3,Pt b2)]/\Bx w0 w cw G [O w0.heap.size j m 143 Gr t,.box b2 26 #[Z j p m,sn],.box b1 26 #[sn,sn],.box a2 99 #[Z x F z,V M,V N,V Q]] [.l x z F,.els t p]/\Ld.go (p,F,M,N,Q)=Y3) (fun J3 aM=>?_) ?_
 ·refine qb (kM (fun cy f w=>∃ (p:List Gr)(j:OA)(m:Nat)(t:LV)(F:List kg)(M N Q:Int),Has f [(0,Pt a2),(2,Pt b1),(3,Pt b2)]/\Bx w0 w cw G [O w0.heap.size j m 143 Gr t,.box b2 26 #[Z j p m,sn],.box b1 26 #[sn,sn],.box a2 99 #[Z x F z,V M,V N,V Q]] [.l x z F,.els t p]/\qQ fu cy p F M N Q=some Y3) fu ⟨([]:List Gr),none,0,[],x0.l,x0.a,x0.c,x0.e,⟨r,r,r,y⟩,a.dp [1,0],u⟩ ?_);clear a u;rintro n3 f w ⟨p,j,m,t,F,M,N,Q,hf,a,u⟩ K3 aZ;obtain ⟨cx,rfl⟩:=ng hf;cases n3 with
  | zero=>exact nn u
  | succ n3=>
   rw [qQ] at u;refine q (q (g (s (mp r) (s (xn r) (s (vW r) (s (EM r (a.bk 3 r) r) (s (kH r r) (s (lI r) ?_))))))));rcases iv u with ⟨h5,u⟩|⟨h5,u⟩
   ·rw [uD h5];refine kL r (s (mp r) ?_);obtain ⟨bB,h6,u⟩:=bs u;refine kL r ?_;have hc:=(nC fu) (a.pr [3] [0,1,2] [0] r)  h6;refine sc (ec wL r) hc ?_;rintro _ w6 ⟨rfl,X⟩;replace a:=a.cl [3] [0,1,2] r X r;try dsimp only [pick,nth,ca,na] at a
    refine s (kU r r) (n ?_);rcases iv u with ⟨h7,u⟩|⟨h7,u⟩
    ·refine jK (cb h7) (wk (qb (q (g (s (mp r) (s (xn r) (s (nS r) (s (l3 r (a.bk 0 r) r) (s (kN r r) (s (xn r) (s (nS r) (lg (tb a 0 [V (wr (M+1))] r o9 r r r r r (show _=#[Z x F z,V (wr (M+1)),V N,V Q] from r)) ?_))))))))))));intro w8 a;try dsimp only [List.set] at a
     refine n (q (g (s (mp r) ?_)));obtain ⟨⟨a4,bC⟩,h9,u⟩:=bs u;replace u:=pi u;have hc:=(qO fu) (a.pr [0] [1,2,3] [1] r)  h9;refine sc (ec EO r) hc ?_;rintro _ w9 ⟨rfl,X⟩;replace a:=a.cl [0] [1,2,3] r X r;try dsimp only [pick,nth,ca,na] at a
     refine s (WW r) (l5 (kD a (jP yE)) ?_);rintro _ bF ⟨bG,rfl,a⟩;refine lg (tb a 0 [T a4,sn] r yE r r r r r (show _=#[T a4,sn] from r)) ?_;intro bH a;try dsimp only [List.set] at a
     refine n (q (g (s (mp r) ?_)));obtain ⟨b3,b4,u⟩:=bs u;have hc:=(lX fu) (a.pr [1] [0,2,3,4] [0] r)  b4;refine sc (ec xC r) hc ?_;rintro _ bI ⟨rfl,X⟩;replace a:=a.cl [1] [0,2,3,4] r X r;try dsimp only [pick,nth,ca,na] at a
     refine n (q (g (s (mp r) ?_)));obtain ⟨⟨a3,b5⟩,b6,u⟩:=bs u;replace u:=pi u;have hc:=(GV fu) (a.pr [0] [1,2,3,4] [0] r)  b6;refine sc (ec YB r) hc ?_;rintro _ bJ ⟨H,I,aI,rfl,X⟩;have aj:=a.sS.size;replace a:=a.cl [0] [1,2,3,4] r X r;try dsimp only [pick,nth,ca,na] at a
     replace a:=a.DF 0 w0.heap.size r aj;try dsimp only [List.set] at a
     refine s (Em r) (lg (tb a 2 [Z H a3 I] r oZ r r r r r (show _=#[T a4,Z H a3 I] from r)) ?_);intro bK a;try dsimp only [List.set] at a
     refine n (q (g (s (mp r) ?_)));obtain ⟨a5,b7,u⟩:=bs u;have hc:=(lX fu) (a.pr [1] [0,2,3,4,5] [1] r)  b7;refine sc (ec xC r) hc ?_;rintro _ bL ⟨rfl,X⟩;replace a:=a.cl [1] [0,2,3,4,5] r X r;try dsimp only [pick,nth,ca,na] at a
     refine n (g (s (GL r) (s (YD r (a.bk 4 r) r) (s (jQ [T a4,Z H a3 I] R4 r yE r r (Cells.part (a.bk 2 r).cells (o2:=0) r)) ?_))));replace a:=a.sV 1 1 r r;try dsimp only [List.eraseIdx] at a
     refine l5 (jM a [[T a4,Z H a3 I]] ([(⟨a4,a3⟩:Gr)]:List Gr) (PL r) r r (by decide) ⟨kr.inn ⟨H,I,r,a.dl 0 r⟩,y⟩) ?_;rintro _ bM ⟨bN,rfl,a⟩;obtain ⟨ay,aO,u⟩:=bs u;refine l5 (kR a 3 8 r r KN yE r (by decide) (by decide) (nJ _) r r (a.BU 0 0 r r) aO) ?_;rintro _ bO ⟨az,aA,b8,rfl,a⟩;refine s (GL r) (lg (tb a 4 [Z az ay aA] r aby r r r r r (show _=#[Z az ay aA,sn] from r)) ?_);intro bP a;try dsimp only [List.set] at a
     refine n ?_;exact aZ n3 _ _ (Ec _) ⟨ay,az,aA,b8,a5.l,a5.a,a5.c,a5.e,⟨r,r,r,y⟩,a.ad [3,4,5,1] [2,8],u⟩
    refine jD (wV h7) (vE ?_);exact aM _ _ ⟨p,j,m,t,F,M,N,Q,⟨r,r,r,y⟩,a.ad [1,2,3,0] [1,2],sm u⟩
   rw [uL h5];refine ko r (ko r (s (kI r r) (n (jD r (vE ?_)))));exact aM _ _ ⟨p,j,m,t,F,M,N,Q,⟨r,r,r,y⟩,a,sm u⟩
 clear a;rintro f w ⟨p,j,m,t,F,M,N,Q,hf,a,b9⟩;obtain ⟨cx,rfl⟩:=ng hf;subst b9;replace L:=gi L;replace L:=pi L;replace L:=pi L;replace L:=pi L;replace L:=pi L;refine q ?_;replace a:=a.EK Gn 61;obtain ⟨aP,b,L⟩:=bs L;refine oD (fun f w=>∃ (o:List Gn)(c:OA)(d:Nat)(v:LV)(A:List kg)(C D E:Int),Has f [(0,Pt a2),(2,Pt b1),(3,Pt b2)]/\Bx w0 w cw G [O w0.heap.size c d 61 Gn v,O w0.heap.size j m 143 Gr t,.box b2 26 #[Z j p m,Z c o d],.box b1 26 #[sn,sn],.box a2 99 #[Z x A z,V C,V D,V E]] [.l x z A,.els v o,.els t p]/\Ld.go (o,A,C,D,E)=aP) (fun bQ ax=>?_) ?_
 ·refine qb (kM (fun cy f w=>∃ (o:List Gn)(c:OA)(d:Nat)(v:LV)(A:List kg)(C D E:Int),Has f [(0,Pt a2),(2,Pt b1),(3,Pt b2)]/\Bx w0 w cw G [O w0.heap.size c d 61 Gn v,O w0.heap.size j m 143 Gr t,.box b2 26 #[Z j p m,Z c o d],.box b1 26 #[sn,sn],.box a2 99 #[Z x A z,V C,V D,V E]] [.l x z A,.els v o,.els t p]/\qR fu cy o A C D E=some aP) fu ⟨([]:List Gn),none,0,[],F,M,N,Q,⟨r,r,r,y⟩,a.dp [1,0,2],b⟩ ?_);clear a b;rintro aB f w ⟨o,c,d,v,A,C,D,E,hf,a,b⟩ bR aQ;obtain ⟨cx,rfl⟩:=ng hf;cases aB with
  | zero=>exact nn b
  | succ aB=>
   rw [qR] at b;refine q (q (g (s (mp r) (s (xn r) (s (vW r) (s (EM r (a.bk 4 r) r) (s (kH r r) (s (lI r) ?_))))))));rcases iv b with ⟨aC,b⟩|⟨aC,b⟩
   ·rw [uD aC];refine kL r (s (mp r) ?_);obtain ⟨ba,bb,b⟩:=bs b;refine kL r ?_;have hc:=(nC fu) (a.pr [4] [0,1,2,3] [0] r)  bb;refine sc (ec wL r) hc ?_;rintro _ bS ⟨rfl,X⟩;replace a:=a.cl [4] [0,1,2,3] r X r;try dsimp only [pick,nth,ca,na] at a
    refine s (kU r r) (n ?_);rcases iv b with ⟨ak,b⟩|⟨ak,b⟩
    ·refine jK (cb ak) (wk (qb (q (qG a [0] [1] [] (by kernel_rfl) ?_))));replace a:=a.drew;have hs:=a.ad [0] [1];refine pF 0 r (mp r) hs (pF 1 r (xn r) hs (pF 2 r (Dw r) hs (uF 3 r (fun hS=>TM r (hS.bk 0 r) r) hs (pF 4 r (mp r) hs (pF 5 r (xn r) hs (pF 6 r (nS r) hs (uF 7 r (fun hS=>l3 r (hS.bk 0 r) r) hs ?_)))))));obtain ⟨Y,ah,b⟩:=bs b;obtain ⟨bT,aR,ah⟩:=lq ah;refine pF 8 r (lu FE qj r r aR (a.dl 1 r) ah) hs (pF 9 r (MO r) hs (tU 10 r (fun _ hS=>kC NG r r ((uE (ds:=[V Y.c,V Y.f,T Y.a,V Y.d]) (hS.dl 0 r) ah (fun _ h=>h)) 1 _ r)) (sF hs) (pF 11 r (ZI r) hs ?_)));refine hO 12 (oo r r (kD a (jP nZ)) ?_);rintro _ bU ⟨aS,rfl,a⟩;have hs:=a.ad [1] [1];refine ⟨sF hs,?_⟩;refine hO 13 (os r r (tb a 0 [T be,V Y.f,sn,sn] r nZ r r r r r (show _=#[T be,V Y.f,sn,sn] from r)) ?_);intro bV a;try dsimp only [List.set] at a
     have hs:=a.ad [1] [1];refine ⟨sF hs,?_⟩;refine hD (q (g (s (mp r) (s (xn r) (s (nS r) (s (l3 r (a.bk 1 r) r) (s (kN r r) (s (xn r) (s (nS r) (lg (tb a 1 [V (wr (C+1))] r o9 r r r r r (show _=#[Z x A z,V (wr (C+1)),V D,V E] from r)) ?_))))))))));intro bW a;try dsimp only [List.set] at a
     refine n (q (g (s (mp r) ?_)));obtain ⟨⟨S,bc⟩,bd,b⟩:=bs b;replace b:=pi b;have hc:=(qO fu) (a.pr [1] [0,2,3,4,5] [1] r)  bd;refine sc (ec EO r) hc ?_;rintro _ bX ⟨rfl,X⟩;replace a:=a.cl [1] [0,2,3,4,5] r X r;try dsimp only [pick,nth,ca,na] at a
     refine s (Pe r) (lg (tb a 1 [T S] r pJ r r r r r (show _=#[T S,V Y.f,sn,sn] from r)) ?_);intro bY a;try dsimp only [List.set] at a
     refine n (q (g (s (mp r) ?_)));obtain ⟨U,bg,b⟩:=bs b;have hc:=(lX fu) (a.pr [0] [1,2,3,4,5] [0] r)  bg;refine sc (ec xC r) hc ?_;rintro _ bZ ⟨rfl,X⟩;replace a:=a.cl [0] [1,2,3,4,5] r X r;try dsimp only [pick,nth,ca,na] at a
     refine n (q ?_);replace a:=a.EK BA 9;obtain ⟨bh,B,b⟩:=bs b;refine oD (fun f w=>∃ (W:List BA)(J:OA)(K:Nat)(a6:LV)(a7:List kg)(ac ae af:Int),Has f [(0,Pt a2),(2,Pt b1),(3,Pt b2),(5,Pt aS)]/\Bx w0 w cw G [O w0.heap.size J K 9 BA a6,.box a2 99 #[Z x a7 z,V ac,V ae,V af],.box aS 61 #[T S,V Y.f,Z J W K,sn],O w0.heap.size c d 61 Gn v,O w0.heap.size j m 143 Gr t,.box b2 26 #[Z j p m,Z c o d],.box b1 26 #[sn,sn]] [.l x z a7,.els a6 W,.els v o,.els t p]/\Ld.go (W,a7,ac,ae,af)=bh) (fun c0 al=>?_) ?_
     ·unfold vP at B;refine q (g (s (mp r) (s (xn r) (s (vW r) (s (EM r (a.bk 1 r) r) (s (kH r r) (s (lI r) ?_)))))));rcases iv B with ⟨aD,B⟩|⟨aD,B⟩
      ·rw [uD aD];refine kL r (s (mp r) ?_);obtain ⟨bi,bj,B⟩:=bs B;refine kL r ?_;have hc:=(nC fu) (a.pr [1] [0,2,3,4,5,6] [1] r)  bj;refine sc (ec wL r) hc ?_;rintro _ c1 ⟨rfl,X⟩;replace a:=a.cl [1] [0,2,3,4,5,6] r X r;try dsimp only [pick,nth,ca,na] at a
       refine kL r (s (D5 r) (s (kU r r) (n ?_)));rcases iv B with ⟨am,B⟩|⟨am,B⟩
       ·refine jK (cb am) (g (s (mp r) ?_));obtain ⟨⟨ag,a8⟩,bl,B⟩:=bs B;replace B:=pi B;have hc:=(GV fu) (a.pr [0] [1,2,3,4,5,6] [2] r)  bl;refine sc (ec YB r) hc ?_;rintro _ c2 ⟨a0,a1,ai,rfl,X⟩;have aj:=a.sS.size;replace a:=a.cl [0] [1,2,3,4,5,6] r X r;try dsimp only [pick,nth,ca,na] at a
        replace a:=a.DF 0 w0.heap.size r aj;try dsimp only [List.set] at a
        refine s (Kl r) (lg (tb a 3 [Z a0 ag a1] r oZ r r r r r (show _=#[T S,V Y.f,Z a0 ag a1,sn] from r)) ?_);intro c3 a;try dsimp only [List.set] at a
        refine n ?_;exact al _ _ ⟨ag,a0,a1,ai,a8.l,a8.a,a8.c,a8.e,⟨r,r,r,r,y⟩,a.ad [0,1,3,4,5,6,7] [1,0,8,9],sm B⟩
       refine jD (wV am) (wk ?_);exact al _ _ ⟨([]:List BA),none,0,[],U.l,U.a,U.c,U.e,⟨r,r,r,r,y⟩,a.ad [1,0,2,3,4,5,6] [2,1,6,7],sm B⟩
      rw [uL aD];refine ko r (ko r (ko r (s (kI r r) (n (jD r (wk ?_))))));exact al _ _ ⟨([]:List BA),none,0,[],U.l,U.a,U.c,U.e,⟨r,r,r,r,y⟩,a.dp [1,0,5,6],sm B⟩
     clear a;rintro f w ⟨W,J,K,a6,a7,ac,ae,af,hf,a,aT⟩;obtain ⟨cx,rfl⟩:=ng hf;subst aT;replace b:=gi b;replace b:=pi b;replace b:=pi b;replace b:=pi b;replace b:=pi b;refine q (g (s (mp r) ?_));obtain ⟨bm,bn,b⟩:=bs b;have hc:=(lX fu) (a.pr [1] [0,2,3,4,5,6] [0] r)  bn;refine sc (ec xC r) hc ?_;rintro _ c4 ⟨rfl,X⟩;replace a:=a.cl [1] [0,2,3,4,5,6] r X r;try dsimp only [pick,nth,ca,na] at a
     refine n (q (g (s (mp r) ?_)));obtain ⟨⟨bo,an,a9⟩,bp,b⟩:=bs b;replace b:=pi b;replace b:=pi b;have hc:=(Ng fu) (a.pr [0] [1,2,3,4,5,6] [0] r)  bp;refine sc (ec LK r) hc ?_;rintro _ c5 ⟨aJ,aK,aL,rfl,X⟩;have aj:=a.sS.size;replace a:=a.cl [0] [1,2,3,4,5,6] r X r;try dsimp only [pick,nth,ca,na] at a
     replace a:=a.DF 0 w0.heap.size r aj;try dsimp only [List.set] at a
     refine s vX (s (kF r r) (s (kF r r) (s (og r) (s (xi r) (n (q (g (s (qw r) (s (mi r) (s (SH r r) (l5 (jM a [[V 10,V an,V 0,T be,T be,V 0,V 0,sn,T be,V 0,sn,sn,sn]] ([(⟨10,an,0,be,be,0,0,([]:List Ge),be,0,([]:List Ge),([]:List Gs),([]:List Gs)⟩:Gs)]:List Gs) (rQ r) r r (by decide) ⟨jB.inn ⟨none,0,none,0,none,0,none,0,r,oL,oL,oL,oL⟩,y⟩) ?_)))))))))));rintro _ c6 ⟨c7,rfl,a⟩;obtain ⟨ao,aU,b⟩:=bs b;refine l5 (kR a 1 1 r r CF jR r (by decide) (by decide) (nJ _) r r (a.BU 0 0 r r) aU) ?_;rintro _ c8 ⟨ap,aq,c9,rfl,a⟩;refine s (Gq r) (lg (tb a 4 [Z ap ao aq] r Co r r r r r (show _=#[T S,V Y.f,Z J W K,Z ap ao aq] from r)) ?_);intro cc a;try dsimp only [List.set] at a
     refine n (g (s (CJ r) (s (TK r (a.bk 7 r) r) (s (jQ [T S,V Y.f,Z J W K,Z ap ao aq] IE r nZ r r (Cells.part (a.bk 4 r).cells (o2:=0) r)) ?_))));replace a:=a.sV 3 5 r r;try dsimp only [List.eraseIdx] at a
     replace a:=a.sV 1 2 r r;try dsimp only [List.eraseIdx] at a
     refine l5 (jM a [[T S,V Y.f,Z J W K,Z ap ao aq]] ([(⟨S,Y.f,W,ao⟩:Gn)]:List Gn) (OZ r) r r (by decide) ⟨kV.inn ⟨J,K,ap,aq,r,a.dl 1 r,a.dl 0 r⟩,y⟩) ?_;rintro _ cd ⟨ce,rfl,a⟩;obtain ⟨aE,aV,b⟩:=bs b;refine l5 (kR a 4 7 r r Fb nZ r (by decide) (by decide) (nJ _) r r (a.BU 0 0 r r) aV) ?_;rintro _ cg ⟨aF,aG,bq,rfl,a⟩;refine s (CJ r) (lg (tb a 6 [Z aF aE aG] r Za r r r r r (show _=#[Z j p m,Z aF aE aG] from r)) ?_);intro ch a;try dsimp only [List.set] at a
     refine n ?_;exact aQ aB _ _ (Ec _) ⟨aE,aF,aG,bq,a9.l,a9.a,a9.c,a9.e,⟨r,r,r,y⟩,a.ad [4,5,6,7,2] [4,7,8],b⟩
    refine jD (wV ak) (vE ?_);exact ax _ _ ⟨o,c,d,v,A,C,D,E,⟨r,r,r,y⟩,a.ad [1,2,3,4,0] [1,2,3],sm b⟩
   rw [uL aC];refine ko r (ko r (s (kI r r) (n (jD r (vE ?_)))));exact ax _ _ ⟨o,c,d,v,A,C,D,E,⟨r,r,r,y⟩,a,sm b⟩
 clear a;rintro f w ⟨o,c,d,v,A,C,D,E,hf,a,aW⟩;obtain ⟨cx,rfl⟩:=ng hf;subst aW;replace L:=gi L;replace L:=pi L;replace L:=pi L;replace L:=pi L;replace L:=pi L;refine q (q (g (s (mp r) (s (xn r) (s (vW r) (s (EM r (a.bk 4 r) r) (s (kH r r) (s (lI r) ?_))))))));rcases iv L with ⟨aH,L⟩|⟨aH,L⟩
 ·rw [uD aH];refine kL r (s (mp r) ?_);obtain ⟨br,bu,L⟩:=bs L;refine kL r ?_;have hc:=(rD fu) (a.pr [4] [0,1,2,3] [0] r)  bu;refine sc (ec F5 r) hc ?_;rintro _ ci ⟨rfl,X⟩;replace a:=a.cl [4] [0,1,2,3] r X r;try dsimp only [pick,nth,ca,na] at a
  refine kL r (s (D5 r) (s (kU r r) (n ?_)));rcases iv L with ⟨ar,L⟩|⟨ar,L⟩
  ·refine jK (cb ar) (g (s (mp r) ?_));obtain ⟨bv,bw,L⟩:=bs L;have hc:=(rJ fu) (a.pr [0] [1,2,3,4] [1] r)  bw;refine sc (ec FZ r) hc ?_;rintro _ cj ⟨rfl,X⟩;replace a:=a.cl [0] [1,2,3,4] r X r;try dsimp only [pick,nth,ca,na] at a
   refine n (q (g (s (jQ [Z j p m,Z c o d] FH r uz r r (Cells.part (a.bk 3 r).cells (o2:=0) r)) (lg (tb a 4 [Z j p m,Z c o d] r uz r r r r r (show _=#[Z j p m,Z c o d] from r)) ?_))));intro ck a;try dsimp only [List.set] at a
   refine n (lS ?_);replace a:=a.sV 2 4 r r;try dsimp only [List.eraseIdx] at a
   replace a:=a.sV 1 4 r r;try dsimp only [List.eraseIdx] at a
   obtain rfl:=sm L;refine jI r (tH r FH r uz r (a.bk 2 r)) ?_;exact mZ (⟨j,m,c,d,r,a.ad [0] [1,0,2]⟩)
  refine jD (wV ar) (wk (q (g (s (jQ [Z j p m,Z c o d] FH r uz r r (Cells.part (a.bk 3 r).cells (o2:=0) r)) (lg (tb a 4 [Z j p m,Z c o d] r uz r r r r r (show _=#[Z j p m,Z c o d] from r)) ?_)))));intro cm a;try dsimp only [List.set] at a
  refine n (lS ?_);replace a:=a.sV 2 3 r r;try dsimp only [List.eraseIdx] at a
  replace a:=a.sV 1 3 r r;try dsimp only [List.eraseIdx] at a
  obtain rfl:=sm L;refine jI r (tH r FH r uz r (a.bk 2 r)) ?_;exact mZ (⟨j,m,c,d,r,a.ad [0] [1,0,3]⟩)
 rw [uL aH];refine ko r (ko r (ko r (s (kI r r) (n (jD r (wk (q (g (s (jQ [Z j p m,Z c o d] FH r uz r r (Cells.part (a.bk 2 r).cells (o2:=0) r)) (lg (tb a 3 [Z j p m,Z c o d] r uz r r r r r (show _=#[Z j p m,Z c o d] from r)) ?_))))))))));intro cn a;try dsimp only [List.set] at a
 refine n (lS ?_);replace a:=a.sV 1 2 r r;try dsimp only [List.eraseIdx] at a
 replace a:=a.sV 0 2 r r;try dsimp only [List.eraseIdx] at a
 obtain rfl:=sm L;refine jI r (tH r FH r uz r (a.bk 1 r)) ?_;exact mZ (⟨j,m,c,d,r,a.ad [2] [1,0,2]⟩)
def N7 (m:BA->Option (jV × Int × Int)):Prop:=∀ {f k h R},Pre f k [] []->m h=some R-> Calls prog 14 #[T h] f (sW fun v w=>jy R fun e R=>jy R fun i j=>∃ (a:OA)(b:Nat)(c:OA)(d:Nat),v=.tuple #[.agg #[Z a e.a b,Z c e.b d],V i,V j]/\Bx f w k (mQ []) [] [.l a b e.a,.l c d e.b])
def xA (fu:Nat)(h:BA):Option (jV × Int × Int):=(Bc fu h).bind fun i=>jy i fun c i=>jy i fun d b=>if b≠0 then some ((⟨([]:List Gr),([]:List Gn)⟩:jV),d,b) else (wG fu (⟨c,0,0,0⟩:gP)).bind fun i=>jy i fun f a=>if a.e≠0 then some ((⟨([]:List Gr),([]:List Gn)⟩:jV),a.c,a.e) else some (f,0,0)
theorem F7 (fu:Nat):N7 (xA fu):=by
 intro E a3 F R z j;unfold xA at j;have a:=z.bx;clear z;generalize Q:mQ _=G at a ⊢;refine cf func14 r ?_;refine lH [(0,T F)] ⟨r,y⟩ fun a4=>?_;refine q (g (l5 (kD a (jP uz)) ?_));rintro _ S ⟨U,rfl,a⟩;refine s (xi r) (s (xi r) (n (q (g (s (lF r) ?_)))));obtain ⟨⟨A,B,C⟩,H,j⟩:=bs j;replace j:=pi j;replace j:=pi j;have hc:=(OW fu) (a.pr [] [0] [] r)  H;refine sc (ec abO r) hc ?_;rintro _ W ⟨p,t,u,rfl,v⟩;have w:=a.sS.size;replace a:=a.cl [] [0] r v r;try dsimp only [pick,nth,ca,na] at a
 replace a:=a.DF 0 E.heap.size r w;try dsimp only [List.set] at a
 refine s vX (s (kF r r) (s (kF r r) (s (kF r r) (s (og r) (s (xi r) (s (xi r) (n (q (q (g (s (mi r) (s (tF r r) (n ?_)))))))))))));rcases iv j with ⟨x,j⟩|⟨x,j⟩
 ·refine jK (bt x) (q (g (s Yv (s (mi r) (s (mi r) (lg (tb a 1 [sn,sn] r uz r r r r r (show _=#[sn,sn] from r)) ?_))))));intro X a;try dsimp only [List.set] at a
  refine s (xi r) (s (xi r) (n (lS ?_)));replace a:=a.jZ (d:=.l none 0 ([]:List Gr)) oL;replace a:=a.jZ (d:=.l none 0 ([]:List Gn)) oL;obtain rfl:=sm j;refine AJ r (tH r FH r uz r (a.bk 1 r)) (nu r) (nu r) ?_;exact mZ (mZ ⟨none,0,none,0,r,a.ad [] [1,0]⟩)
 refine jD (bf x) (wk (q (g (s (qw r) (s (ZG r) (l5 (kD a (uM r)) ?_))))));rintro _ Y ⟨b7,rfl,a⟩;refine s (SN r) (n (q (g (s (mp r) ?_))));replace a:=a.sV 1 0 r r;try dsimp only [List.eraseIdx] at a
 obtain ⟨⟨h,D⟩,I,j⟩:=bs j;replace j:=pi j;have hc:=(Ka fu) (a.pr [0] [1] [0] r)  I;refine sc (ec acT r) hc ?_;rintro _ w9 ⟨b,c,e,f,rfl,v⟩;replace a:=a.cl [0] [1] r v r;try dsimp only [pick,nth,ca,na] at a
 refine l5 (kD a (jP uz)) ?_;rintro _ J ⟨K,rfl,a⟩;refine lg (tb a 0 [Z b h.a c,Z e h.b f] r uz r r r r r (show _=#[Z b h.a c,Z e h.b f] from r)) ?_;intro L a;try dsimp only [List.set] at a
 refine n (q (q (g (s (mp r) (s (xn r) (s (vW r) (s (EM r (a.bk 1 r) r) (s (tF r r) (n ?_)))))))));rcases iv j with ⟨o,j⟩|⟨o,j⟩
 ·refine jK (bt o) (q (qG a [1] [] [] (by kernel_rfl) ?_));replace a:=a.drew;have m:=a.ad [1] [];refine pF 0 r Yv m (pF 1 r (mp r) m (pF 2 r (xn r) m (pF 3 r (Yn r) m (uF 4 r (fun hS=>l3 r (hS.bk 0 r) r) m (pF 5 r (mp r) m (pF 6 r (xn r) m (pF 7 r (vW r) m (uF 8 r (fun hS=>EM r (hS.bk 0 r) r) m ?_))))))));refine hO 9 (os r r (tb a 2 [sn,sn] r uz r r r r r (show _=#[sn,sn] from r)) ?_);intro M a;try dsimp only [List.set] at a
  have m:=a.ad [1] [];refine ⟨sF m,?_⟩;refine pF 10 r (xi r) m (pF 11 r (xi r) m (hD (lS ?_)));replace a:=a.jZ (d:=.l none 0 ([]:List Gr)) oL;replace a:=a.jZ (d:=.l none 0 ([]:List Gn)) oL;obtain rfl:=sm j;refine AJ r (tH r FH r uz r (a.bk 2 r)) (nu r) (nu r) ?_;exact mZ (mZ ⟨none,0,none,0,r,a.ad [] [1,0]⟩)
 refine jD (bf o) (wk (q (g (s (jQ [Z b h.a c,Z e h.b f] FH r uz r r (Cells.part (a.bk 0 r).cells (o2:=0) r)) (lg (tb a 2 [Z b h.a c,Z e h.b f] r uz r r r r r (show _=#[Z b h.a c,Z e h.b f] from r)) ?_)))));intro N a;try dsimp only [List.set] at a
 refine s (xi r) (s (xi r) (n (lS ?_)));obtain rfl:=sm j;refine AJ r (tH r FH r uz r (a.bk 2 r)) (nu r) (nu r) ?_;exact mZ (mZ ⟨b,c,e,f,r,a.ad [] [0,1]⟩)
end
end Go.Proofs.YtdkneekpdecjbaaGreat
