/- Contracts, printed by gen3.py. -/
import Derived.Test.YtfglbdkfnphjgaaZ5
import Derived.Test.YtfglbdkfnphjgaaLf
set_option linter.unusedVariables false
set_option maxHeartbeats 12800000
set_option linter.unusedSimpArgs false
set_option maxRecDepth 4000
namespace Go.Proofs.Ytfglbdkfnphjgaa
open Go.RowKit Go.Fw
noncomputable section
abbrev pE:=iA→(List jO)→Option ((List jO) × iA)
abbrev qI:=iA→jO→Option (jO × iA)
def wz (m:Gt→(List Gs)→Option ((List Gs) × Gt)):Prop:=∀ {w0:World} {a4:Nat→Prop} {k:Gt} {x1:(List Gs)} {a1:Nat} {d:Option Addr} {h:Nat} {a:Option Addr} {b:Nat} {i:List (List Value)} {o:Nat} {p:Option Addr} {t:Nat} {j:List Rw} {u:Nat} {x:Nat} {z:Option Addr} {A:Nat} {G:List (List Value)} {B:Nat} {C:Option Addr} {D:Nat} {H:List (List Value)} {E:Nat} {S:Option Addr} {U:Nat} {R:(List Gs) × Gt},Pre w0 a4 [.box a1 115 #[Z d k.a.a.a h,Z a k.a.a.b b,Z p k.a.b t,Z z k.a.c A,V k.f,Z C k.b D,V k.c,V k.e],O o a b 82 Gn i,O u p t 60 (List Gv) (j.map Rw.hdr),.qR x 59 (sz Gv) j none,O B z A 65 Gi G,O E C D 3 Int H] [.l d h k.a.a.a,.els i k.a.a.b,.mQ j k.a.b,.els G k.a.c,.els H k.b,.l S U x1]→o≤w0.heap.size→u≤w0.heap.size→x≤w0.heap.size→B≤w0.heap.size→E≤w0.heap.size→m k x1=some R→
 Calls Try.prog 74 #[Pt a1,Z S x1 U] w0 (qQ fun v w=>jy R fun r0 c=>∃ (W:OA)(X:Nat)(Y:LV)(I:OA)(J:Nat)(F:List Rw) (K:OA)(L:Nat)(M:LV)(N:OA)(P:Nat)(Q:LV),v=Z W r0 X∧Bx w0 w a4 (lS [.box a1 115 #[Z d k.a.a.a h,Z a k.a.a.b b,Z p k.a.b t,Z z k.a.c A,V k.f,Z C k.b D,V k.c,V k.e],O o a b 82 Gn i,O u p t 60 (List Gv) (j.map Rw.hdr),.qR x 59 (sz Gv) j none,O B z A 65 Gi G,O E C D 3 Int H]) [O w0.heap.size W X 111 Gs Y,.box a1 115 #[Z d c.a.a.a h,Z a c.a.a.b b,Z I c.a.b J,Z K c.a.c L,V c.f,Z N c.b P,V c.c,V c.e],O o a b 82 Gn i,O u I J 60 (List Gv) (F.map Rw.hdr),.qR x 59 (sz Gv) F none,O B K L 65 Gi M,O E N P 3 Int Q] [.els Y r0,.l d h c.a.a.a,.els i c.a.a.b,.mQ F c.a.b,.els M c.a.c,.els Q c.b])
def zV (m:Gt→Gs→Option (Gs × Gt)):Prop:=∀ {w0:World} {ag:Nat→Prop} {k:Gt} {G:Gs} {ae:Nat} {d:Option Addr} {h:Nat} {a:Option Addr} {b:Nat} {i:List (List Value)} {o:Nat} {p:Option Addr} {t:Nat} {j:List Rw} {u:Nat} {x:Nat} {z:Option Addr} {A:Nat} {I:List (List Value)} {B:Nat} {C:Option Addr} {D:Nat} {J:List (List Value)} {E:Nat} {W:Option Addr} {X:Nat} {Y:Option Addr} {a0:Nat} {a1:Option Addr} {a2:Nat} {a3:Option Addr} {a4:Nat} {R:Gs × Gt},Pre w0 ag [.box ae 115 #[Z d k.a.a.a h,Z a k.a.a.b b,Z p k.a.b t,Z z k.a.c A,V k.f,Z C k.b D,V k.c,V k.e],O o a b 82 Gn i,O u p t 60 (List Gv) (j.map Rw.hdr),.qR x 59 (sz Gv) j none,O B z A 65 Gi I,O E C D 3 Int J] [.l d h k.a.a.a,.els i k.a.a.b,.mQ j k.a.b,.els I k.a.c,.els J k.b,.l W X G.c,.l Y a0 G.a,.l a1 a2 G.d,.l a3 a4 G.h]→o≤w0.heap.size→u≤w0.heap.size→x≤w0.heap.size→B≤w0.heap.size→E≤w0.heap.size→m k G=some R→
 Calls Try.prog 99 #[Pt ae,.agg #[V G.e,V G.f,V G.n,T G.b,T G.j,V G.m,V G.g,Z W G.c X,T G.k,V G.i,Z Y G.a a0,Z a1 G.d a2,Z a3 G.h a4]] w0 (qQ fun v w=>jy R fun H c=>∃ (a5:OA)(a6:Nat)(a7:OA)(a8:Nat)(a9:OA)(aa:Nat)(ab:OA)(ac:Nat)(K:OA)(L:Nat)(F:List Rw) (M:OA)(N:Nat)(P:LV)(Q:OA)(S:Nat)(U:LV),v=.agg #[V H.e,V H.f,V H.n,T H.b,T H.j,V H.m,V H.g,Z a5 H.c a6,T H.k,V H.i,Z a7 H.a a8,Z a9 H.d aa,Z ab H.h ac]∧Bx w0 w ag (lS [.box ae 115 #[Z d k.a.a.a h,Z a k.a.a.b b,Z p k.a.b t,Z z k.a.c A,V k.f,Z C k.b D,V k.c,V k.e],O o a b 82 Gn i,O u p t 60 (List Gv) (j.map Rw.hdr),.qR x 59 (sz Gv) j none,O B z A 65 Gi I,O E C D 3 Int J]) [.box ae 115 #[Z d c.a.a.a h,Z a c.a.a.b b,Z K c.a.b L,Z M c.a.c N,V c.f,Z Q c.b S,V c.c,V c.e],O o a b 82 Gn i,O u K L 60 (List Gv) (F.map Rw.hdr),.qR x 59 (sz Gv) F none,O B M N 65 Gi P,O E Q S 3 Int U] [.l a5 a6 H.c,.l a7 a8 H.a,.l a9 aa H.d,.l ab ac H.h,.l d h c.a.a.a,.els i c.a.a.b,.mQ F c.a.b,.els P c.a.c,.els U c.b])
def oq (fu:Nat)(r_r04_block:pE) (r_r04_stmt:qI):List Gs→Nat→(List Gs)→(List Gr)→Int→Int→Int→(List Gn)→(List (List Gv))→(List Gi)→(List Int)→Option (Ld (List Gs × List Gr × Int × Int × Int × List Gn × List (List Gv) × List Gi × List Int) ((List Gs) × Gt))
 | [],_,c,d,h,i,b,j,k,l,m=>some (.go (c,d,h,i,b,j,k,l,m))
 | p :: t,u,c,d,h,i,b,j,k,l,m=>
 if b≠0 then
  some (.go (c,d,h,i,b,j,k,l,m))
 else
  (r_r04_stmt (⟨(⟨(⟨d,j⟩:jW),k,l⟩:jK),h,m,i,b⟩:Gt) p).bind fun w=>
  jy w fun o a=>
  (app c ([o]:List Gs)).bind fun v=>
  oq fu r_r04_block r_r04_stmt t (u+1) v a.a.a.a a.f a.c a.e a.a.a.b a.a.b a.a.c a.b
def oG (fu:Nat)(r_r04_block:pE) (r_r04_stmt:qI) (c:Int)(d:List Gi):List Int→Nat→(List (List Gv))→Option (Ld (List (List Gv)) ((List Gs) × Gt))
 | [],_,a=>some (.go a)
 | e :: h,i,a=>
 (ix a c).bind fun f=>
 (ix f e).bind fun b=>
 (st f e (⟨b.b,b.e,b.c,b.a,b.f,b.d,(wr ((d.length:Int) - 1))⟩:Gv)).bind fun j=>
 (st a c j).bind fun k=>
 oG fu r_r04_block r_r04_stmt c d h (i+1) k
def uw (fu:Nat)(r_r04_block:pE) (r_r04_stmt:qI) (b:Gt) (w:(List Gs)):Option ((List Gs) × Gt):=
 (oq fu r_r04_block r_r04_stmt w 0 ([]:List Gs) b.a.a.a b.f b.c b.e b.a.a.b b.a.b b.a.c b.b).bind fun x=>x.el (fun x=>
 jy x fun i x=>jy x fun j x=>jy x fun c x=>jy x fun k x=>jy x fun l x=>jy x fun m x=>jy x fun p x=>jy x fun d a=>
 (sl a (b.b.length:Int) (a.length:Int)).bind fun t=>
 (oG fu r_r04_block r_r04_stmt c d t 0 p).bind fun x=>x.el (fun h=>
 (sl a 0 (b.b.length:Int)).bind fun u=>
 (app ([]:List Int) u).bind fun v=>
 some (i,(⟨(⟨(⟨j,m⟩:jW),h,d⟩:jK),c,v,k,l⟩:Gt))
 ) (fun o=>some o)
 ) (fun o=>some o)
def tO (fu:Nat)(r_r04_block:pE) (r_r04_stmt:qI) (b:Gt) (a:Gs) (j:List Gi):Option (Ld (Int × Int × Int) (Gs × Gt)):=
 if 0 < a.m then
  some (.go (3,(-1),a.m))
 else
  if ¬ a.j=(⟨#[]⟩:BA) then
   (wT fu (⟨(⟨b.a.a,b.a.b,j⟩:jK),b.f,b.b,b.c,b.e⟩:Gt) a.j).bind fun k=>
   jy k fun c d=>
   if (!d)=true then
    (mh fu (⟨(⟨b.a.a,b.a.b,j⟩:jK),b.f,b.b,b.c,b.e⟩:Gt) a.f 8).bind fun h=>
    some (.out ((⟨a.e,a.f,(b.a.c.length:Int),a.b,a.j,a.m,a.g,a.c,a.k,a.i,a.a,a.d,a.h⟩:Gs),h))
   else
    (ix b.a.a.a c).bind fun i=>
    some (.go (2,c,(i.a.length:Int)))
  else
   some (.go (1,(-1),1))
def tL (fu:Nat)(r_r04_block:pE) (r_r04_stmt:qI) (a:Gt) (c:Gs) (l:List Gi):Option (Ld (List Gr × Int × Int × Int × List Gn × List (List Gv) × List Gi × List Int) (Gs × Gt)):=
 if c.e=1 then
  (tO fu r_r04_block r_r04_stmt a c l).bind fun p=>p.el (fun p=>
  jy p fun d p=>jy p fun h i=>
  (rE fu (⟨(⟨a.a.a,a.a.b,l⟩:jK),a.f,a.b,a.c,a.e⟩:Gt) c.f (⟨c.b,d,h,i,false,(wr ((a.a.c.length:Int)+1)),0⟩:Gv)).bind fun p=>
  jy p fun j k=>
  some (.out ((⟨c.e,c.f,(a.a.c.length:Int),c.b,c.j,c.m,j,c.c,c.k,c.i,c.a,c.d,c.h⟩:Gs),k))
  ) (fun o=>some (.out o))
 else
  if c.e=3 then
   if 0 < (c.c.length:Int) then
    (ix c.c 0).bind fun m=>
    if m.e≠1 then
     (mh fu (⟨(⟨a.a.a,a.a.b,l⟩:jK),a.f,a.b,a.c,a.e⟩:Gt) c.f 10).bind fun b=>
     some (.go (b.a.a.a,b.f,b.c,b.e,b.a.a.b,b.a.b,b.a.c,b.b))
    else
     some (.go (a.a.a.a,a.f,a.c,a.e,a.a.a.b,a.a.b,l,a.b))
   else
    some (.go (a.a.a.a,a.f,a.c,a.e,a.a.a.b,a.a.b,l,a.b))
  else
   some (.go (a.a.a.a,a.f,a.c,a.e,a.a.a.b,a.a.b,l,a.b))
def sW (fu:Nat)(r_r04_block:pE) (r_r04_stmt:qI) (i:Gt) (d:Gs) (h:(List Ge)) (b:Gt):Option (Ld (List Gr × Int × Int × Int × List Gn × List (List Gv) × List Gi × List Int × Int × Int × Int × BA × BA × Int × Int × List Ge × BA × Int × List Ge × List Gs × List Gs) (Gs × Gt)):=
 if ¬ d.k=(⟨#[]⟩:BA) then
  (sG fu b (⟨d.e,d.f,(i.a.c.length:Int),d.b,d.j,d.m,d.g,h,d.k,d.i,d.a,d.d,d.h⟩:Gs)).bind fun j=>
  jy j fun c a=>
  some (.go (c.a.a.a,c.f,c.c,c.e,c.a.a.b,c.a.b,c.a.c,c.b,a.e,a.f,a.n,a.b,a.j,a.m,a.g,a.c,a.k,a.i,a.a,a.d,a.h))
 else
  some (.go (b.a.a.a,b.f,b.c,b.e,b.a.a.b,b.a.b,b.a.c,b.b,d.e,d.f,(i.a.c.length:Int),d.b,d.j,d.m,d.g,h,d.k,d.i,d.a,d.d,d.h))
def tu (fu:Nat)(r_r04_block:pE) (r_r04_stmt:qI) (c:Int)(a:Gt):Option (Ld (List (List Gv)) (Gs × Gt)):=
 if a.e=0 then
  (ix a.a.b a.f).bind fun d=>
  (ix d c).bind fun b=>
  (st d c (⟨b.b,b.e,b.c,b.a,b.f,b.d,(wr ((a.a.c.length:Int) - 1))⟩:Gv)).bind fun h=>
  (st a.a.b a.f h).bind fun i=>
  some (.go i)
 else
  some (.go a.a.b)
def tH (fu:Nat)(r_r04_block:pE) (r_r04_stmt:qI) (h:Int)(c:Int)(j:Int)(d:BA) (k:BA) (l:Int)(m:List Ge) (p:BA) (t:Int)(u:List Gs) (v:(List Ge)) (w:(List Gs)) (b:Gt):Option (Ld (Unit) (Gs × Gt)):=
 if h=8 then
  if b.e=0 then
   (app ([]:List Int) b.b).bind fun B=>
   (rE fu b c (⟨d,1,(-1),1,false,(b.a.c.length:Int),0⟩:Gv)).bind fun C=>
   jy C fun i x=>
   (r_r04_block x u).bind fun C=>
   jy C fun z a=>
   (tu fu r_r04_block r_r04_stmt i a).bind fun C=>C.el (fun A=>
   some (.out ((⟨h,c,j,d,k,l,i,m,p,t,v,w,z⟩:Gs),(⟨(⟨a.a.a,A,a.a.c⟩:jK),a.f,B,a.c,a.e⟩:Gt)))
   ) (fun o=>some (.out o))
  else
   some (.go ())
 else
  some (.go ())
def vO (fu:Nat)(r_r04_block:pE) (r_r04_stmt:qI) (z:Gt) (a:Gs):Option (Gs × Gt):=
 if 200≤(z.a.c.length:Int) then
  (mh fu z a.f 5).bind fun Y=>
  some ((⟨a.e,a.f,(z.a.c.length:Int),a.b,a.j,a.m,a.g,a.c,a.k,a.i,a.a,a.d,a.h⟩:Gs),Y)
 else
  (app z.a.c ([(⟨z.f,a.e,a.f⟩:Gi)]:List Gi)).bind fun r8=>
  (tL fu r_r04_block r_r04_stmt z a r8).bind fun a1=>a1.el (fun a1=>
  jy a1 fun A a1=>jy a1 fun B a1=>jy a1 fun C a1=>jy a1 fun D a1=>jy a1 fun E a1=>jy a1 fun F a1=>jy a1 fun G H=>
  (sj fu (⟨(⟨(⟨A,E⟩:jW),F,G⟩:jK),B,H,C,D⟩:Gt) a.c a.f).bind fun a1=>
  jy a1 fun I J=>
  (sW fu r_r04_block r_r04_stmt z a I J).bind fun a1=>a1.el (fun a1=>
  jy a1 fun K a1=>jy a1 fun L a1=>jy a1 fun M a1=>jy a1 fun N a1=>jy a1 fun P a1=>jy a1 fun Q a1=>jy a1 fun R a1=>jy a1 fun S a1=>jy a1 fun m a1=>jy a1 fun b a1=>jy a1 fun c a1=>jy a1 fun d a1=>jy a1 fun e a1=>jy a1 fun h a1=>jy a1 fun v a1=>jy a1 fun i a1=>jy a1 fun j a1=>jy a1 fun k a1=>jy a1 fun w a1=>jy a1 fun x l=>
  (sj fu (⟨(⟨(⟨K,P⟩:jW),Q,R⟩:jK),L,S,M,N⟩:Gt) w b).bind fun a1=>
  jy a1 fun p U=>
  (r_r04_block U x).bind fun a1=>
  jy a1 fun t u=>
  (tH fu r_r04_block r_r04_stmt m b c d e h i j k l p t u).bind fun a1=>a1.el (fun _=>
  (r_r04_block u l).bind fun a1=>
  jy a1 fun W X=>
  some ((⟨m,b,c,d,e,h,v,i,j,k,p,t,W⟩:Gs),X)
  ) (fun o=>some o)
  ) (fun o=>some o)
  ) (fun o=>some o)
def sU:Nat→(Gt→(List Gs)→Option ((List Gs) × Gt)) × (Gt→Gs→Option (Gs × Gt))
 | 0=>((fun _ _=>none),(fun _ _=>none))
 | fu+1=>(uw fu ((sU fu).1) ((sU fu).2),vO fu ((sU fu).1) ((sU fu).2))
def uj (fu:Nat):=(sU fu).1
def zG (fu:Nat):=(sU fu).2
theorem IG (fu:Nat)(r_r04_block:pE) (r_r04_stmt:qI) (H_r04_block:wz r_r04_block) (H_r04_stmt:zV r_r04_stmt):wz (uw fu r_r04_block r_r04_stmt):=by
 intro w0 d6 x0 x1 ai W X M N a2 ac aH aI aJ ae af aK aL b7 ag aM aN b9 a8 am an R hP bj bl bm bn aP hM
 unfold uw at hM
 have a:=hP.bx
 clear hP
 generalize hG:lS _=G at a ⊢
 refine cf Try.func74 r (lM [(0,Pt ai),(1,Z am x1 an)] ⟨r,r,y⟩ fun d7=>q (g (s (mG r) (n (q (g (s (mG r) (n (q (g (s (mp r) (s (xn r) (s (zW r) (s (QM r (a.bk 0 r) r) (s (lF sH r) (s (xi r) (n (q (q (g (s (nL r) (s (lF Af r) (s (mi r) (n ?_))))))))))))))))))))))))
 replace a:=a.Bv Gs 111
 have cE:=(a.dl 6 r).bd
 obtain ⟨Y1,a6,hM⟩:=bs hM
 refine nT (fun f w=>∃ (Q:List Gs) (p:OA)(t:Nat)(u:LV)(J:List Gr) (a1:Int)(a3:Int)(a4:Int)(K:List Gn) (a5:List (List Gv)) (Y:OA)(a0:Nat)(H:List Rw) (v:List Gi) (m:OA)(o:Nat)(x:LV)(L:List Int) (b:OA)(c:Nat)(F:LV),Has f [(0,Pt ai),(5,Z p Q t),(6,V (x0.b.length:Int))]∧Bx w0 w d6 G [O w0.heap.size p t 111 Gs u,.box ai 115 #[Z W J X,Z M K N,Z Y a5 a0,Z m v o,V a1,Z b L c,V a3,V a4],O ac M N 82 Gn a2,O ae Y a0 60 (List Gv) (H.map Rw.hdr),.qR af 59 (sz Gv) H none,O ag m o 65 Gi x,O a8 b c 3 Int F] [.l W X J,.els u Q,.els a2 K,.mQ H a5,.els x v,.els F L,.l am an x1]∧Ld.go (Q,J,a1,a3,a4,K,a5,v,L)=Y1) (fun J1 bH=>?_) ?_
 ·refine nS (kE (fun d8 f w=>∃ (k1:Nat)(Q:List Gs) (p:OA)(t:Nat)(u:LV)(J:List Gr) (a1:Int)(a3:Int)(a4:Int)(K:List Gn) (a5:List (List Gv)) (Y:OA)(a0:Nat)(H:List Rw) (v:List Gi) (m:OA)(o:Nat)(x:LV)(L:List Int) (b:OA)(c:Nat)(F:LV),d8=x1.length - k1∧k1≤x1.length∧Has f [(18,V (k1:Int)),(0,Pt ai),(5,Z p Q t),(6,V (x0.b.length:Int)),(16,Z am x1 an),(17,V (x1.length:Int))]∧Bx w0 w d6 G [O w0.heap.size p t 111 Gs u,.box ai 115 #[Z W J X,Z M K N,Z Y a5 a0,Z m v o,V a1,Z b L c,V a3,V a4],O ac M N 82 Gn a2,O ae Y a0 60 (List Gv) (H.map Rw.hdr),.qR af 59 (sz Gv) H none,O ag m o 65 Gi x,O a8 b c 3 Int F] [.l W X J,.els u Q,.els a2 K,.mQ H a5,.els x v,.els F L,.l am an x1]∧oq fu r_r04_block r_r04_stmt (x1.drop k1) k1 Q J a1 a3 a4 K a5 v L=some Y1) (x1.length) ⟨0,([]:List Gs),none,0,[],x0.a.a.a,x0.f,x0.c,x0.e,x0.a.a.b,x0.a.b,aH,aI,aJ,x0.a.c,aK,aL,b7,x0.b,aM,aN,b9,r,Nat.zero_le _,⟨r,r,r,r,r,r,y⟩,(a.dp [1,0,2,3,4,5,6]),a6⟩ ?_)
  clear a a6
  rintro d8 f w ⟨k1,Q,p,t,u,J,a1,a3,a4,K,a5,Y,a0,H,v,m,o,x,L,b,c,F,rfl,cF,hf,a,a6⟩ K1 cc
  obtain ⟨d7,rfl⟩:=fV _ _ hf
  clear hf
  rcases Nat.lt_or_ge k1 x1.length with bI | bI
  ·obtain ⟨E,bz⟩:=lY (l:=x1) bI
   rw [lK bz,oq] at a6
   obtain ⟨cG,cd,a⟩:=a.nm 6 rfl bz
   obtain ⟨ap,aq,ar,au,av,aw,ax,ay,rfl,bJ,bK,bL,bM⟩:=jO.out cd
   replace a:=a.kr (d:=.l ap aq E.c) bJ
   replace a:=a.kr (d:=.l ar au E.a) bK
   replace a:=a.kr (d:=.l av aw E.d) bL
   replace a:=a.kr (d:=.l ax ay E.h) bM
   refine q (g (s (qz r r (by omega)) (n (q (jJ r (wk (q (nS (q (g (s (kW Af jQ r r r (a.dl 11 r) bz) (s (mR [V E.e,V E.f,V E.n,T E.b,T E.j,V E.m,V E.g,Z ap E.c aq,T E.k,V E.i,Z ar E.a au,Z av E.d aw,Z ax E.h ay] lV r jQ r r (a.dc 4 r)) (sV a (jU jQ) fun w4 b4 a=>kZ (nU a 0 [V E.e,V E.f,V E.n,T E.b,T E.j,V E.m,V E.g,Z ap E.c aq,T E.k,V E.i,Z ar E.a au,Z av E.d aw,Z ax E.h ay] r jQ r r) fun w5 a=>n (q (q (g (s (mp r) (s (xn r) (s (yX r) (s (BK r (a.bk 2 r) r) (s (rT r r) (n ?_))))))))))))))))))))))
   rcases iv a6 with ⟨h6,a6⟩|⟨h6,a6⟩
   ·exact jJ (bt h6) (ug (bH _ _ ⟨Q,p,t,u,J,a1,a3,a4,K,a5,Y,a0,H,v,m,o,x,L,b,c,F,⟨r,r,r,y⟩,(a.ad [1,2,3,4,5,6,7] [5,6,7,8,9,10,11]),sm a6⟩))
   refine jD (bf h6) (wk (g (s (nL r) (s (mp r) (s (ng [V E.e,V E.f,V E.n,T E.b,T E.j,V E.m,V E.g,Z ap E.c aq,T E.k,V E.i,Z ar E.a au,Z av E.d aw,Z ax E.h ay] lV jQ r (a.bk 0 r)) ?_)))))
   obtain ⟨U,ab,h7,a6⟩:=lX a6
   have hc:=H_r04_stmt (a.pr [2,3,4,5,6,7] [0,1] [5,7,8,9,10,3,2,1,0] r) (a.le bj) (a.le bl) (a.le bm) (a.le bn) (a.le aP) h7
   refine sc (ec Xd r) hc ?_
   rintro _ w7 ⟨az,aA,aB,aC,aD,aE,aF,aG,aX,aY,aZ,b0,b1,b2,b3,b5,b6,rfl,hK⟩
   replace a:=a.cn [2,3,4,5,6,7] [0,1] hK
   refine nM (jN a [[V U.e,V U.f,V U.n,T U.b,T U.j,V U.m,V U.g,Z az U.c aA,T U.k,V U.i,Z aB U.a aC,Z aD U.d aE,Z aF U.h aG]] ([U]:List Gs) (rD r) r r (by decide) ⟨(jO.inn ⟨az,aA,aB,aC,aD,aE,aF,aG,r,(a.dl 0 r),(a.dl 1 r),(a.dl 2 r),(a.dl 3 r)⟩),y⟩) ?_
   rintro _ w8 ⟨b8,rfl,a⟩
   obtain ⟨r9,cg,a6⟩:=bs a6
   refine nM (kL a 8 16 r r Af jQ r (by decide) (by decide) (Nat.le_refl _) r r (a.zN 0 0 r r) cg) ?_
   rintro _ w9 ⟨A9,C9,Q9,rfl,a⟩
   exact s (mG r) (n (g (s (lU r r (by omega) (by omega)) (s (mi r) (n (cc (x1.length - (k1+1)) _ _ (by omega) ⟨k1+1,r9,A9,C9,Q9,ab.a.a.a,ab.f,ab.c,ab.e,ab.a.a.b,ab.a.b,aX,aY,aZ,ab.a.c,b0,b1,b2,ab.b,b3,b5,b6,r,by omega,⟨r,r,r,r,r,r,y⟩,(a.ad [8,1,2,3,4,5,6] [5,16,6,7,8,9,21]),a6⟩))))))
  obtain rfl:k1=x1.length:=by omega
  rw [lu,oq] at a6
  exact q (g (s (qL r r (by omega)) (n (q (jD r (ug (bH _ _ ⟨Q,p,t,u,J,a1,a3,a4,K,a5,Y,a0,H,v,m,o,x,L,b,c,F,⟨r,r,r,y⟩,a,sm a6⟩)))))))
 clear a
 rintro f w ⟨Q,p,t,u,J,a1,a3,a4,K,a5,Y,a0,H,v,m,o,x,L,b,c,F,hf,a,ch⟩
 obtain ⟨d7,rfl⟩:=fV _ _ hf
 clear hf
 subst ch
 replace hM:=gi hM
 replace hM:=AZ (mE (mE hM))
 refine q (q (g (s (mp r) (s (xn r) (s (zW r) (s (QM r (a.bk 1 r) r) (s (mi r) ?_)))))))
 obtain ⟨a9,bN,hM⟩:=bs hM
 obtain ⟨ao,ci,bO,cx,aO,ba,aQ⟩:=Bq bN
 have bA:a9.length=ci - ao:=by rw [← aQ,List.length_take,List.length_drop];omega
 obtain ⟨bB,aR⟩:∃ A,(if c=ao then b else b.map (·.add (ao * sz Int)))=A:=⟨_,rfl⟩
 obtain ⟨bC,aS⟩:∃ C,(c - ao)=C:=⟨_,rfl⟩
 have bP:Value.slice (if c=ao then b else b.map (·.add (ao * sz Int))) (L.length - ao) (c - ao)=Value.slice bB a9.length bC:=by rw [bA,← aR,← aS];simp;try omega
 refine s (show Yl _ _ _ _ _ _ _ _ _ (.slice bB a9.length bC) from bP ▸ YX ao sH mP r r bO (by omega)) (s (lF sH r) (s (mi r) (n ?_)))
 have cy:=(kK.PN (a.vw 6 5 r r) aO ba aQ aR aS).bd
 obtain ⟨bQ,S,hM⟩:=bs hM
 refine nT (fun f w=>∃ (I:List (List Gv)) (B:OA)(D:Nat)(j:List Rw),Has f [(0,Pt ai),(5,Z p Q t),(6,V (x0.b.length:Int))]∧Bx w0 w d6 G [O w0.heap.size p t 111 Gs u,.box ai 115 #[Z W J X,Z M K N,Z B I D,Z m v o,V a1,Z b L c,V a3,V a4],O ac M N 82 Gn a2,O ae B D 60 (List Gv) (j.map Rw.hdr),.qR af 59 (sz Gv) j none,O ag m o 65 Gi x,O a8 b c 3 Int F] [.l W X J,.els u Q,.els a2 K,.mQ j I,.els x v,.els F L]∧Ld.go I=bQ) (fun cN bR=>?_) ?_
 ·refine nS (kE (fun d8 f w=>∃ (aj:Nat)(I:List (List Gv)) (B:OA)(D:Nat)(j:List Rw),d8=a9.length - aj∧aj≤a9.length∧Has f [(41,V (aj:Int)),(0,Pt ai),(5,Z p Q t),(6,V (x0.b.length:Int)),(39,Z bB a9 bC),(40,V (a9.length:Int))]∧Bx w0 w d6 G [O w0.heap.size p t 111 Gs u,.box ai 115 #[Z W J X,Z M K N,Z B I D,Z m v o,V a1,Z b L c,V a3,V a4],O ac M N 82 Gn a2,O ae B D 60 (List Gv) (j.map Rw.hdr),.qR af 59 (sz Gv) j none,O ag m o 65 Gi x,O a8 b c 3 Int F] [.l W X J,.els u Q,.els a2 K,.mQ j I,.els x v,.els F L]∧oG fu r_r04_block r_r04_stmt a1 v (a9.drop aj) aj I=some bQ) (a9.length) ⟨0,a5,Y,a0,H,r,Nat.zero_le _,⟨r,r,r,r,r,r,y⟩,(a.dp [0,1,2,3,4,5]),S⟩ ?_)
  clear a S
  rintro d8 f w ⟨aj,I,B,D,j,rfl,cz,hf,a,S⟩ cO bS
  obtain ⟨d7,rfl⟩:=fV _ _ hf
  clear hf
  rcases Nat.lt_or_ge aj a9.length with bq | bq
  ·obtain ⟨cj,bb⟩:=lY (l:=a9) bq
   rw [lK bb,oG] at S
   refine q (g (s (qz r r (by omega)) (n (q (jJ r (wk (q (nS (q (g (s (kW sH mP r r r (kK.PN (a.vw 6 5 r r) aO ba aQ aR aS) bb) (s (jP F8 r r ((uK (ds:=[V cj]) (kK.PN (a.vw 6 5 r r) aO ba aQ aR aS) bb (fun _ h=>h)) 0 _ r)) (s (xi r) (n ?_))))))))))))))
   obtain ⟨ck,bc,S⟩:=bs S
   obtain ⟨bD,bT,bc⟩:=kR bc
   replace a:=a.arr [4,0,1,2,3,5,6] r
   try dsimp only [pick,nth,ca,na] at a
   obtain ⟨bU,bV,cP,bg,bW,a⟩:=a.Wj 3 rfl bc
   refine Kr a [1,3,5] [4] [0,1,3,5] [0,4] [21] (by kernel_rfl) ?_
   replace a:=a.drew
   have hs:=(a.ad [1,3,5] [4])
   have hu:=(a.ad [0,1,3,5] [0,4])
   refine pL 0 r (mp r) hs hu (pL 1 r (xn r) hs hu (pL 2 r (pG r) hs hu (pL 3 r (y5 r) hs hu (tU 4 r (fun _ hS=>MB r (hS.bk 1 r) r) (nA hs hu) (pL 5 r (mp r) hs hu (pL 6 r (xn r) hs hu (pL 7 r (Aa r) hs hu (tU 8 r (fun _ hS=>l3 r (hS.bk 1 r) r) (nA hs hu) (pL 9 r (KH Cn Dg r r bT (a.bo 5 r) bg (a.d2 4 r).len) hs hu (tU 10 r (fun _ hS=>jP zQ r r (hS.hc 2 r bg bW 0 _ r)) (nA hs hu) (pL 11 r (mi r) hs hu (pL 12 r (mp r) hs hu (pL 13 r (xn r) hs hu (pL 14 r (pG r) hs hu (pL 15 r (Ef r) hs hu (tU 16 r (fun _ hS=>UY r (hS.bk 1 r) r) (nA hs hu) (pL 17 r (lF LP r) hs hu (pL 18 r (xJ r r) hs hu ?_))))))))))))))))))
   obtain ⟨aa,aT,S⟩:=bs S
   obtain ⟨bX,bY,aT⟩:=kR aT
   refine pL 19 r (kW zQ yU r r bY (a.vw 0 0 r r) aT) hs hu (pL 20 r (Lj r) hs hu ?_)
   obtain ⟨cm,aU,S⟩:=bs S
   obtain ⟨cn,cA,_,aU⟩:=Ar aU
   obtain rfl:bX=cn:=by omega
   obtain ⟨co,bZ,bh⟩:=(a.de 0 rfl).get aT
   replace bh:co=[T aa.b,V aa.e,V aa.c,V aa.a,.bool aa.f,V aa.d,V aa.g]:=bh
   subst bh
   refine hO 21 (os r r (Jz a 0 0 bX 6 [V (wr ((v.length:Int) - 1))] r r bZ mP r r r r r (show _=[T aa.b,V aa.e,V aa.c,V aa.a,.bool aa.f,V aa.d,V (wr ((v.length:Int) - 1))] from r) r aU) ?_)
   rintro cQ ⟨c0,a⟩
   try dsimp only [List.set] at a
   have br:ck.length=cm.length:=by rw [← aU,List.length_set]
   try dsimp only [Z] at a
   try rw [br] at a
   try dsimp only [Z]
   try rw [br]
   have hs:=(a.ad [1,3,5] [4])
   refine ⟨(sy 21 hs),(hD (g (s (lU r r (by omega) (by omega)) (s (mi r) (n ?_)))))⟩
   obtain ⟨c1,aV,S⟩:=bs S
   obtain ⟨cp,cB,_,aV⟩:=Ar aV
   obtain rfl:bD=cp:=by omega
   have cC:=(a.de 0 r).len
   replace a:=a.hd 5 (H':=((j.set bD ⟨bU,bV,c0⟩).map Rw.hdr)) r (Ur bg (by omega))
   try dsimp only [List.set] at a
   replace a:=a.arr [0,1,2,3,4,5,6,7] r
   try dsimp only [pick,nth,ca,na] at a
   replace a:=a.Yk 4 0 r r
   try dsimp only [List.set] at a
   rw [aV] at a
   obtain ⟨cq,c2⟩:∃ R,(j.set bD ⟨bU,bV,c0⟩)=R:=⟨_,rfl⟩
   rw [c2] at a
   have bu:I.length=c1.length:=by rw [← aV,List.length_set]
   try dsimp only [Z] at a
   try rw [bu] at a
   try dsimp only [Z]
   try rw [bu]
   exact bS (a9.length - (aj+1)) _ _ (by omega) ⟨aj+1,c1,B,D,cq,r,by omega,⟨r,r,r,r,r,r,y⟩,(a.ad [1,2,3,4,0,5,6] [1,2,3,4,5,6]),S⟩
  obtain rfl:aj=a9.length:=by omega
  rw [lu,oG] at S
  exact q (g (s (qL r r (by omega)) (n (q (jD r (ug (bR _ _ ⟨I,B,D,j,⟨r,r,r,y⟩,a,sm S⟩)))))))
 clear a
 rintro f w ⟨I,B,D,j,hf,a,c3⟩
 obtain ⟨d7,rfl⟩:=fV _ _ hf
 clear hf
 subst c3
 replace hM:=gi hM
 refine q (g (s (mp r) (nM (jN a [] ([]:List Int) (FK) r r (by decide) y) ?_)))
 rintro _ cR ⟨cS,rfl,a⟩
 refine s (mp r) (s (xn r) (s (zW r) (s (QM r (a.bk 2 r) r) (s (mi r) ?_))))
 obtain ⟨c4,c5,hM⟩:=bs hM
 obtain ⟨cr,c6,cD,c7,ct,bv,bw⟩:=Bq c5
 obtain rfl:cr=0:=by omega
 have bE:c4.length=c6:=by rw [← bw,List.length_take,List.length_drop];omega
 refine s (show Yl _ _ _ _ _ _ _ _ _ (.slice b c4.length c) from (congrArg (fun z=>Value.slice b z c) bE).symm ▸ yS c6 sH mP r r c7 (Nat.le_trans bv ((a.vw 7 6 r r)).cap)) ?_
 obtain ⟨c8,c9,hM⟩:=bs hM
 refine nM (kL a 0 0 r r sH mP r (by decide) (by decide) (Nat.le_refl _) r r (a.zR 7 6 r r bv bw) c9) ?_
 rintro _ cT ⟨bF,bG,cu,rfl,a⟩
 refine s (xn r) (s (zW r) (kZ (t_n a 2 [Z bF c8 bG] r Aj r r) fun cU a=>n (q (g (s (nL r) (s (mG r) (n (kU ?_))))))))
 replace a:=a.rb 0 a8 r aP
 obtain rfl:=sm hM
 exact jB r (lq r) (mJ (⟨p,t,u,B,D,j,m,o,x,bF,bG,cu,r,(a.ad [1,2,3,4,5,6,0] [2,1,3,4,5,0])⟩))
theorem KD (fu:Nat)(r_r04_block:pE) (r_r04_stmt:qI) (H_r04_block:wz r_r04_block) (H_r04_stmt:zV r_r04_stmt):zV (vO fu r_r04_block r_r04_stmt):=by
 intro w0 eW U b aU ac ae a9 aa am aP an ao af aQ aR bF bG c9 aS ap aq au aF Q S D E B C u v R hP a3 a4 a5 X Y x
 unfold vO at x
 have a:=hP.bx
 clear hP
 generalize hG:lS _=G at a ⊢
 refine cf Try.func99 r (lM [(0,Pt aU),(1,.agg #[V b.e,V b.f,V b.n,T b.b,T b.j,V b.m,V b.g,Z Q b.c S,T b.k,V b.i,Z D b.a E,Z B b.d C,Z u b.h v])] ⟨r,r,y⟩ fun eX=>q (g (sV a (yY r) fun w1 b1 a=>sV a (jU jQ) fun w2 b2 a=>n (q (g (s (mp r) (s (xn r) (s (pG r) (s (Ef r) (s (UY r (a.bk 2 r) r) (s (lF LP r) (s (LU r) (kZ (t_n a 1 [V (U.a.c.length:Int)] r mP r r) fun w3 a=>n (q (q (g (s (LU r) (s (l3 r (a.bk 1 r) r) (s (AX r r) (n ?_))))))))))))))))))))
 rcases iv x with ⟨h4,x⟩|⟨h4,x⟩
 ·refine jJ (bt h4) (q (g (s (mp r) (s (Ac r) (s (l3 r (a.bk 1 r) r) ?_)))))
  obtain ⟨dY,h5,x⟩:=bs x
  have hc:=(mZ fu) (a.pr [2,3,4,5,6,7] [0,1] [0,1,2,3,4] r) (a.le a3) (a.le a4) (a.le a5) (a.le X) (a.le Y) h5
  refine sc (ec yZ r) hc ?_
  rintro _ w5 ⟨rfl,hK⟩
  replace a:=a.cn [2,3,4,5,6,7] [0,1] hK
  refine n (q (g (s (ng [V b.e,V b.f,V (U.a.c.length:Int),T b.b,T b.j,V b.m,V b.g,Z Q b.c S,T b.k,V b.i,Z D b.a E,Z B b.d C,Z u b.h v] lV jQ r (a.bk 7 r)) (kZ (nU a 6 [V b.e,V b.f,V (U.a.c.length:Int),T b.b,T b.j,V b.m,V b.g,Z Q b.c S,T b.k,V b.i,Z D b.a E,Z B b.d C,Z u b.h v] r jQ r r) fun w6 a=>n (kU ?_)))))
  obtain rfl:=sm x
  exact jB r (tV r lV r jQ r (a.bk 6 r)) (mJ (⟨Q,S,D,E,B,C,u,v,an,ao,af,bF,bG,c9,ap,aq,au,r,(a.ad [0,1,2,3,4,5] [10,11,12,13,0,1,2,3,4])⟩))
 refine jD (bf h4) (wk (q (Kr a [1] [] [1,2] [] [20] (by kernel_rfl) ?_)))
 replace a:=a.drew
 have A:=(a.ad [1] [])
 have hu:=(a.ad [1,2] [])
 refine pL 0 r (mp r) A hu (pL 1 r (mp r) A hu (pL 2 r (xn r) A hu (pL 3 r (pG r) A hu (pL 4 r (Ef r) A hu (tS 1 5 r (fun _ hS=>UY r (hS.bk 1 r) r) (nA A hu) (pL 6 r (mp r) A hu (pL 7 r (xn r) A hu (pL 8 r (Aa r) A hu (tS 1 9 r (fun _ hS=>l3 r (hS.bk 1 r) r) (nA A hu) (pL 10 r (xM r) A hu (tU 11 r (fun _ hS=>l3 r (hS.bk 0 r) r) (nA A hu) (pL 12 r (Ac r) A hu (tU 13 r (fun _ hS=>l3 r (hS.bk 0 r) r) (nA A hu) (pL 14 r (Lv r r r) A hu (hO 15 (oo r r (jN a [[V U.f,V b.e,V b.f]] ([(⟨U.f,b.e,b.f⟩:Gi)]:List Gi) (PL r) r r (by decide) ⟨r,y⟩) ?_))))))))))))))))
 rintro _ w7 ⟨b7,rfl,a⟩
 have A:=(a.ad [2] [])
 have hu:=(a.ad [2,3] [])
 refine ⟨(nA A hu),?_⟩
 obtain ⟨r8,dt,x⟩:=bs x
 refine hO 16 (oo r r (kL a 7 4 r r LP Zo r (by decide) (by decide) X r r (a.zN 0 0 r r) dt) ?_)
 rintro _ w8 ⟨A8,C8,Q8,rfl,a⟩
 have A:=(a.ad [2] [])
 have hu:=(a.ad [2,3] [])
 refine ⟨(nA A hu),(pL 17 r (xn r) A hu (pL 18 r (pG r) A hu (pL 19 r (Ef r) A hu (hO 20 (os r r (t_n a 3 [Z A8 r8 C8] r VA r r) fun e5 a=>?_)))))⟩
 have A:=(a.ad [2] [])
 refine ⟨(sy 20 A),(hD (q (q (g (s (xM r) (s (l3 r (a.bk 2 r) r) (n ?_)))))))⟩
 obtain ⟨du,t,x⟩:=bs x
 refine nT (fun f w=>∃ (bj:List Gr) (bH:Int)(bI:Int)(bJ:Int)(bl:List Gn) (bm:List (List Gv)) (bn:List Gi) (bp:List Int),Has f [(0,Pt aU),(3,Pt b1),(4,Pt b2)]∧Bx w0 w eW G [.box b2 111 #[V 0,V 0,V 0,T be,T be,V 0,V 0,sn,T be,V 0,sn,sn,sn],.box b1 111 #[V b.e,V b.f,V (U.a.c.length:Int),T b.b,T b.j,V b.m,V b.g,Z Q b.c S,T b.k,V b.i,Z D b.a E,Z B b.d C,Z u b.h v],.box aU 115 #[Z ac bj ae,Z a9 bl aa,Z an bm ao,Z A8 bn C8,V bH,Z ap bp aq,V bI,V bJ],O aP a9 aa 82 Gn am,O aQ an ao 60 (List Gv) (af.map Rw.hdr),.qR aR 59 (sz Gv) af none,O aS A8 C8 65 Gi Q8,O aF ap aq 3 Int au] [.l ac ae bj,.els am bl,.mQ af bm,.els Q8 bn,.els au bp,.l Q S b.c,.l D E b.a,.l B C b.d,.l u v b.h]∧Ld.go (bj,bH,bI,bJ,bl,bm,bn,bp)=du) (fun e6 c3=>?_) ?_
 ·unfold tL at t
  refine nS (q (g (s (kH r r) (s (ko r) (n ?_)))))
  rcases iv t with ⟨cz,t⟩|⟨cz,t⟩
  ·refine jJ (bt cz) (q (g (s (zB r) (s (l9 r (a.bk 2 r) r) (s (LU r) (s (l3 r (a.bk 2 r) r) (s (kJ r r) (s (Bz r r r r r) (sV a (jU yU) fun e7 d0 a=>kZ (nU a 0 [T b.b,V 1,V (-1),V 1,.bool false,V (wr ((U.a.c.length:Int)+1)),V 0] r yU r r) fun e8 a=>n (q ?_))))))))))
   obtain ⟨dv,a0,t⟩:=bs t
   refine nT (fun f w=>∃ (bq:Int)(br:Int)(bu:Int),Has f [(0,Pt aU),(3,Pt b1),(4,Pt b2),(5,Pt d0)]∧Bx w0 w eW G [.box d0 59 #[T b.b,V bq,V br,V bu,.bool false,V (wr ((U.a.c.length:Int)+1)),V 0],.box b2 111 #[V 0,V 0,V 0,T be,T be,V 0,V 0,sn,T be,V 0,sn,sn,sn],.box b1 111 #[V b.e,V b.f,V (U.a.c.length:Int),T b.b,T b.j,V b.m,V b.g,Z Q b.c S,T b.k,V b.i,Z D b.a E,Z B b.d C,Z u b.h v],.box aU 115 #[Z ac U.a.a.a ae,Z a9 U.a.a.b aa,Z an U.a.b ao,Z A8 r8 C8,V U.f,Z ap U.b aq,V U.c,V U.e],O aP a9 aa 82 Gn am,O aQ an ao 60 (List Gv) (af.map Rw.hdr),.qR aR 59 (sz Gv) af none,O aS A8 C8 65 Gi Q8,O aF ap aq 3 Int au] [.l ac ae U.a.a.a,.els am U.a.a.b,.mQ af U.a.b,.els Q8 r8,.els au U.b,.l Q S b.c,.l D E b.a,.l B C b.d,.l u v b.h]∧Ld.go (bq,br,bu)=dv) (fun e9 cc=>?_) ?_
   ·unfold tO at a0
    refine q (g (s (Bl r) (s (l3 r (a.bk 3 r) r) (s (uZ r r) (n ?_)))))
    rcases iv a0 with ⟨cA,a0⟩|⟨cA,a0⟩
    ·refine jJ (bt cA) (qc a [3] [] [] (by kernel_rfl) ?_)
     replace a:=a.drew
     have A:=(a.ad [3] [])
     refine pF 0 r (Bl r) A (uF 1 r (fun hS=>l3 r (hS.bk 0 r) r) A (pF 2 r (QF r) A (hO 3 (os r r (t_n a 0 [V 3] r mP r r) fun ea a=>?_))))
     have A:=(a.ad [3] [])
     refine ⟨(sF A),(pF 4 r (QG r) A (hO 5 (os r r (t_n a 0 [V b.m] r mP r r) fun eb a=>?_)))⟩
     have A:=(a.ad [3] [])
     exact ⟨(sF A),(hD (cc _ _ ⟨3,(-1),b.m,⟨r,r,r,r,y⟩,(a.ad [0,2,3,4,5,6,7,8,9] [1,2,3,4,5,6,7,8,9]),sm a0⟩))⟩
    refine jD (bf cA) (q (g (s (EY r) (s (l9 r (a.bk 3 r) r) (s (JD r r) (n ?_))))))
    rcases iv a0 with ⟨cB,a0⟩|⟨cB,a0⟩
    ·refine jJ (bt cB) (q (g (s (mp r) (s (EY r) (s (l9 r (a.bk 3 r) r) ?_)))))
     obtain ⟨bv,dw,dx,a0⟩:=lX a0
     have hc:=(Gj fu) (a.pr [4,5,6,7,8,9] [0,1,2,3] [1,2,3,4,5] r) (a.le a3) (a.le a4) (a.le a5) (a.le X) (a.le Y) dx
     refine sc (ec UR r) hc ?_
     rintro _ ed ⟨rfl,hK⟩
     replace a:=a.cn [4,5,6,7,8,9] [0,1,2,3] hK
     refine s sM (s (kg r r) (s (kg r r) (s (xi r) (s (ko r) (n (q (q (g (s (kQ r) (s (Ae r) (n ?_)))))))))))
     rcases iv a0 with ⟨cd,a0⟩|⟨cd,a0⟩
     ·refine jJ (cb cd) (q (g (s (mp r) (s (Ac r) (s (l3 r (a.bk 9 r) r) ?_)))))
      obtain ⟨dy,dz,a0⟩:=bs a0
      have hc:=(mZ fu) (a.pr [0,1,2,3,4,5] [6,7,8,9] [6,1,2,3,4] r) (a.le a3) (a.le a4) (a.le a5) (a.le X) (a.le Y) dz
      refine sc (ec yZ r) hc ?_
      rintro _ ee ⟨rfl,hK⟩
      replace a:=a.cn [0,1,2,3,4,5] [6,7,8,9] hK
      refine n (q (g (s (ng [V b.e,V b.f,V (U.a.c.length:Int),T b.b,T b.j,V b.m,V b.g,Z Q b.c S,T b.k,V b.i,Z D b.a E,Z B b.d C,Z u b.h v] lV jQ r (a.bk 9 r)) (kZ (nU a 8 [V b.e,V b.f,V (U.a.c.length:Int),T b.b,T b.j,V b.m,V b.g,Z Q b.c S,T b.k,V b.i,Z D b.a E,Z B b.d C,Z u b.h v] r jQ r r) fun ef a=>n (kU ?_)))))
      obtain rfl:=sm a0
      replace t:=oi t
      obtain rfl:=sm t
      replace x:=oi x
      obtain rfl:=sm x
      exact jB r (tV r lV r jQ r (a.bk 8 r)) (mJ (⟨Q,S,D,E,B,C,u,v,an,ao,af,A8,C8,Q8,ap,aq,au,r,(a.ad [0,1,2,3,4,5] [16,17,18,19,0,1,2,3,4])⟩))
     replace cd:=nt cd
     refine jD (cb cd) (wk ?_)
     obtain ⟨cp,c4,a0⟩:=bs a0
     obtain ⟨eg,d1,c4⟩:=kR c4
     obtain ⟨dZ,d3,a⟩:=a.nm 6 rfl c4
     obtain ⟨cC,cD,rfl,cE⟩:=nk.out d3
     replace a:=a.kr (d:=.l cC cD cp.a) cE
     refine qc a [0] [0,1,8] [] (by kernel_rfl) ?_
     replace a:=a.drew
     have A:=(a.ad [0] [0,1,8])
     refine pF 0 r (mi r) A (pF 1 r (mp r) A (pF 2 r (xn r) A (pF 3 r (pG r) A (pF 4 r (FB r) A (pF 5 r (Dk r) A (uF 6 r (fun hS=>Ta r (hS.bk 0 r) r) A (pF 7 r (mi r) A (pF 8 r (kW GY wR r r d1 (a.dl 8 r) c4) A (pF 9 r (Bt r) A (uF 10 r (fun hS=>jP kP r r ((hS.dc 1 r) 1 _ r)) A (pF 11 r (lF kP r) A (pF 12 r (QF r) A (hO 13 (os r r (t_n a 6 [V 2] r mP r r) fun eh a=>?_))))))))))))))
     have A:=(a.ad [0] [0,1,8])
     refine ⟨(sF A),(pF 14 r (Td r) A (hO 15 (os r r (t_n a 6 [V bv] r mP r r) fun ei a=>?_)))⟩
     have A:=(a.ad [0] [0,1,8])
     refine ⟨(sF A),(pF 16 r (QG r) A (hO 17 (os r r (t_n a 6 [V (cp.a.length:Int)] r mP r r) fun ej a=>?_)))⟩
     have A:=(a.ad [0] [0,1,8])
     exact ⟨(sF A),(hD (cc _ _ ⟨2,bv,(cp.a.length:Int),⟨r,r,r,r,y⟩,(a.ad [6,8,9,0,1,2,3,4,5] [8,3,4,5,6,13,14,15,16]),sm a0⟩))⟩
    exact jD (bf cB) (wk (cc _ _ ⟨1,(-1),1,⟨r,r,r,r,y⟩,(a.ad [0,2,3,4,5,6,7,8,9] [1,2,3,4,5,6,7,8,9]),sm a0⟩))
   clear a
   rintro f w ⟨bq,br,bu,hf,a,d4⟩
   obtain ⟨eX,rfl⟩:=fV _ _ hf
   clear hf
   subst d4
   replace t:=gi t
   replace t:=AZ t
   refine q (g (s (mp r) (s (Ac r) (s (l3 r (a.bk 2 r) r) (s (ng [T b.b,V bq,V br,V bu,.bool false,V (wr ((U.a.c.length:Int)+1)),V 0] QE yU r (a.bk 0 r)) ?_)))))
   obtain ⟨aX,dA,dB,t⟩:=lX t
   have hc:=(zD fu) (a.pr [3,4,5,6,7,8] [0,1,2] [0,1,2,3,4] r) (a.le a3) (a.le a4) (a.le a5) (a.le X) (a.le Y) dB
   refine sc (ec Qf r) hc ?_
   rintro _ ek ⟨bK,bL,bM,bN,bO,bP,rfl,hK⟩
   replace a:=a.cn [3,4,5,6,7,8] [0,1,2] hK
   refine s (LC r) (kZ (t_n a 8 [V aX] r mP r r) fun em a=>n (q (g (s (ng [V b.e,V b.f,V (U.a.c.length:Int),T b.b,T b.j,V b.m,V aX,Z Q b.c S,T b.k,V b.i,Z D b.a E,Z B b.d C,Z u b.h v] lV jQ r (a.bk 8 r)) (kZ (nU a 7 [V b.e,V b.f,V (U.a.c.length:Int),T b.b,T b.j,V b.m,V aX,Z Q b.c S,T b.k,V b.i,Z D b.a E,Z B b.d C,Z u b.h v] r jQ r r) fun en a=>n (kU ?_))))))
   obtain rfl:=sm t
   replace x:=oi x
   obtain rfl:=sm x
   exact jB r (tV r lV r jQ r (a.bk 7 r)) (mJ (⟨Q,S,D,E,B,C,u,v,bK,bL,bM,A8,C8,Q8,bN,bO,bP,r,(a.ad [0,1,2,3,4,5] [10,11,12,13,0,1,2,3,4])⟩))
  refine jD (bf cz) (q (g (s (kH r r) (s (ko r) (n ?_)))))
  rcases iv t with ⟨cF,t⟩|⟨cF,t⟩
  ·refine jJ (bt cF) (q (g (s (xO r) (s (AV r (a.bk 2 r) r) (s (lF tX r) (s (uZ r r) (s (kQ r) ?_)))))))
   rcases iv t with ⟨cG,t⟩|⟨cG,t⟩
   ·rw [decide_eq_true cG]
    refine ku r (s (xO r) (ku r (s (AV r (a.bk 2 r) r) ?_)))
    obtain ⟨dC,c5,t⟩:=bs t
    obtain ⟨eo,d5,c5⟩:=kR c5
    obtain ⟨e0,d6,a⟩:=a.nm 6 rfl c5
    obtain ⟨cH,cI,rfl,cJ⟩:=jA.out d6
    replace a:=a.kr (d:=.l cH cI dC.a) cJ
    refine ku r (s (kW tX jT r r d5 (a.dl 8 r) c5) (ku r (s (z8 r) (ku r (s (jP F8 r r ((a.dc 1 r) 0 _ r)) (ku r (s (rT r r) (s (kG r r) (n ?_)))))))))
    rcases iv t with ⟨cK,t⟩|⟨cK,t⟩
    ·refine jJ (bt cK) (g (s (mp r) (s (Ac r) (s (l3 r (a.bk 2 r) r) ?_))))
     obtain ⟨ax,dD,t⟩:=bs t
     have hc:=(mZ fu) (a.pr [3,4,5,6,7,8] [0,1,2] [3,4,5,6,7] r) (a.le a3) (a.le a4) (a.le a5) (a.le X) (a.le Y) dD
     refine sc (ec yZ r) hc ?_
     rintro _ ep ⟨rfl,hK⟩
     replace a:=a.cn [3,4,5,6,7,8] [0,1,2] hK
     exact n (c3 _ _ ⟨ax.a.a.a,ax.f,ax.c,ax.e,ax.a.a.b,ax.a.b,ax.a.c,ax.b,⟨r,r,r,y⟩,(a.ad [7,8,0,1,2,3,4,5] [0,1,2,3,4,13,14,15,16]),sm t⟩)
    exact jD (bf cK) (wk (c3 _ _ ⟨U.a.a.a,U.f,U.c,U.e,U.a.a.b,U.a.b,r8,U.b,⟨r,r,r,y⟩,(a.ad [1,2,3,4,5,6,7,8] [3,4,5,6,7,8,9,10,11]),sm t⟩))
   rw [decide_eq_false cG]
   exact jL r (jL r (jL r (jL r (jL r (jL r (s (jZ r r) (n (jD r (wk (c3 _ _ ⟨U.a.a.a,U.f,U.c,U.e,U.a.a.b,U.a.b,r8,U.b,⟨r,r,r,y⟩,(a.ad [1,2,3,4,5,6,7,8] [1,2,3,4,5,6,7,8,9]),sm t⟩))))))))))
  exact jD (bf cF) (wk (c3 _ _ ⟨U.a.a.a,U.f,U.c,U.e,U.a.a.b,U.a.b,r8,U.b,⟨r,r,r,y⟩,(a.ad [1,2,3,4,5,6,7,8] [1,2,3,4,5,6,7,8,9]),sm t⟩))
 clear a
 rintro f w ⟨bj,bH,bI,bJ,bl,bm,bn,bp,hf,a,d7⟩
 obtain ⟨eX,rfl⟩:=fV _ _ hf
 clear hf
 subst d7
 replace x:=gi x
 replace x:=pi (mE (mE x))
 refine q (g (s (mp r) (s (xO r) (s (AV r (a.bk 1 r) r) (s (Ac r) (s (l3 r (a.bk 1 r) r) ?_))))))
 obtain ⟨bQ,ay,dE,x⟩:=lX x
 have hc:=(CU fu) (a.pr [2,3,4,5,6,7] [0,1] [0,1,2,3,4,5] r) (a.le a3) (a.le a4) (a.le a5) (a.le X) (a.le Y) dE
 refine sc (ec LQ r) hc ?_
 rintro _ eq ⟨aA,aB,cX,rfl,hK⟩
 have bw:=a.qW.size
 replace a:=a.cn [2,3,4,5,6,7] [0,1] hK
 replace a:=a.rb 0 w0.heap.size r bw
 refine s (xO r) (kZ (t_n a 8 [Z aA bQ aB] r su r r) fun er a=>n (q ?_))
 obtain ⟨dF,aE,x⟩:=bs x
 refine nT (fun f w=>∃ (bz:List Gr) (bR:Int)(bS:Int)(bT:Int)(bA:List Gn) (bB:List (List Gv)) (bC:List Gi) (bD:List Int) (a1:Int)(H:Int)(I:Int)(J:BA) (K:BA) (L:Int)(ai:Int)(z:List Ge) (j:OA)(m:Nat)(M:BA) (N:Int)(aV:List Ge) (aL:List Gs) (aj:List Gs),Has f [(0,Pt aU),(3,Pt b1),(4,Pt b2)]∧Bx w0 w eW G [.box aU 115 #[Z ac bz ae,Z a9 bA aa,Z an bB ao,Z A8 bC C8,V bR,Z ap bD aq,V bS,V bT],O aP a9 aa 82 Gn am,O aQ an ao 60 (List Gv) (af.map Rw.hdr),.qR aR 59 (sz Gv) af none,O aS A8 C8 65 Gi Q8,O aF ap aq 3 Int au,.box b2 111 #[V 0,V 0,V 0,T be,T be,V 0,V 0,sn,T be,V 0,sn,sn,sn],.box b1 111 #[V a1,V H,V I,T J,T K,V L,V ai,Z j z m,T M,V N,Z D aV E,Z B aL C,Z u aj v]] [.l ac ae bz,.l j m z,.l D E aV,.l B C aL,.l u v aj,.els am bA,.mQ af bB,.els Q8 bC,.els au bD]∧Ld.go (bz,bR,bS,bT,bA,bB,bC,bD,a1,H,I,J,K,L,ai,z,M,N,aV,aL,aj)=dF) (fun et ct=>?_) ?_
 ·unfold sW at aE
  refine q (g (s (Cc r) (s (l9 r (a.bk 8 r) r) (s (JD r r) (n ?_)))))
  rcases iv aE with ⟨cL,aE⟩|⟨cL,aE⟩
  ·refine jJ (bt cL) (g (s (mp r) ?_))
   replace a:=a.fz 0 0 r r
   obtain ⟨az,ag,dG,aE⟩:=lX aE
   have hc:=(Gz fu) (a.pr [0,1,2,3,4,5,7] [6] [1,2,3,4,5,0,12,13,14] r) (a.le a3) (a.le a4) (a.le a5) (a.le X) (a.le Y) dG
   refine sc (ec Uv r) hc ?_
   rintro _ eu ⟨rfl,hK⟩
   replace a:=a.cn [0,1,2,3,4,5,7] [6] hK
   exact n (ct _ _ ⟨az.a.a.a,az.f,az.c,az.e,az.a.a.b,az.a.b,az.a.c,az.b,ag.e,ag.f,ag.n,ag.b,ag.j,ag.m,ag.g,ag.c,aA,aB,ag.k,ag.i,ag.a,ag.d,ag.h,⟨r,r,r,y⟩,(a.ad [0,1,2,3,4,5,7,6] [0,5,6,7,8,1,2,3,4]),sm aE⟩)
  refine jD (bf cL) (wk ?_)
  replace a:=a.fz 0 0 r r
  exact ct _ _ ⟨ay.a.a.a,ay.f,ay.c,ay.e,ay.a.a.b,ay.a.b,ay.a.c,ay.b,b.e,b.f,(U.a.c.length:Int),b.b,b.j,b.m,b.g,bQ,aA,aB,b.k,b.i,b.a,b.d,b.h,⟨r,r,r,y⟩,(a.dp [1,0,12,13,14,2,3,4,5]),sm aE⟩
 clear a
 rintro f w ⟨bz,bR,bS,bT,bA,bB,bC,bD,a1,H,I,J,K,L,ai,z,j,m,M,N,aV,aL,aj,hf,a,d8⟩
 obtain ⟨eX,rfl⟩:=fV _ _ hf
 clear hf
 subst d8
 replace x:=gi x
 replace x:=AZ (mE (mE (mE (mE (mE (mE x))))))
 refine q (g (s (mp r) (s (uT r) (s (AV r (a.bk 7 r) r) (s (Ac r) (s (l3 r (a.bk 7 r) r) ?_))))))
 obtain ⟨a2,dH,dI,x⟩:=lX x
 have hc:=(CU fu) (a.pr [0,1,2,3,4,5] [6,7] [0,5,6,7,8,2] r) (a.le a3) (a.le a4) (a.le a5) (a.le X) (a.le Y) dI
 refine sc (ec LQ r) hc ?_
 rintro _ ev ⟨c,h,aC,rfl,hK⟩
 have bw:=a.qW.size
 replace a:=a.cn [0,1,2,3,4,5] [6,7] hK
 replace a:=a.rb 0 w0.heap.size r bw
 refine s (uT r) (kZ (t_n a 8 [Z c a2 h] r su r r) fun ew a=>n (q (g (s (mp r) (s (xC r) (s (NS r (a.bk 8 r) r) ?_))))))
 obtain ⟨a6,ah,dJ,x⟩:=lX x
 have hc:=H_r04_block (a.pr [1,2,3,4,5,6] [0,7,8] [1,2,3,4,5,9] r) (a.le a3) (a.le a4) (a.le a5) (a.le X) (a.le Y) dJ
 refine sc (ec ML r) hc ?_
 rintro _ ex ⟨o,p,aD,aY,aZ,aG,b0,b3,b4,b5,b6,b8,rfl,hK⟩
 have bw:=a.qW.size
 replace a:=a.cn [1,2,3,4,5,6] [0,7,8] hK
 replace a:=a.rb 0 w0.heap.size r bw
 refine s (xC r) (kZ (t_n a 9 [Z o a6 p] r za r r) fun ey a=>n (q ?_))
 obtain ⟨dK,W,x⟩:=bs x
 refine nT (fun f w=>Has f [(0,Pt aU),(3,Pt b1),(4,Pt b2)]∧Bx w0 w eW G [O w0.heap.size o p 111 Gs aD,.box aU 115 #[Z ac ah.a.a.a ae,Z a9 ah.a.a.b aa,Z aY ah.a.b aZ,Z b0 ah.a.c b3,V ah.f,Z b5 ah.b b6,V ah.c,V ah.e],O aP a9 aa 82 Gn am,O aQ aY aZ 60 (List Gv) (aG.map Rw.hdr),.qR aR 59 (sz Gv) aG none,O aS b0 b3 65 Gi b4,O aF b5 b6 3 Int b8,O w0.heap.size c h 138 Ge aC,.box b2 111 #[V 0,V 0,V 0,T be,T be,V 0,V 0,sn,T be,V 0,sn,sn,sn],.box b1 111 #[V a1,V H,V I,T J,T K,V L,V ai,Z j z m,T M,V N,Z c a2 h,Z o a6 p,Z u aj v]] [.els aD a6,.l ac ae ah.a.a.a,.els am ah.a.a.b,.mQ aG ah.a.b,.els b4 ah.a.c,.els b8 ah.b,.els aC a2,.l j m z,.l u v aj]∧Ld.go ()=dK) (fun ez cu=>?_) ?_
 ·unfold tH at W
  refine q (g (s (xM r) (s (l3 r (a.bk 9 r) r) (s (kH r r) (s (kQ r) ?_)))))
  rcases iv W with ⟨cM,W⟩|⟨cM,W⟩
  ·rw [decide_eq_true cM]
   refine ku r (s (mp r) (ku r (s (xn r) (ku r (s (yX r) (ku r (s (BK r (a.bk 1 r) r) (ku r (s (kH r r) (s (kG r r) (n ?_)))))))))))
   rcases iv W with ⟨cN,W⟩|⟨cN,W⟩
   ·refine jJ (bt cN) (q (g (nM (jN a [] ([]:List Int) (FK) r r (by decide) y) ?_)))
    rintro _ eA ⟨eB,rfl,a⟩
    refine s (mp r) (s (xn r) (s (zW r) (s (QM r (a.bk 2 r) r) ?_)))
    obtain ⟨cq,d9,W⟩:=bs W
    refine nM (kL a 0 0 r r sH mP r (by decide) (by decide) (Nat.le_refl _) r r (a.zN 7 6 r r) d9) ?_
    rintro _ eC ⟨ce,cg,cO,rfl,a⟩
    refine s (mG r) (n (q (Kr a [] [] [2,10] [] [12,14] (by kernel_rfl) ?_)))
    replace a:=a.drew
    have A:=(a.ad [] [])
    have hu:=(a.ad [2,10] [])
    refine pL 0 r (mp r) A hu (pL 1 r (Ac r) A hu (tS 1 2 r (fun _ hS=>l3 r (hS.bk 1 r) r) (nA A hu) (pL 3 r (zB r) A hu (tS 2 4 r (fun _ hS=>l9 r (hS.bk 1 r) r) (nA A hu) (pL 5 r (mp r) A hu (pL 6 r (xn r) A hu (pL 7 r (pG r) A hu (pL 8 r (Ef r) A hu (tS 3 9 r (fun _ hS=>UY r (hS.bk 0 r) r) (nA A hu) (pL 10 r (lF LP r) A hu (pL 11 r (Bz r r r r r) A hu ?_)))))))))))
    obtain ⟨aH,dL,dM,W⟩:=lX W
    have hc:=(zD fu) (a.pr [2,3,4,5,6,7] [0,1,8,9,10] [2,3,4,5,6] r) (a.le a3) (a.le a4) (a.le a5) (a.le X) (a.le Y) dM
    refine hO 12 (oc r r (ec Qf r) hc ?_)
    rintro _ eD ⟨cP,cQ,cR,cS,cT,cU,rfl,hK⟩
    replace a:=a.cn [2,3,4,5,6,7] [0,1,8,9,10] hK
    have A:=(a.ad [] [])
    refine ⟨(sy 12 A),(tP 13 r (fun _=>LC r) (sy 12 A) (hO 14 (os r r (t_n a 10 [V aH] r mP r r) fun eE a=>?_)))⟩
    have A:=(a.ad [] [])
    refine ⟨(sy 12 A),(hD (q (g (s (mp r) (s (wh r) (s (NS r (a.bk 10 r) r) ?_))))))⟩
    obtain ⟨aI,F,dN,W⟩:=lX W
    have hc:=H_r04_block (a.pr [0,1,2,3,4,5] [6,7,8,9,10] [0,1,2,3,4,22] r) (a.le a3) (a.le a4) (a.le a5) (a.le X) (a.le Y) dN
    refine sc (ec ML r) hc ?_
    rintro _ eF ⟨a7,a8,bi,b9,ba,aJ,av,aw,aK,bb,bc,bd,rfl,hK⟩
    have bw:=a.qW.size
    replace a:=a.cn [0,1,2,3,4,5] [6,7,8,9,10] hK
    replace a:=a.rb 0 w0.heap.size r bw
    refine s (wh r) (kZ (t_n a 11 [Z a7 aI a8] r za r r) fun eG a=>n (q ?_))
    obtain ⟨dO,ar,W⟩:=bs W
    refine nT (fun f w=>∃ (bg:List (List Gv)) (aM:OA)(aN:Nat)(aO:List Rw),Has f [(0,Pt aU),(3,Pt b1),(4,Pt b2),(8,Z ce cq cg)]∧Bx w0 w eW G [O w0.heap.size a7 a8 111 Gs bi,.box aU 115 #[Z ac F.a.a.a ae,Z a9 F.a.a.b aa,Z aM bg aN,Z av F.a.c aw,V F.f,Z bb F.b bc,V F.c,V F.e],O aP a9 aa 82 Gn am,O aQ aM aN 60 (List Gv) (aO.map Rw.hdr),.qR aR 59 (sz Gv) aO none,O aS av aw 65 Gi aK,O aF bb bc 3 Int bd,O w0.heap.size ce cg 3 Int cO,O w0.heap.size o p 111 Gs aD,O w0.heap.size c h 138 Ge aC,.box b2 111 #[V 0,V 0,V 0,T be,T be,V 0,V 0,sn,T be,V 0,sn,sn,sn],.box b1 111 #[V a1,V H,V I,T J,T K,V L,V aH,Z j z m,T M,V N,Z c a2 h,Z o a6 p,Z a7 aI a8]] [.els bi aI,.l ac ae F.a.a.a,.els am F.a.a.b,.mQ aO bg,.els aK F.a.c,.els bd F.b,.els cO cq,.els aD a6,.els aC a2,.l j m z]∧Ld.go bg=dO) (fun eH cv=>?_) ?_
    ·unfold tu at ar
     refine q (g (s (mp r) (s (xn r) (s (yX r) (s (BK r (a.bk 1 r) r) (s (kH r r) (n ?_)))))))
     rcases iv ar with ⟨cV,ar⟩|⟨cV,ar⟩
     ·refine jJ (bt cV) ?_
      obtain ⟨dP,ch,ar⟩:=bs ar
      obtain ⟨cW,da,ch⟩:=kR ch
      replace a:=a.arr [4,0,1,2,3,5,6,7,8,9,10,11] r
      try dsimp only [pick,nth,ca,na] at a
      obtain ⟨db,dd,eI,ci,df,a⟩:=a.Wj 3 rfl ch
      refine Kr a [1,3,5,12] [4] [0,1,3,5,12] [0,4] [22] (by kernel_rfl) ?_
      replace a:=a.drew
      have A:=(a.ad [1,3,5,12] [4])
      have hu:=(a.ad [0,1,3,5,12] [0,4])
      refine pL 0 r (mp r) A hu (pL 1 r (xn r) A hu (pL 2 r (pG r) A hu (pL 3 r (y5 r) A hu (tU 4 r (fun _ hS=>MB r (hS.bk 1 r) r) (nA A hu) (pL 5 r (mp r) A hu (pL 6 r (xn r) A hu (pL 7 r (Aa r) A hu (tU 8 r (fun _ hS=>l3 r (hS.bk 1 r) r) (nA A hu) (pL 9 r (KH Cn Dg r r da (a.bo 5 r) ci (a.d2 4 r).len) A hu (tU 10 r (fun _ hS=>jP zQ r r (hS.hc 2 r ci df 0 _ r)) (nA A hu) (pL 11 r (LC r) A hu (tU 12 r (fun _ hS=>l3 r (hS.bk 3 r) r) (nA A hu) (pL 13 r (mp r) A hu (pL 14 r (xn r) A hu (pL 15 r (pG r) A hu (pL 16 r (Ef r) A hu (tU 17 r (fun _ hS=>UY r (hS.bk 1 r) r) (nA A hu) (pL 18 r (lF LP r) A hu (pL 19 r (xJ r r) A hu ?_)))))))))))))))))))
      obtain ⟨aT,c6,ar⟩:=bs ar
      obtain ⟨dg,dh,c6⟩:=kR c6
      refine pL 20 r (kW zQ yU r r dh (a.vw 0 0 r r) c6) A hu (pL 21 r (Lj r) A hu ?_)
      obtain ⟨dQ,c7,ar⟩:=bs ar
      obtain ⟨dR,e1,_,c7⟩:=Ar c7
      obtain rfl:dg=dR:=by omega
      obtain ⟨dS,di,cj⟩:=(a.de 0 rfl).get c6
      replace cj:dS=[T aT.b,V aT.e,V aT.c,V aT.a,.bool aT.f,V aT.d,V aT.g]:=cj
      subst cj
      refine hO 22 (os r r (Jz a 0 0 dg 6 [V (wr ((F.a.c.length:Int) - 1))] r r di mP r r r r r (show _=[T aT.b,V aT.e,V aT.c,V aT.a,.bool aT.f,V aT.d,V (wr ((F.a.c.length:Int) - 1))] from r) r c7) ?_)
      rintro QN ⟨dj,a⟩
      try dsimp only [List.set] at a
      have cw:dP.length=dQ.length:=by rw [← c7,List.length_set]
      try dsimp only [Z] at a
      try rw [cw] at a
      try dsimp only [Z]
      try rw [cw]
      have A:=(a.ad [1,3,5,12] [4])
      refine ⟨(sy 22 A),(hD ?_)⟩
      obtain ⟨dk,c8,ar⟩:=bs ar
      obtain ⟨dT,e2,_,c8⟩:=Ar c8
      obtain rfl:cW=dT:=by omega
      have e3:=(a.de 0 r).len
      replace a:=a.hd 5 (H':=((aJ.set cW ⟨db,dd,dj⟩).map Rw.hdr)) r (Ur ci (by omega))
      try dsimp only [List.set] at a
      replace a:=a.arr [0,1,2,3,4,5,6,7,8,9,10,11,12] r
      try dsimp only [pick,nth,ca,na] at a
      replace a:=a.Yk 4 0 r r
      try dsimp only [List.set] at a
      rw [c8] at a
      obtain ⟨dU,dm⟩:∃ R,(aJ.set cW ⟨db,dd,dj⟩)=R:=⟨_,rfl⟩
      rw [dm] at a
      have cx:F.a.b.length=dk.length:=by rw [← c8,List.length_set]
      try dsimp only [Z] at a
      try rw [cx] at a
      try dsimp only [Z]
      try rw [cx]
      exact cv _ _ ⟨dk,b9,ba,dU,⟨r,r,r,r,y⟩,(a.ad [1,2,3,4,0,5,6,7,8,9,10,11] [1,2,3,4,5,6,12,13,19,26]),sm ar⟩
     exact jD (bf cV) (wk (cv _ _ ⟨F.a.b,b9,ba,aJ,⟨r,r,r,r,y⟩,(a.dp [0,1,2,3,4,5,11,12,18,25]),sm ar⟩))
    clear a
    rintro f w ⟨bg,aM,aN,aO,hf,a,dn⟩
    obtain ⟨eX,rfl⟩:=fV _ _ hf
    clear hf
    subst dn
    replace W:=gi W
    refine q (g (s (mp r) (s (nL r) (s (xn r) (s (zW r) (kZ (t_n a 1 [Z ce cq cg] r Aj r r) fun eJ a=>n (q (g (s (ng [V a1,V H,V I,T J,T K,V L,V aH,Z j z m,T M,V N,Z c a2 h,Z o a6 p,Z a7 aI a8] lV jQ r (a.bk 11 r)) (kZ (nU a 10 [V a1,V H,V I,T J,T K,V L,V aH,Z j z m,T M,V N,Z c a2 h,Z o a6 p,Z a7 aI a8] r jQ r r) fun eK a=>n (kU ?_)))))))))))
    replace a:=a.fz 9 8 r r
    replace a:=a.fz 8 8 r r
    replace a:=a.fz 0 2 r r
    replace a:=a.rb 6 aF r Y
    obtain rfl:=sm W
    replace x:=oi x
    obtain rfl:=sm x
    exact jB r (tV r lV r jQ r (a.bk 7 r)) (mJ (⟨j,m,c,h,o,p,a7,a8,aM,aN,aO,av,aw,aK,ce,cg,cO,r,(a.ad [0,1,2,3,4,6] [9,2,1,0,3,4,5,6,8])⟩))
   exact jD (bf cN) (wk (cu _ _ ⟨⟨r,r,r,y⟩,(a.dp [0,1,2,3,4,5,6,13,16]),sm W⟩))
  rw [decide_eq_false cM]
  exact jL r (jL r (jL r (jL r (jL r (s (jZ r r) (n (jD r (wk (cu _ _ ⟨⟨r,r,r,y⟩,(a.dp [0,1,2,3,4,5,6,13,16]),sm W⟩)))))))))
 clear a
 rintro f w ⟨hf,a,dq⟩
 obtain ⟨eX,rfl⟩:=fV _ _ hf
 clear hf
 subst dq
 replace x:=gi x
 refine q (g (s (mp r) (s (wh r) (s (NS r (a.bk 9 r) r) ?_))))
 obtain ⟨bh,dV,dW,x⟩:=lX x
 have hc:=H_r04_block (a.pr [1,2,3,4,5,6] [0,7,8,9] [1,2,3,4,5,8] r) (a.le a3) (a.le a4) (a.le a5) (a.le X) (a.le Y) dW
 refine sc (ec ML r) hc ?_
 rintro _ eL ⟨ak,al,cY,bU,bV,bW,bX,bY,bZ,c0,c1,c2,rfl,hK⟩
 have bw:=a.qW.size
 replace a:=a.cn [1,2,3,4,5,6] [0,7,8,9] hK
 replace a:=a.rb 0 w0.heap.size r bw
 refine s (wh r) (kZ (t_n a 10 [Z ak bh al] r za r r) fun eM a=>n (q (g (s (ng [V a1,V H,V I,T J,T K,V L,V ai,Z j z m,T M,V N,Z c a2 h,Z o a6 p,Z ak bh al] lV jQ r (a.bk 10 r)) (kZ (nU a 9 [V a1,V H,V I,T J,T K,V L,V ai,Z j z m,T M,V N,Z c a2 h,Z o a6 p,Z ak bh al] r jQ r r) fun eN a=>n (kU ?_))))))
 replace a:=a.fz 8 12 r r
 replace a:=a.fz 7 7 r r
 replace a:=a.fz 0 2 r r
 obtain rfl:=sm x
 exact jB r (tV r lV r jQ r (a.bk 6 r)) (mJ (⟨j,m,c,h,o,p,ak,al,bU,bV,bW,bX,bY,bZ,c0,c1,c2,r,(a.ad [0,1,2,3,4,5] [13,2,1,0,3,4,5,6,7])⟩))
theorem Gc (fu:Nat):wz (uj fu)∧zV (zG fu):=by
 induction fu with
 | zero=>exact ⟨by intro a b;intros;exact nn (by assumption),by intro a b;intros;exact nn (by assumption)⟩
 | succ fu ih=>exact ⟨IG fu (uj fu) (zG fu) ih.1 ih.2,KD fu (uj fu) (zG fu) ih.1 ih.2⟩
theorem IJ (fu:Nat):wz (uj fu):=(Gc fu).1
def Em (m:Gt→Gn→Option (Gn × Gt)):Prop:=∀ {w0:World} {a7:Nat→Prop} {k:Gt} {x1:Gn} {a3:Nat} {d:Option Addr} {h:Nat} {a:Option Addr} {b:Nat} {i:List (List Value)} {o:Nat} {p:Option Addr} {t:Nat} {j:List Rw} {u:Nat} {x:Nat} {z:Option Addr} {A:Nat} {G:List (List Value)} {B:Nat} {C:Option Addr} {D:Nat} {H:List (List Value)} {E:Nat} {S:Option Addr} {U:Nat} {W:Option Addr} {X:Nat} {R:Gn × Gt},Pre w0 a7 [.box a3 115 #[Z d k.a.a.a h,Z a k.a.a.b b,Z p k.a.b t,Z z k.a.c A,V k.f,Z C k.b D,V k.c,V k.e],O o a b 82 Gn i,O u p t 60 (List Gv) (j.map Rw.hdr),.qR x 59 (sz Gv) j none,O B z A 65 Gi G,O E C D 3 Int H] [.l d h k.a.a.a,.els i k.a.a.b,.mQ j k.a.b,.els G k.a.c,.els H k.b,.l S U x1.a,.l W X x1.d]→o≤w0.heap.size→u≤w0.heap.size→x≤w0.heap.size→B≤w0.heap.size→E≤w0.heap.size→m k x1=some R→
 Calls Try.prog 49 #[Pt a3,.agg #[T x1.b,V x1.f,Z S x1.a U,Z W x1.d X]] w0 (qQ fun v w=>jy R fun r0 c=>∃ (Y:OA)(a0:Nat)(a1:OA)(a2:Nat)(I:OA)(J:Nat)(F:List Rw) (K:OA)(L:Nat)(M:LV)(N:OA)(P:Nat)(Q:LV),v=.agg #[T r0.b,V r0.f,Z Y r0.a a0,Z a1 r0.d a2]∧Bx w0 w a7 (lS [.box a3 115 #[Z d k.a.a.a h,Z a k.a.a.b b,Z p k.a.b t,Z z k.a.c A,V k.f,Z C k.b D,V k.c,V k.e],O o a b 82 Gn i,O u p t 60 (List Gv) (j.map Rw.hdr),.qR x 59 (sz Gv) j none,O B z A 65 Gi G,O E C D 3 Int H]) [.box a3 115 #[Z d c.a.a.a h,Z a c.a.a.b b,Z I c.a.b J,Z K c.a.c L,V c.f,Z N c.b P,V c.c,V c.e],O o a b 82 Gn i,O u I J 60 (List Gv) (F.map Rw.hdr),.qR x 59 (sz Gv) F none,O B K L 65 Gi M,O E N P 3 Int Q] [.l Y a0 r0.a,.l a1 a2 r0.d,.l d h c.a.a.a,.els i c.a.a.b,.mQ F c.a.b,.els M c.a.c,.els Q c.b])
def nu (fu:Nat)(m:Gn):List BA→Nat→(List Int)→(List Gr)→Int→Int→Int→(List Gn)→(List (List Gv))→(List Gi)→Option (Ld (List Int × List Gr × Int × Int × Int × List Gn × List (List Gv) × List Gi) (Gn × Gt))
 | [],_,c,d,h,i,j,k,l,b=>some (.go (c,d,h,i,j,k,l,b))
 | p :: t,u,c,d,h,i,j,k,l,b=>
 (rE fu (⟨(⟨(⟨d,k⟩:jW),l,b⟩:jK),h,c,i,j⟩:Gt) m.f (⟨p,1,(-1),1,true,(b.length:Int),0⟩:Gv)).bind fun v=>
 jy v fun o a=>
 nu fu m t (u+1) a.b a.a.a.a a.f a.c a.e a.a.a.b a.a.b a.a.c
def ny (fu:Nat)(a:Gt):List BA→Nat→(List (List Gv))→Option (Ld (List (List Gv)) (Gn × Gt))
 | [],_,b=>some (.go b)
 | k :: h,d,b=>
 (ix b a.f).bind fun e=>
 (ix e (d:Int)).bind fun c=>
 (st e (d:Int) (⟨c.b,c.e,c.c,c.a,c.f,c.d,(wr ((a.a.c.length:Int) - 1))⟩:Gv)).bind fun i=>
 (st b a.f i).bind fun j=>
 ny fu a h (d+1) j
def qF (fu:Nat)(d:Gt) (b:Gn):Option (Gn × Gt):=
 if 4 < (b.a.length:Int) then
  (mh fu d b.f 5).bind fun v=>
  some (b,v)
 else
  (nu fu b b.a 0 ([]:List Int) d.a.a.a d.f d.c d.e d.a.a.b d.a.b d.a.c).bind fun w=>w.el (fun w=>
  jy w fun h w=>jy w fun i w=>jy w fun j w=>jy w fun k w=>jy w fun c w=>jy w fun l w=>jy w fun m p=>
  if c=0 then
   (uj fu (⟨(⟨(⟨i,l⟩:jW),m,p⟩:jK),j,h,k,c⟩:Gt) b.d).bind fun w=>
   jy w fun t a=>
   (ny fu a b.a 0 a.a.b).bind fun w=>w.el (fun u=>
   some ((⟨b.b,b.f,b.a,t⟩:Gn),(⟨(⟨a.a.a,u,a.a.c⟩:jK),a.f,a.b,a.c,a.e⟩:Gt))
   ) (fun o=>some o)
  else
   some (b,(⟨(⟨(⟨i,l⟩:jW),m,p⟩:jK),j,h,k,c⟩:Gt))
  ) (fun o=>some o)
theorem AU (fu:Nat):Em (qF fu):=by
 intro w0 ch x0 j ar L M z A N ai aj ak au al am Q S ab an aA aB aQ aC c d t u R hP av aw ax ay az hM
 unfold qF at hM
 have a:=hP.bx
 clear hP
 generalize hG:lS _=G at a ⊢
 refine cf Try.func49 r (lM [(0,Pt ar),(1,.agg #[T j.b,V j.f,Z c j.a d,Z t j.d u])] ⟨r,r,y⟩ fun ci=>q (g (sV a (yY r) fun w1 b1 a=>sV a (jU nW) fun w2 b2 a=>n (q (q (g (s (F4 r) (s (zP r (a.bk 1 r) r) (s (lF kP r) (s (uZ r r) (n ?_)))))))))))
 rcases iv hM with ⟨h3,hM⟩|⟨h3,hM⟩
 ·refine jJ (bt h3) (q (g (s (mp r) (s (Nc r) (s (l3 r (a.bk 1 r) r) ?_)))))
  obtain ⟨bI,h4,hM⟩:=bs hM
  have hc:=(mZ fu) (a.pr [2,3,4,5,6,7] [0,1] [0,1,2,3,4] r) (a.le av) (a.le aw) (a.le ax) (a.le ay) (a.le az) h4
  refine sc (ec yZ r) hc ?_
  rintro _ w4 ⟨rfl,hK⟩
  replace a:=a.cn [2,3,4,5,6,7] [0,1] hK
  refine n (q (g (s (ng [T j.b,V j.f,Z c j.a d,Z t j.d u] El nW r (a.bk 7 r)) (kZ (nU a 6 [T j.b,V j.f,Z c j.a d,Z t j.d u] r nW r r) fun w5 a=>n (kU ?_)))))
  obtain rfl:=sm hM
  exact jB r (tV r El r nW r (a.bk 6 r)) (mJ (⟨c,d,t,u,aj,ak,au,Q,S,ab,aA,aB,aQ,r,(a.ad [0,1,2,3,4,5] [10,11,0,1,2,3,4])⟩))
 refine jD (bf h3) (wk (q (g (s (mp r) (s (xn r) (s (zW r) (kZ (t_n a 2 [sn] r Aj r r) fun w6 a=>n (q (q (g (s (F4 r) (s (zP r (a.bk 1 r) r) (s (lF kP r) (s (mi r) (n ?_)))))))))))))))
 replace a:=a.Bv Int 3
 have bS:=(a.dl 6 r).bd
 obtain ⟨Y7,ao,hM⟩:=bs hM
 refine nT (fun f w=>∃ (a6:List Int) (U:OA)(W:Nat)(X:LV)(a7:List Gr) (ae:Int)(af:Int)(ag:Int)(a8:List Gn) (a9:List (List Gv)) (Y:OA)(a0:Nat)(B:List Rw) (aa:List Gi),Has f [(0,Pt ar),(3,Pt b1),(4,Pt b2)]∧Bx w0 w ch G [O w0.heap.size U W 3 Int X,.box b2 82 #[T be,V 0,sn,sn],.box b1 82 #[T j.b,V j.f,Z c j.a d,Z t j.d u],.box ar 115 #[Z L a7 M,Z z a8 A,Z Y a9 a0,Z Q aa S,V ae,Z U a6 W,V af,V ag],O ai z A 82 Gn N,O al Y a0 60 (List Gv) (B.map Rw.hdr),.qR am 59 (sz Gv) B none,O an Q S 65 Gi ab] [.l L M a7,.els X a6,.els N a8,.mQ B a9,.els ab aa,.l c d j.a,.l t u j.d]∧Ld.go (a6,a7,ae,af,ag,a8,a9,aa)=Y7) (fun J7 bu=>?_) ?_
 ·refine nS (kE (fun cj f w=>∃ (k7:Nat)(a6:List Int) (U:OA)(W:Nat)(X:LV)(a7:List Gr) (ae:Int)(af:Int)(ag:Int)(a8:List Gn) (a9:List (List Gv)) (Y:OA)(a0:Nat)(B:List Rw) (aa:List Gi),cj=j.a.length - k7∧k7≤j.a.length∧Has f [(23,V (k7:Int)),(0,Pt ar),(3,Pt b1),(4,Pt b2),(21,Z c j.a d),(22,V (j.a.length:Int))]∧Bx w0 w ch G [O w0.heap.size U W 3 Int X,.box b2 82 #[T be,V 0,sn,sn],.box b1 82 #[T j.b,V j.f,Z c j.a d,Z t j.d u],.box ar 115 #[Z L a7 M,Z z a8 A,Z Y a9 a0,Z Q aa S,V ae,Z U a6 W,V af,V ag],O ai z A 82 Gn N,O al Y a0 60 (List Gv) (B.map Rw.hdr),.qR am 59 (sz Gv) B none,O an Q S 65 Gi ab] [.l L M a7,.els X a6,.els N a8,.mQ B a9,.els ab aa,.l c d j.a,.l t u j.d]∧nu fu j (j.a.drop k7) k7 a6 a7 ae af ag a8 a9 aa=some Y7) (j.a.length) ⟨0,([]:List Int),none,0,[],x0.a.a.a,x0.f,x0.c,x0.e,x0.a.a.b,x0.a.b,aj,ak,au,x0.a.c,r,Nat.zero_le _,⟨r,r,r,r,r,r,y⟩,(a.ad [0,1,2,3,4,5,6,7] [1,0,2,3,4,6,7]),ao⟩ ?_)
  clear a ao
  rintro cj f w ⟨k7,a6,U,W,X,a7,ae,af,ag,a8,a9,Y,a0,B,aa,rfl,bT,hf,a,ao⟩ K7 bv
  obtain ⟨ci,rfl⟩:=fV _ _ hf
  clear hf
  rcases Nat.lt_or_ge k7 j.a.length with b6 | b6
  ·obtain ⟨u7,b0⟩:=lY (l:=j.a) b6
   rw [lK b0,nu] at ao
   refine q (g (s (qz r r (by omega)) (n (q (jJ r (wk (q (nS (q (g (s (kW kP nX r r r (a.dl 5 r) b0) (s (jP uz r r ((uK (ds:=[T u7]) (a.dl 5 r) b0 (fun _ h=>h)) 0 _ r)) (s (mD r) (n (Kr a [2] [] [2,3] [] [11] (by kernel_rfl) ?_)))))))))))))))
   replace a:=a.drew
   have hs:=(a.ad [2] [])
   have hu:=(a.ad [2,3] [])
   refine pL 0 r (mp r) hs hu (pL 1 r (Nc r) hs hu (tU 2 r (fun _ hS=>l3 r (hS.bk 0 r) r) (nA hs hu) (pL 3 r (kY r) hs hu (pL 4 r (mp r) hs hu (pL 5 r (xn r) hs hu (pL 6 r (pG r) hs hu (pL 7 r (Ef r) hs hu (tS 3 8 r (fun _ hS=>UY r (hS.bk 1 r) r) (nA hs hu) (pL 9 r (lF LP r) hs hu (pL 10 r (Dz r r r r r r) hs hu ?_))))))))))
   obtain ⟨bL,ah,h9,ao⟩:=lX ao
   have hc:=(zD fu) (a.pr [3,4,5,6,7,0] [1,2] [0,2,3,4,1] r) (a.le av) (a.le aw) (a.le ax) (a.le ay) a.qW.size h9
   refine hO 11 (oc r r (ec Qf r) hc ?_)
   rintro _ w9 ⟨aJ,aK,aL,aM,aN,aO,rfl,hK⟩
   replace a:=a.cn [3,4,5,6,7,0] [1,2] hK
   have hs:=(a.ad [7] [])
   exact ⟨(sy 11 hs),(hD (g (s (lU r r (by omega) (by omega)) (s (mi r) (n (bv (j.a.length - (k7+1)) _ _ (by omega) ⟨k7+1,ah.b,aM,aN,aO,ah.a.a.a,ah.f,ah.c,ah.e,ah.a.a.b,ah.a.b,aJ,aK,aL,ah.a.c,r,by omega,⟨r,r,r,r,r,r,y⟩,(a.ad [5,6,7,0,1,2,3,4] [0,4,1,2,3,10,11]),ao⟩))))))⟩
  obtain rfl:k7=j.a.length:=by omega
  rw [lu,nu] at ao
  exact q (g (s (qL r r (by omega)) (n (q (jD r (ug (bu _ _ ⟨a6,U,W,X,a7,ae,af,ag,a8,a9,Y,a0,B,aa,⟨r,r,r,y⟩,a,sm ao⟩)))))))
 clear a
 rintro f w ⟨a6,U,W,X,a7,ae,af,ag,a8,a9,Y,a0,B,aa,hf,a,bw⟩
 obtain ⟨ci,rfl⟩:=fV _ _ hf
 clear hf
 subst bw
 replace hM:=gi hM
 replace hM:=pi (mE (mE hM))
 refine q (q (g (s (mp r) (s (xn r) (s (yX r) (s (BK r (a.bk 3 r) r) (s (kH r r) (n ?_))))))))
 rcases iv hM with ⟨b3,hM⟩|⟨b3,hM⟩
 ·refine jJ (bt b3) (q (g (s (mp r) (s (CZ r) (s (NS r (a.bk 2 r) r) ?_)))))
  obtain ⟨a1,b,bz,hM⟩:=lX hM
  have hc:=(IJ fu) (a.pr [3,4,5,6,7,0] [1,2] [0,2,3,4,1,6] r) (a.le av) (a.le aw) (a.le ax) (a.le ay) a.qW.size bz
  refine sc (ec ML r) hc ?_
  rintro _ bW ⟨m,o,a4,aD,aE,aF,C,D,E,F,H,I,rfl,hK⟩
  have bA:=a.qW.size
  replace a:=a.cn [3,4,5,6,7,0] [1,2] hK
  replace a:=a.rb 0 w0.heap.size r bA
  refine s (CZ r) (kZ (t_n a 8 [Z m a1 o] r za r r) fun bX a=>n (q (g (s (F4 r) (s (zP r (a.bk 8 r) r) (s (lF kP r) (s (mi r) (n ?_))))))))
  have bM:=(a.dl 11 r).bd
  obtain ⟨b7,J,hM⟩:=bs hM
  refine nT (fun f w=>∃ (K:List (List Gv)) (v:OA)(x:Nat)(p:List Rw),Has f [(3,Pt b1),(4,Pt b2)]∧Bx w0 w ch G [O w0.heap.size m o 111 Gs a4,.box ar 115 #[Z L b.a.a.a M,Z z b.a.a.b A,Z v K x,Z C b.a.c D,V b.f,Z F b.b H,V b.c,V b.e],O ai z A 82 Gn N,O al v x 60 (List Gv) (p.map Rw.hdr),.qR am 59 (sz Gv) p none,O an C D 65 Gi E,O w0.heap.size F H 3 Int I,.box b2 82 #[T be,V 0,sn,sn],.box b1 82 #[T j.b,V j.f,Z c j.a d,Z m a1 o]] [.els a4 a1,.l L M b.a.a.a,.els N b.a.a.b,.mQ p K,.els E b.a.c,.els I b.b,.l c d j.a]∧Ld.go K=b7) (fun bY b8=>?_) ?_
  ·refine nS (kE (fun cj f w=>∃ (aq:Nat)(K:List (List Gv)) (v:OA)(x:Nat)(p:List Rw),cj=j.a.length - aq∧aq≤j.a.length∧Has f [(53,V (aq:Int)),(0,Pt ar),(3,Pt b1),(4,Pt b2),(52,V (j.a.length:Int))]∧Bx w0 w ch G [O w0.heap.size m o 111 Gs a4,.box ar 115 #[Z L b.a.a.a M,Z z b.a.a.b A,Z v K x,Z C b.a.c D,V b.f,Z F b.b H,V b.c,V b.e],O ai z A 82 Gn N,O al v x 60 (List Gv) (p.map Rw.hdr),.qR am 59 (sz Gv) p none,O an C D 65 Gi E,O w0.heap.size F H 3 Int I,.box b2 82 #[T be,V 0,sn,sn],.box b1 82 #[T j.b,V j.f,Z c j.a d,Z m a1 o]] [.els a4 a1,.l L M b.a.a.a,.els N b.a.a.b,.mQ p K,.els E b.a.c,.els I b.b,.l c d j.a]∧ny fu b (j.a.drop aq) aq K=some b7) (j.a.length) ⟨0,b.a.b,aD,aE,aF,r,Nat.zero_le _,⟨r,r,r,r,r,y⟩,(a.dp [0,1,2,3,4,5,11]),J⟩ ?_)
   clear a J
   rintro cj f w ⟨aq,K,v,x,p,rfl,bN,hf,a,J⟩ bZ b9
   obtain ⟨ci,rfl⟩:=fV _ _ hf
   clear hf
   rcases Nat.lt_or_ge aq j.a.length with aX | aX
   ·obtain ⟨c0,ba⟩:=lY (l:=j.a) aX
    rw [lK ba,ny] at J
    refine q (g (s (qz r r (by omega)) (n (q (jJ r (wk (q (nS (q (g (s (mi r) (s (xi r) (n ?_)))))))))))))
    obtain ⟨bB,aR,J⟩:=bs J
    obtain ⟨b4,bb,aR⟩:=kR aR
    replace a:=a.arr [4,0,1,2,3,5,6,7,8] r
    try dsimp only [pick,nth,ca,na] at a
    obtain ⟨bc,bg,c1,aS,bh,a⟩:=a.Wj 3 rfl aR
    refine Kr a [1,3,5] [4] [0,1,3,5] [0,4] [21] (by kernel_rfl) ?_
    replace a:=a.drew
    have hs:=(a.ad [1,3,5] [4])
    have hu:=(a.ad [0,1,3,5] [0,4])
    refine pL 0 r (mp r) hs hu (pL 1 r (xn r) hs hu (pL 2 r (pG r) hs hu (pL 3 r (y5 r) hs hu (tU 4 r (fun _ hS=>MB r (hS.bk 1 r) r) (nA hs hu) (pL 5 r (mp r) hs hu (pL 6 r (xn r) hs hu (pL 7 r (Aa r) hs hu (tU 8 r (fun _ hS=>l3 r (hS.bk 1 r) r) (nA hs hu) (pL 9 r (KH Cn Dg r r bb (a.bo 5 r) aS (a.d2 4 r).len) hs hu (tU 10 r (fun _ hS=>jP zQ r r (hS.hc 2 r aS bh 0 _ r)) (nA hs hu) (pL 11 r (mi r) hs hu (pL 12 r (mp r) hs hu (pL 13 r (xn r) hs hu (pL 14 r (pG r) hs hu (pL 15 r (Ef r) hs hu (tU 16 r (fun _ hS=>UY r (hS.bk 1 r) r) (nA hs hu) (pL 17 r (lF LP r) hs hu (pL 18 r (xJ r r) hs hu ?_))))))))))))))))))
    obtain ⟨ac,aG,J⟩:=bs J
    obtain ⟨bi,bj,aG⟩:=kR aG
    refine pL 19 r (kW zQ yU r r bj (a.vw 0 0 r r) aG) hs hu (pL 20 r (Lj r) hs hu ?_)
    obtain ⟨bC,aH,J⟩:=bs J
    obtain ⟨bD,bO,_,aH⟩:=Ar aH
    obtain rfl:bi=bD:=by omega
    obtain ⟨bE,bl,aT⟩:=(a.de 0 rfl).get aG
    replace aT:bE=[T ac.b,V ac.e,V ac.c,V ac.a,.bool ac.f,V ac.d,V ac.g]:=aT
    subst aT
    refine hO 21 (os r r (Jz a 0 0 bi 6 [V (wr ((b.a.c.length:Int) - 1))] r r bl mP r r r r r (show _=[T ac.b,V ac.e,V ac.c,V ac.a,.bool ac.f,V ac.d,V (wr ((b.a.c.length:Int) - 1))] from r) r aH) ?_)
    rintro c2 ⟨bm,a⟩
    try dsimp only [List.set] at a
    have aY:bB.length=bC.length:=by rw [← aH,List.length_set]
    try dsimp only [Z] at a
    try rw [aY] at a
    try dsimp only [Z]
    try rw [aY]
    have hs:=(a.ad [1,3,5] [4])
    refine ⟨(sy 21 hs),(hD (g (s (lU r r (by omega) (by omega)) (s (mi r) (n ?_)))))⟩
    obtain ⟨bn,aI,J⟩:=bs J
    obtain ⟨bF,bP,_,aI⟩:=Ar aI
    obtain rfl:b4=bF:=by omega
    have bQ:=(a.de 0 r).len
    replace a:=a.hd 5 (H':=((p.set b4 ⟨bc,bg,bm⟩).map Rw.hdr)) r (Ur aS (by omega))
    try dsimp only [List.set] at a
    replace a:=a.arr [0,1,2,3,4,5,6,7,8,9] r
    try dsimp only [pick,nth,ca,na] at a
    replace a:=a.Yk 4 0 r r
    try dsimp only [List.set] at a
    rw [aI] at a
    obtain ⟨bG,bp⟩:∃ R,(p.set b4 ⟨bc,bg,bm⟩)=R:=⟨_,rfl⟩
    rw [bp] at a
    have aZ:K.length=bn.length:=by rw [← aI,List.length_set]
    try dsimp only [Z] at a
    try rw [aZ] at a
    try dsimp only [Z]
    try rw [aZ]
    exact b9 (j.a.length - (aq+1)) _ _ (by omega) ⟨aq+1,bn,v,x,bG,r,by omega,⟨r,r,r,r,r,y⟩,(a.ad [1,2,3,4,0,5,6,7,8] [1,2,3,4,5,6,7]),J⟩
   obtain rfl:aq=j.a.length:=by omega
   rw [lu,ny] at J
   exact q (g (s (qL r r (by omega)) (n (q (jD r (ug (b8 _ _ ⟨K,v,x,p,⟨r,r,y⟩,a,sm J⟩)))))))
  clear a
  rintro f w ⟨K,v,x,p,hf,a,bq⟩
  obtain ⟨ci,rfl⟩:=fV _ _ hf
  clear hf
  subst bq
  replace hM:=gi hM
  refine q (g (s (ng [T j.b,V j.f,Z c j.a d,Z m a1 o] El nW r (a.bk 8 r)) (kZ (nU a 7 [T j.b,V j.f,Z c j.a d,Z m a1 o] r nW r r) fun c3 a=>n (kU ?_))))
  replace a:=a.fz 0 0 r r
  replace a:=a.rb 5 aC r az
  obtain rfl:=sm hM
  exact jB r (tV r El r nW r (a.bk 6 r)) (mJ (⟨c,d,m,o,v,x,p,C,D,E,F,H,I,r,(a.ad [0,1,2,3,4,5] [6,0,1,2,3,4,5])⟩))
 refine jD (bf b3) (wk (q (g (s (ng [T j.b,V j.f,Z c j.a d,Z t j.d u] El nW r (a.bk 2 r)) (kZ (nU a 1 [T j.b,V j.f,Z c j.a d,Z t j.d u] r nW r r) fun c4 a=>n (kU ?_))))))
 replace a:=a.rb 0 aC r az
 obtain rfl:=sm hM
 exact jB r (tV r El r nW r (a.bk 1 r)) (mJ (⟨c,d,t,u,Y,a0,B,Q,S,ab,U,W,X,r,(a.ad [3,4,5,6,7,0] [5,6,0,2,3,4,1])⟩))
def IK (m:jW→Option (jK × Int × Int)):Prop:=∀ {x:World} {B:Nat→Prop} {u:jW} {a:Option Addr} {b:Nat} {c:Option Addr} {d:Nat} {R:jK × Int × Int},Pre x B [] [.l a b u.a,.l c d u.b]→m u=some R→
 Calls Try.prog 36 #[.agg #[Z a u.a b,Z c u.b d]] x (qQ fun v w=>jy R fun t R=>jy R fun z A=>∃ (e:OA)(f:Nat)(h:OA)(i:Nat)(j:OA)(k:Nat)(o:OA)(p:Nat),v=.tuple #[.agg #[Z e t.a.a f,Z h t.a.b i,Z j t.b k,Z o t.c p],V z,V A]∧Bx x w B (lS []) [] [.l e f t.a.a,.l h i t.a.b,.l j k t.b,.l o p t.c])
def rX (fu:Nat)(p:jW):Nat→Int→(List Gr)→Int→Int→Int→(List Gn)→(List (List Gv))→(List Gi)→(List Int)→Option (Ld (Int × List Gr × Int × Int × Int × List Gn × List (List Gv) × List Gi × List Int) (jK × Int × Int))
 | 0,_,_,_,_,_,_,_,_,_=>none
 | t+1,b,d,m,h,c,i,j,k,l=>
 if b < (p.b.length:Int) then
  if c=0 then
   (app j [[]]).bind fun u=>
   (ix p.b b).bind fun v=>
   (qF fu (⟨(⟨(⟨d,i⟩:jW),u,k⟩:jK),b,l,h,c⟩:Gt) v).bind fun z=>
   jy z fun o a=>
   (ix a.a.a.b b).bind fun x=>
   (st a.a.a.b b o).bind fun w=>
   rX fu p t (wr (b+1)) a.a.a.a a.f a.c a.e w a.a.b a.a.c a.b
  else
   some (.go (b,d,m,h,c,i,j,k,l))
 else
  some (.go (b,d,m,h,c,i,j,k,l))
def vY (fu:Nat)(k:jW):Option (jK × Int × Int):=
 (app ([]:List Gn) k.b).bind fun t=>
 (yM fu (⟨(⟨(⟨k.a,t⟩:jW),([]:List (List Gv)),([]:List Gi)⟩:jK),0,([]:List Int),0,0⟩:Gt)).bind fun a=>
 (rX fu k fu 0 a.a.a.a a.f a.c a.e a.a.a.b a.a.b a.a.c a.b).bind fun u=>u.el (fun u=>
 jy u fun l u=>jy u fun c u=>jy u fun m u=>jy u fun d u=>jy u fun b u=>jy u fun h u=>jy u fun i u=>jy u fun j p=>
 if b≠0 then
  some ((⟨(⟨([]:List Gr),([]:List Gn)⟩:jW),([]:List (List Gv)),([]:List Gi)⟩:jK),d,b)
 else
  some ((⟨(⟨c,h⟩:jW),i,j⟩:jK),0,0)
 ) (fun o=>some o)
theorem Dh (fu:Nat):IK (vY fu):=by
 intro w0 bS x0 m o ab ac R hP hM
 unfold vY at hM
 have a:=hP.bx
 clear hP
 generalize hG:lS _=G at a ⊢
 refine cf Try.func36 r (lM [(0,.agg #[Z m x0.a o,Z ab x0.b ac])] ⟨r,y⟩ fun bT=>q (g (sV a (yY r) fun w1 b1 a=>sV a (jU vR) fun w2 b2 a=>s (xi r) (s (xi r) (n (q (qc a [1] [] [] (by kernel_rfl) ?_)))))))
 replace a:=a.drew
 have hs:=(a.ad [1] [])
 refine pF 0 r (Dk r) hs (uF 1 r (fun hS=>Ta r (hS.bk 0 r) r) hs (pF 3 r (Al r) hs (uF 4 r (fun hS=>Oz r (hS.bk 0 r) r) hs (hO 2 (oo r r (jN a [] ([]:List Gn) (PI) r r (by decide) y) ?_)))))
 rintro _ w3 ⟨b3,rfl,a⟩
 have hs:=(a.ad [2] [])
 refine ⟨(sF hs),?_⟩
 obtain ⟨r4,bd,hM⟩:=bs hM
 refine hO 5 (oo r r (kL a 0 0 r r Cv nW r (by decide) (by decide) (Nat.le_refl _) r r (a.ysD 2 r) bd) ?_)
 rintro _ w4 ⟨A4,C4,Q4,rfl,a⟩
 have hs:=(a.ad [2] [])
 refine ⟨(sF hs),(pF 6 r (Pq r r) hs (pF 7 r (Uu r) hs (pF 8 r (Rq r) hs (hO 9 (oo r r (nD a (yY r)) ?_)))))⟩
 rintro _ w6 ⟨b6,rfl,a⟩
 have hs:=(a.ad [3] [])
 refine ⟨(sF hs),(pF 10 r (Me r) hs (hD (q (g (s (mp r) ?_)))))⟩
 replace a:=a.Xx Gv 60 59
 replace a:=a.Bv Gi 65
 replace a:=a.Bv Int 3
 obtain ⟨aa,bg,hM⟩:=bs hM
 have hc:=(Jp fu) (a.pr [4,5,2,3,1,0] [6,7] [4,3,2,1,0] r) a.qW.size a.qW.size a.qW.size a.qW.size a.qW.size bg
 refine sc (ec YQ r) hc ?_
 rintro _ bv ⟨rfl,hK⟩
 replace a:=a.cn [4,5,2,3,1,0] [6,7] hK
 refine n (q (q (g (s (xi r) (n ?_)))))
 obtain ⟨aV,j,hM⟩:=bs hM
 refine nT (fun f w=>∃ (W:Int)(J:List Gr) (a9:Int)(a7:Int)(a8:Int)(K:List Gn) (b:OA)(c:Nat)(a4:LV)(N:List (List Gv)) (v:OA)(x:Nat)(Q:List Rw) (L:List Gi) (p:OA)(t:Nat)(a5:LV)(X:List Int) (S:OA)(U:Nat)(a6:LV),Has f [(2,Pt b2),(5,Pt b6)]∧Bx w0 w bS G [.box b6 115 #[Z m J o,Z b K c,Z v N x,Z p L t,V a9,Z S X U,V a7,V a8],O w0.heap.size b c 82 Gn a4,O w0.heap.size v x 60 (List Gv) (Q.map Rw.hdr),.qR w0.heap.size 59 (sz Gv) Q none,O w0.heap.size p t 65 Gi a5,O w0.heap.size S U 3 Int a6,.box b2 30 #[sn,sn,sn,sn],.box b1 26 #[Z m x0.a o,Z ab x0.b ac]] [.l m o J,.els a4 K,.mQ Q N,.els a5 L,.els a6 X,.l m o x0.a,.l ab ac x0.b]∧Ld.go (W,J,a9,a7,a8,K,N,L,X)=aV) (fun bw aw=>?_) ?_
 ·refine nS (kE (fun bU f w=>∃ (W:Int)(J:List Gr) (a9:Int)(a7:Int)(a8:Int)(K:List Gn) (b:OA)(c:Nat)(a4:LV)(N:List (List Gv)) (v:OA)(x:Nat)(Q:List Rw) (L:List Gi) (p:OA)(t:Nat)(a5:LV)(X:List Int) (S:OA)(U:Nat)(a6:LV),Has f [(1,Pt b1),(2,Pt b2),(5,Pt b6),(6,V W)]∧Bx w0 w bS G [.box b6 115 #[Z m J o,Z b K c,Z v N x,Z p L t,V a9,Z S X U,V a7,V a8],O w0.heap.size b c 82 Gn a4,O w0.heap.size v x 60 (List Gv) (Q.map Rw.hdr),.qR w0.heap.size 59 (sz Gv) Q none,O w0.heap.size p t 65 Gi a5,O w0.heap.size S U 3 Int a6,.box b2 30 #[sn,sn,sn,sn],.box b1 26 #[Z m x0.a o,Z ab x0.b ac]] [.l m o J,.els a4 K,.mQ Q N,.els a5 L,.els a6 X,.l m o x0.a,.l ab ac x0.b]∧rX fu x0 bU W J a9 a7 a8 K N L X=some aV) fu ⟨0,aa.a.a.a,aa.f,aa.c,aa.e,aa.a.a.b,A4,C4,Q4,aa.a.b,none,0,([]:List Rw),aa.a.c,none,0,[],aa.b,none,0,[],⟨r,r,r,r,y⟩,(a.dp [0,1,2,3,4,9,10]),j⟩ ?_)
  clear a j
  rintro ay f w ⟨W,J,a9,a7,a8,K,b,c,a4,N,v,x,Q,L,p,t,a5,X,S,U,a6,hf,a,j⟩ bz aW
  obtain ⟨bT,rfl⟩:=fV _ _ hf
  clear hf
  cases ay with
  | zero=>exact nn j
  | succ ay=>
   rw [rX] at j
   refine q (q (g (s (mi r) (s (Al r) (s (Oz r (a.bk 7 r) r) (s (lF Cv r) (s (qo r r) (s (kQ r) ?_))))))))
   rcases iv j with ⟨az,j⟩|⟨az,j⟩
   ·rw [decide_eq_true az]
    refine ku r (s (mp r) (ku r (s (xn r) (ku r (s (yX r) (ku r (s (BK r (a.bk 0 r) r) (ku r (s (kH r r) (s (kG r r) (n ?_)))))))))))
    rcases iv j with ⟨aA,j⟩|⟨aA,j⟩
    ·refine jJ (bt aA) (wk (q (nS (q (g (s (mp r) (s (mi r) (s (xn r) (s (Aa r) (kZ (t_n a 0 [V W] r mP r r) fun bA a=>n (q (g (s (mp r) (s (mp r) (s (xn r) (s (pG r) (s (y5 r) (s (MB r (a.bk 0 r) r) (nM (jN a [[sn]] ([([]:List Gv)]:List (List Gv)) (P7 r) r r (by decide) ⟨⟨none,0,r,nZ⟩,y⟩) ?_)))))))))))))))))))
     rintro _ bB ⟨bC,rfl,a⟩
     obtain ⟨aX,aY,j⟩:=bs j
     refine nM (Vm 3 4 3 a r r (by decide) r Cn Dg r (by decide) (Nat.le_refl _) r r (iy:=0) r aY) ?_
     rintro _ bD ⟨aZ,b0,bE,rfl,a⟩
     try dsimp only [List.set] at a
     refine s (xn r) (s (pG r) (s (y5 r) (kZ (t_n a 1 [Z aZ aX b0] r Wl r r) fun bF a=>n ?_)))
     obtain ⟨an,al,j⟩:=bs j
     obtain ⟨bG,b4,al⟩:=kR al
     obtain ⟨bm,b5,a⟩:=a.nm 7 rfl al
     obtain ⟨ao,ap,aq,ar,rfl,aB,aC⟩:=nK.out b5
     replace a:=a.kr (d:=.l ao ap an.a) aB
     replace a:=a.kr (d:=.l aq ar an.d) aC
     obtain ⟨M,h,b7,j⟩:=lX j
     obtain ⟨av,af,j⟩:=bs j
     obtain ⟨aD,ax,af⟩:=kR af
     obtain ⟨au,ag,j⟩:=bs j
     obtain ⟨bh,bn,_,ag⟩:=Ar ag
     obtain rfl:aD=bh:=by omega
     refine nT (fun f w=>∃ (A:OA)(B:Nat)(C:OA)(D:Nat)(E:OA)(F:Nat)(ai:LV)(u:List Rw) (H:LV)(I:LV),Has f [(1,Pt b1),(2,Pt b2),(5,Pt b6),(6,V W)]∧Bx w0 w bS G [.box b6 115 #[Z m h.a.a.a o,Z b au c,Z A h.a.b B,Z C h.a.c D,V h.f,Z E h.b F,V h.c,V h.e],O w0.heap.size b c 82 Gn ai,O w0.heap.size A B 60 (List Gv) (u.map Rw.hdr),.qR w0.heap.size 59 (sz Gv) u none,O w0.heap.size C D 65 Gi H,O w0.heap.size E F 3 Int I,.box b2 30 #[sn,sn,sn,sn],.box b1 26 #[Z m x0.a o,Z ab x0.b ac]] [.els ai au,.mQ u h.a.b,.els H h.a.c,.els I h.b,.l m o x0.a,.l ab ac x0.b,.l m o h.a.a.a]) (fun Jd hJd=>?_) ?_
     ·refine Kr a [8] [0,1,2,10] [1,8] [0,1,2,10] [13,15] (by kernel_rfl) ?_
      replace a:=a.drew
      have hs:=(a.ad [8] [0,1,2,10])
      have hu:=(a.ad [1,8] [0,1,2,10])
      refine pL 0 r (mp r) hs hu (pL 1 r (xn r) hs hu (pL 2 r (pG r) hs hu (pL 3 r (FB r) hs hu (pL 4 r (Al r) hs hu (pL 6 r (mi r) hs hu (pL 7 r (mp r) hs hu (pL 8 r (Al r) hs hu (tU 9 r (fun _ hS=>Oz r (hS.bk 0 r) r) (nA hs hu) (pL 10 r (mi r) hs hu (pL 11 r (kW Cv nW r r b4 (a.dl 10 r) al) hs hu (tU 12 r (fun _ hS=>mR [T an.b,V an.f,Z ao an.a ap,Z aq an.d ar] El r nW r r (hS.dc 2 r)) (nA hs hu) (mM 5 [13] (by kernel_rfl) (jI ?_ (jI ?_ lJ))))))))))))))
      ·have hs:=(a.ad [8] [0,1,2,10])
       have hu:=(a.ad [1,8] [0,1,2,10])
       refine uJ r r (Oz r (a.bk 1 r) r) (nA hs hu) ?_
       have hc:=(AU fu) (a.pr [1,2,3,4,5,6] [0,7,8] [4,5,6,7,8,1,0] r) a.qW.size a.qW.size a.qW.size a.qW.size a.qW.size b7
       refine hO 13 (oc r r (ec SN r) hc ?_)
       rintro _ bi ⟨Y,a0,a1,a2,A,B,u,C,D,H,E,F,I,rfl,hK⟩
       replace a:=a.cn [1,2,3,4,5,6] [0,7,8] hK
       have hs:=(a.ad [8] [7,8,9,17])
       refine ⟨(sy 13 hs),?_⟩
       obtain ⟨bo,b8,b9⟩:=(a.de 3 rfl).get af
       obtain ⟨aE,aF,aG,aH,rfl,aI,aJ⟩:=nK.out b9
       replace a:=a.kr (d:=.l aE aF av.a) aI
       replace a:=a.kr (d:=.l aG aH av.d) aJ
       refine tP 14 r (fun _=>kW Cv nW (congrArg (fun z=>Value.slice b z c) ((a.de 14 r).len.symm.trans (a.de 5 r).len)) r ax (a.vw 1 5 r r) af) (sy 13 hs) (hO 15 (os r r (Jz a 1 5 aD 0 [T M.b,V M.f,Z Y M.a a0,Z a1 M.d a2] r r b8 nW r r r r r (show _=[T M.b,V M.f,Z Y M.a a0,Z a1 M.d a2] from r) (nK.inn ⟨Y,a0,a1,a2,r,(a.dl 2 r),(a.dl 3 r)⟩) ag) ?_))
       rintro bj ⟨ai,a⟩
       try dsimp only [List.set] at a
       have aj:h.a.a.b.length=au.length:=by rw [← ag,List.length_set]
       try dsimp only [Z] at a
       try rw [aj] at a
       try dsimp only [Z]
       try rw [aj]
       have hs:=(a.ad [8] [9,10,11,19])
       exact ⟨(sy 13 hs),(hD (hJd _ _ ⟨A,B,C,D,E,F,ai,u,H,I,⟨r,r,r,r,y⟩,(a.ad [0,1,2,3,4,5,7,8] [5,6,7,8,18,19,4])⟩))⟩
      have hc:=(AU fu) (a.pr [1,2,3,4,5,6] [0,7,8] [4,5,6,7,8,1,0] r) a.qW.size a.qW.size a.qW.size a.qW.size a.qW.size b7
      refine oc r r (ec SN r) hc ?_
      rintro _ bi ⟨Y,a0,a1,a2,A,B,u,C,D,H,E,F,I,rfl,hK⟩
      replace a:=a.cn [1,2,3,4,5,6] [0,7,8] hK
      have hs:=(a.ad [8] [7,8,9,17])
      refine ⟨(sy 13 hs),(hO 5 (uJ r r (Oz r (a.bk 0 r) r) (sy 13 hs) ?_))⟩
      obtain ⟨bp,ba,bb⟩:=(a.de 3 rfl).get af
      obtain ⟨aK,aL,aM,aN,rfl,aO,aP⟩:=nK.out bb
      replace a:=a.kr (d:=.l aK aL av.a) aO
      replace a:=a.kr (d:=.l aM aN av.d) aP
      refine tP 14 r (fun _=>kW Cv nW r r ax (a.vw 1 5 r r) af) (sy 13 hs) (hO 15 (os r r (Jz a 1 5 aD 0 [T M.b,V M.f,Z Y M.a a0,Z a1 M.d a2] r r ba nW r r r r r (show _=[T M.b,V M.f,Z Y M.a a0,Z a1 M.d a2] from r) (nK.inn ⟨Y,a0,a1,a2,r,(a.dl 2 r),(a.dl 3 r)⟩) ag) ?_))
      rintro bj ⟨ai,a⟩
      try dsimp only [List.set] at a
      have aj:h.a.a.b.length=au.length:=by rw [← ag,List.length_set]
      try dsimp only [Z] at a
      try rw [aj] at a
      try dsimp only [Z]
      try rw [aj]
      have hs:=(a.ad [8] [9,10,11,19])
      exact ⟨(sy 13 hs),(hD (hJd _ _ ⟨A,B,C,D,E,F,ai,u,H,I,⟨r,r,r,r,y⟩,(a.ad [0,1,2,3,4,5,7,8] [5,6,7,8,18,19,4])⟩))⟩
     clear a
     rintro f w ⟨A,B,C,D,E,F,ai,u,H,I,hf,a⟩
     obtain ⟨bT,rfl⟩:=fV _ _ hf
     clear hf
     exact g (s (mi r) (s (kJ r r) (s (xi r) (n (aW ay _ _ (Nat.lt_succ_self _) ⟨(wr (W+1)),h.a.a.a,h.f,h.c,h.e,au,b,c,ai,h.a.b,A,B,u,h.a.c,C,D,H,h.b,E,F,I,⟨r,r,r,r,y⟩,(a.dp [6,0,1,2,3,4,5]),j⟩)))))
    exact jD (bf aA) (ug (aw _ _ ⟨W,J,a9,a7,a8,K,b,c,a4,N,v,x,Q,L,p,t,a5,X,S,U,a6,⟨r,r,y⟩,a,sm j⟩))
   rw [decide_eq_false az]
   exact jL r (jL r (jL r (jL r (jL r (s (jZ r r) (n (jD r (ug (aw _ _ ⟨W,J,a9,a7,a8,K,b,c,a4,N,v,x,Q,L,p,t,a5,X,S,U,a6,⟨r,r,y⟩,a,sm j⟩)))))))))
 clear a
 rintro f w ⟨W,J,a9,a7,a8,K,b,c,a4,N,v,x,Q,L,p,t,a5,X,S,U,a6,hf,a,bc⟩
 obtain ⟨bT,rfl⟩:=fV _ _ hf
 clear hf
 subst bc
 replace hM:=gi hM
 replace hM:=AZ (mE (mE hM))
 refine q (q (g (s (mp r) (s (xn r) (s (yX r) (s (BK r (a.bk 0 r) r) (s (rT r r) (n ?_))))))))
 rcases iv hM with ⟨aQ,hM⟩|⟨aQ,hM⟩
 ·refine jJ (bt aQ) (q (qc a [0] [] [] (by kernel_rfl) ?_))
  replace a:=a.drew
  have hs:=(a.ad [0] [])
  refine pF 0 r (Tg) hs (pF 1 r (mp r) hs (pF 2 r (xn r) hs (pF 3 r (Qe r) hs (uF 4 r (fun hS=>l3 r (hS.bk 0 r) r) hs (pF 5 r (mp r) hs (pF 6 r (xn r) hs (pF 7 r (yX r) hs (uF 8 r (fun hS=>BK r (hS.bk 0 r) r) hs (hO 9 (os r r (nU a 6 [sn,sn,sn,sn] r vR r r) fun bH a=>?_))))))))))
  have hs:=(a.ad [0] [])
  refine ⟨(sF hs),(pF 10 r (xi r) hs (pF 11 r (xi r) hs (hD (kU ?_))))⟩
  replace a:=a.kr (d:=.l none 0 ([]:List Gr)) nZ
  replace a:=a.kr (d:=.l none 0 ([]:List Gn)) nZ
  replace a:=a.kr (d:=.l none 0 ([]:List (List Gv))) nZ
  replace a:=a.kr (d:=.l none 0 ([]:List Gi)) nZ
  obtain rfl:=sm hM
  exact xI r (tV r CK r vR r (a.bk 6 r)) (lq r) (lq r) (mJ (mJ (⟨none,0,none,0,none,0,none,0,r,(a.ad [] [3,2,1,0])⟩)))
 refine jD (bf aQ) (wk (q (g (s (mp r) (s (xn r) (s (pG r) (s (ng [Z m J o,Z b K c,Z v N x,Z p L t] CK vR r (a.bk 0 r)) (kZ (nU a 6 [Z m J o,Z b K c,Z v N x,Z p L t] r vR r r) fun bI a=>s (xi r) (s (xi r) (n (kU ?_)))))))))))
 replace a:=a.fz 1 1 r r
 replace a:=a.arr [1,2,0,3,4,5,6] r
 try dsimp only [pick,nth,ca,na] at a
 replace a:=a.Zj 2 r
 try dsimp only [List.eraseIdx] at a
 replace a:=a.fz 1 3 r r
 obtain rfl:=sm hM
 exact xI r (tV r CK r vR r (a.bk 2 r)) (lq r) (lq r) (mJ (mJ (⟨m,o,b,c,v,x,p,t,r,(a.ad [] [3,2,1,0])⟩)))
end
end Go.Proofs.Ytfglbdkfnphjgaa
