/- Contracts, printed by gen3.py. -/
import Derived.Test.YtfglbdkfnphjgaaZ5
import Derived.Test.YtfglbdkfnphjgaaLf
set_option linter.unusedVariables false
set_option maxHeartbeats 12800000
set_option linter.unusedSimpArgs false
set_option maxRecDepth 4000
namespace Go.Proofs.Ytfglbdkfnphjgaa
open Go.RowKit Go.Fw
noncomputable section
abbrev pU:=fV→(List jD)→Option ((List jD) × fV)
abbrev qL:=fV→jD→Option (jD × fV)
def wK (m:Gt→(List Gs)→Option ((List Gs) × Gt)):Prop:=∀ {w0:World} {a4:Nat→Prop} {k:Gt} {x1:(List Gs)} {a1:Nat} {d:Option Addr} {h:Nat} {a:Option Addr} {b:Nat} {i:List (List Value)} {o:Nat} {p:Option Addr} {t:Nat} {j:List Rw} {u:Nat} {x:Nat} {z:Option Addr} {A:Nat} {G:List (List Value)} {B:Nat} {C:Option Addr} {D:Nat} {H:List (List Value)} {E:Nat} {S:Option Addr} {U:Nat} {R:(List Gs) × Gt},Pre w0 a4 [.box a1 115 #[Z d k.a.a.a h,Z a k.a.a.b b,Z p k.a.c t,Z z k.a.b A,V k.f,Z C k.b D,V k.c,V k.e],O o a b 82 Gn i,O u p t 60 (List Gv) (j.map Rw.hdr),.qX x 59 (sz Gv) j none,O B z A 65 Gi G,O E C D 3 Int H] [.l d h k.a.a.a,.els i k.a.a.b,.mU j k.a.c,.els G k.a.b,.els H k.b,.l S U x1]→o≤w0.heap.size→u≤w0.heap.size→x≤w0.heap.size→B≤w0.heap.size→E≤w0.heap.size→m k x1=some R→
 Calls Try.prog 74 #[Pt a1,Z S x1 U] w0 (qW fun v w=>jy R fun r0 c=>∃ (W:OA)(X:Nat)(Y:LV)(I:OA)(J:Nat)(F:List Rw) (K:OA)(L:Nat)(M:LV)(N:OA)(P:Nat)(Q:LV),v=Z W r0 X∧Bx w0 w a4 (lT [.box a1 115 #[Z d k.a.a.a h,Z a k.a.a.b b,Z p k.a.c t,Z z k.a.b A,V k.f,Z C k.b D,V k.c,V k.e],O o a b 82 Gn i,O u p t 60 (List Gv) (j.map Rw.hdr),.qX x 59 (sz Gv) j none,O B z A 65 Gi G,O E C D 3 Int H]) [O w0.heap.size W X 111 Gs Y,.box a1 115 #[Z d c.a.a.a h,Z a c.a.a.b b,Z I c.a.c J,Z K c.a.b L,V c.f,Z N c.b P,V c.c,V c.e],O o a b 82 Gn i,O u I J 60 (List Gv) (F.map Rw.hdr),.qX x 59 (sz Gv) F none,O B K L 65 Gi M,O E N P 3 Int Q] [.els Y r0,.l d h c.a.a.a,.els i c.a.a.b,.mU F c.a.c,.els M c.a.b,.els Q c.b])
def zQ (m:Gt→Gs→Option (Gs × Gt)):Prop:=∀ {w0:World} {ag:Nat→Prop} {k:Gt} {G:Gs} {ae:Nat} {d:Option Addr} {h:Nat} {a:Option Addr} {b:Nat} {i:List (List Value)} {o:Nat} {p:Option Addr} {t:Nat} {j:List Rw} {u:Nat} {x:Nat} {z:Option Addr} {A:Nat} {I:List (List Value)} {B:Nat} {C:Option Addr} {D:Nat} {J:List (List Value)} {E:Nat} {W:Option Addr} {X:Nat} {Y:Option Addr} {a0:Nat} {a1:Option Addr} {a2:Nat} {a3:Option Addr} {a4:Nat} {R:Gs × Gt},Pre w0 ag [.box ae 115 #[Z d k.a.a.a h,Z a k.a.a.b b,Z p k.a.c t,Z z k.a.b A,V k.f,Z C k.b D,V k.c,V k.e],O o a b 82 Gn i,O u p t 60 (List Gv) (j.map Rw.hdr),.qX x 59 (sz Gv) j none,O B z A 65 Gi I,O E C D 3 Int J] [.l d h k.a.a.a,.els i k.a.a.b,.mU j k.a.c,.els I k.a.b,.els J k.b,.l W X G.d,.l Y a0 G.a,.l a1 a2 G.e,.l a3 a4 G.h]→o≤w0.heap.size→u≤w0.heap.size→x≤w0.heap.size→B≤w0.heap.size→E≤w0.heap.size→m k G=some R→
 Calls Try.prog 99 #[Pt ae,.agg #[V G.c,V G.f,V G.n,T G.b,T G.k,V G.m,V G.g,Z W G.d X,T G.j,V G.i,Z Y G.a a0,Z a1 G.e a2,Z a3 G.h a4]] w0 (qW fun v w=>jy R fun H c=>∃ (a5:OA)(a6:Nat)(a7:OA)(a8:Nat)(a9:OA)(aa:Nat)(ab:OA)(ac:Nat)(K:OA)(L:Nat)(F:List Rw) (M:OA)(N:Nat)(P:LV)(Q:OA)(S:Nat)(U:LV),v=.agg #[V H.c,V H.f,V H.n,T H.b,T H.k,V H.m,V H.g,Z a5 H.d a6,T H.j,V H.i,Z a7 H.a a8,Z a9 H.e aa,Z ab H.h ac]∧Bx w0 w ag (lT [.box ae 115 #[Z d k.a.a.a h,Z a k.a.a.b b,Z p k.a.c t,Z z k.a.b A,V k.f,Z C k.b D,V k.c,V k.e],O o a b 82 Gn i,O u p t 60 (List Gv) (j.map Rw.hdr),.qX x 59 (sz Gv) j none,O B z A 65 Gi I,O E C D 3 Int J]) [.box ae 115 #[Z d c.a.a.a h,Z a c.a.a.b b,Z K c.a.c L,Z M c.a.b N,V c.f,Z Q c.b S,V c.c,V c.e],O o a b 82 Gn i,O u K L 60 (List Gv) (F.map Rw.hdr),.qX x 59 (sz Gv) F none,O B M N 65 Gi P,O E Q S 3 Int U] [.l a5 a6 H.d,.l a7 a8 H.a,.l a9 aa H.e,.l ab ac H.h,.l d h c.a.a.a,.els i c.a.a.b,.mU F c.a.c,.els P c.a.b,.els U c.b])
def lS (fu:Nat)(r_r04_block:pU) (r_r04_stmt:qL):List Gs→Nat→(List Gs)→(List Gr)→Int→Int→Int→(List Gn)→(List (List Gv))→(List Gi)→(List Int)→Option (Ld (List Gs × List Gr × Int × Int × Int × List Gn × List (List Gv) × List Gi × List Int) ((List Gs) × Gt))
 | [],_,c,d,h,i,b,j,k,l,m=>some (.go (c,d,h,i,b,j,k,l,m))
 | p :: t,u,c,d,h,i,b,j,k,l,m=>
 if b≠0 then
  some (.go (c,d,h,i,b,j,k,l,m))
 else
  (r_r04_stmt (⟨(⟨(⟨d,j⟩:jR),k,l⟩:jO),h,m,i,b⟩:Gt) p).bind fun w=>
  jy w fun o a=>
  (app c ([o]:List Gs)).bind fun v=>
  lS fu r_r04_block r_r04_stmt t (u+1) v a.a.a.a a.f a.c a.e a.a.a.b a.a.c a.a.b a.b
def nG (fu:Nat)(r_r04_block:pU) (r_r04_stmt:qL) (c:Int)(d:List Gi):List Int→Nat→(List (List Gv))→Option (Ld (List (List Gv)) ((List Gs) × Gt))
 | [],_,a=>some (.go a)
 | e :: h,i,a=>
 (ix a c).bind fun f=>
 (ix f e).bind fun b=>
 (st f e (⟨b.b,b.c,b.d,b.a,b.f,b.e,(wr ((d.length:Int) - 1))⟩:Gv)).bind fun j=>
 (st a c j).bind fun k=>
 nG fu r_r04_block r_r04_stmt c d h (i+1) k
def pK (fu:Nat)(r_r04_block:pU) (r_r04_stmt:qL) (b:Gt) (w:(List Gs)):Option ((List Gs) × Gt):=
 (lS fu r_r04_block r_r04_stmt w 0 ([]:List Gs) b.a.a.a b.f b.c b.e b.a.a.b b.a.c b.a.b b.b).bind fun x=>x.el (fun x=>
 jy x fun i x=>jy x fun j x=>jy x fun c x=>jy x fun k x=>jy x fun l x=>jy x fun m x=>jy x fun p x=>jy x fun d a=>
 (sl a (b.b.length:Int) (a.length:Int)).bind fun t=>
 (nG fu r_r04_block r_r04_stmt c d t 0 p).bind fun x=>x.el (fun h=>
 (sl a 0 (b.b.length:Int)).bind fun u=>
 (app ([]:List Int) u).bind fun v=>
 some (i,(⟨(⟨(⟨j,m⟩:jR),h,d⟩:jO),c,v,k,l⟩:Gt))
 ) (fun o=>some o)
 ) (fun o=>some o)
def qx (fu:Nat)(r_r04_block:pU) (r_r04_stmt:qL) (b:Gt) (a:Gs) (j:List Gi):Option (Ld (Int × Int × Int) (Gs × Gt)):=
 if 0 < a.m then
  some (.go (3,(-1),a.m))
 else
  if ¬ a.k=(⟨#[]⟩:BA) then
   (xB fu (⟨(⟨b.a.a,b.a.c,j⟩:jO),b.f,b.b,b.c,b.e⟩:Gt) a.k).bind fun k=>
   jy k fun c d=>
   if (!d)=true then
    (lY fu (⟨(⟨b.a.a,b.a.c,j⟩:jO),b.f,b.b,b.c,b.e⟩:Gt) a.f 8).bind fun h=>
    some (.out ((⟨a.c,a.f,(b.a.b.length:Int),a.b,a.k,a.m,a.g,a.d,a.j,a.i,a.a,a.e,a.h⟩:Gs),h))
   else
    (ix b.a.a.a c).bind fun i=>
    some (.go (2,c,(i.a.length:Int)))
  else
   some (.go (1,(-1),1))
def nZ (fu:Nat)(r_r04_block:pU) (r_r04_stmt:qL) (a:Gt) (c:Gs) (l:List Gi):Option (Ld (List Gr × Int × Int × Int × List Gn × List (List Gv) × List Gi × List Int) (Gs × Gt)):=
 if c.c=1 then
  (qx fu r_r04_block r_r04_stmt a c l).bind fun p=>p.el (fun p=>
  jy p fun d p=>jy p fun h i=>
  (og fu (⟨(⟨a.a.a,a.a.c,l⟩:jO),a.f,a.b,a.c,a.e⟩:Gt) c.f (⟨c.b,d,h,i,false,(wr ((a.a.b.length:Int)+1)),0⟩:Gv)).bind fun p=>
  jy p fun j k=>
  some (.out ((⟨c.c,c.f,(a.a.b.length:Int),c.b,c.k,c.m,j,c.d,c.j,c.i,c.a,c.e,c.h⟩:Gs),k))
  ) (fun o=>some (.out o))
 else
  if c.c=3 then
   if 0 < (c.d.length:Int) then
    (ix c.d 0).bind fun m=>
    if m.e≠1 then
     (lY fu (⟨(⟨a.a.a,a.a.c,l⟩:jO),a.f,a.b,a.c,a.e⟩:Gt) c.f 10).bind fun b=>
     some (.go (b.a.a.a,b.f,b.c,b.e,b.a.a.b,b.a.c,b.a.b,b.b))
    else
     some (.go (a.a.a.a,a.f,a.c,a.e,a.a.a.b,a.a.c,l,a.b))
   else
    some (.go (a.a.a.a,a.f,a.c,a.e,a.a.a.b,a.a.c,l,a.b))
  else
   some (.go (a.a.a.a,a.f,a.c,a.e,a.a.a.b,a.a.c,l,a.b))
def qz (fu:Nat)(r_r04_block:pU) (r_r04_stmt:qL) (i:Gt) (d:Gs) (h:(List Ge)) (b:Gt):Option (Ld (List Gr × Int × Int × Int × List Gn × List (List Gv) × List Gi × List Int × Int × Int × Int × BA × BA × Int × Int × List Ge × BA × Int × List Ge × List Gs × List Gs) (Gs × Gt)):=
 if ¬ d.j=(⟨#[]⟩:BA) then
  (qm fu b (⟨d.c,d.f,(i.a.b.length:Int),d.b,d.k,d.m,d.g,h,d.j,d.i,d.a,d.e,d.h⟩:Gs)).bind fun j=>
  jy j fun c a=>
  some (.go (c.a.a.a,c.f,c.c,c.e,c.a.a.b,c.a.c,c.a.b,c.b,a.c,a.f,a.n,a.b,a.k,a.m,a.g,a.d,a.j,a.i,a.a,a.e,a.h))
 else
  some (.go (b.a.a.a,b.f,b.c,b.e,b.a.a.b,b.a.c,b.a.b,b.b,d.c,d.f,(i.a.b.length:Int),d.b,d.k,d.m,d.g,h,d.j,d.i,d.a,d.e,d.h))
def qw (fu:Nat)(r_r04_block:pU) (r_r04_stmt:qL) (c:Int)(a:Gt):Option (Ld (List (List Gv)) (Gs × Gt)):=
 if a.e=0 then
  (ix a.a.c a.f).bind fun d=>
  (ix d c).bind fun b=>
  (st d c (⟨b.b,b.c,b.d,b.a,b.f,b.e,(wr ((a.a.b.length:Int) - 1))⟩:Gv)).bind fun h=>
  (st a.a.c a.f h).bind fun i=>
  some (.go i)
 else
  some (.go a.a.c)
def pz (fu:Nat)(r_r04_block:pU) (r_r04_stmt:qL) (h:Int)(c:Int)(j:Int)(d:BA) (k:BA) (l:Int)(m:List Ge) (p:BA) (t:Int)(u:List Gs) (v:(List Ge)) (w:(List Gs)) (b:Gt):Option (Ld (Unit) (Gs × Gt)):=
 if h=8 then
  if b.e=0 then
   (app ([]:List Int) b.b).bind fun B=>
   (og fu b c (⟨d,1,(-1),1,false,(b.a.b.length:Int),0⟩:Gv)).bind fun C=>
   jy C fun i x=>
   (r_r04_block x u).bind fun C=>
   jy C fun z a=>
   (qw fu r_r04_block r_r04_stmt i a).bind fun C=>C.el (fun A=>
   some (.out ((⟨h,c,j,d,k,l,i,m,p,t,v,w,z⟩:Gs),(⟨(⟨a.a.a,A,a.a.b⟩:jO),a.f,B,a.c,a.e⟩:Gt)))
   ) (fun o=>some (.out o))
  else
   some (.go ())
 else
  some (.go ())
def sM (fu:Nat)(r_r04_block:pU) (r_r04_stmt:qL) (z:Gt) (a:Gs):Option (Gs × Gt):=
 if 200≤(z.a.b.length:Int) then
  (lY fu z a.f 5).bind fun Y=>
  some ((⟨a.c,a.f,(z.a.b.length:Int),a.b,a.k,a.m,a.g,a.d,a.j,a.i,a.a,a.e,a.h⟩:Gs),Y)
 else
  (app z.a.b ([(⟨z.f,a.c,a.f⟩:Gi)]:List Gi)).bind fun r8=>
  (nZ fu r_r04_block r_r04_stmt z a r8).bind fun a1=>a1.el (fun a1=>
  jy a1 fun A a1=>jy a1 fun B a1=>jy a1 fun C a1=>jy a1 fun D a1=>jy a1 fun E a1=>jy a1 fun F a1=>jy a1 fun G H=>
  (rE fu (⟨(⟨(⟨A,E⟩:jR),F,G⟩:jO),B,H,C,D⟩:Gt) a.d a.f).bind fun a1=>
  jy a1 fun I J=>
  (qz fu r_r04_block r_r04_stmt z a I J).bind fun a1=>a1.el (fun a1=>
  jy a1 fun K a1=>jy a1 fun L a1=>jy a1 fun M a1=>jy a1 fun N a1=>jy a1 fun P a1=>jy a1 fun Q a1=>jy a1 fun R a1=>jy a1 fun S a1=>jy a1 fun m a1=>jy a1 fun b a1=>jy a1 fun c a1=>jy a1 fun d a1=>jy a1 fun e a1=>jy a1 fun h a1=>jy a1 fun v a1=>jy a1 fun i a1=>jy a1 fun j a1=>jy a1 fun k a1=>jy a1 fun w a1=>jy a1 fun x l=>
  (rE fu (⟨(⟨(⟨K,P⟩:jR),Q,R⟩:jO),L,S,M,N⟩:Gt) w b).bind fun a1=>
  jy a1 fun p U=>
  (r_r04_block U x).bind fun a1=>
  jy a1 fun t u=>
  (pz fu r_r04_block r_r04_stmt m b c d e h i j k l p t u).bind fun a1=>a1.el (fun _=>
  (r_r04_block u l).bind fun a1=>
  jy a1 fun W X=>
  some ((⟨m,b,c,d,e,h,v,i,j,k,p,t,W⟩:Gs),X)
  ) (fun o=>some o)
  ) (fun o=>some o)
  ) (fun o=>some o)
def tK:Nat→(Gt→(List Gs)→Option ((List Gs) × Gt)) × (Gt→Gs→Option (Gs × Gt))
 | 0=>((fun _ _=>none),(fun _ _=>none))
 | fu+1=>(pK fu ((tK fu).1) ((tK fu).2),sM fu ((tK fu).1) ((tK fu).2))
def q9 (fu:Nat):=(tK fu).1
def xS (fu:Nat):=(tK fu).2
theorem IZ (fu:Nat)(r_r04_block:pU) (r_r04_stmt:qL) (H_r04_block:wK r_r04_block) (H_r04_stmt:zQ r_r04_stmt):wK (pK fu r_r04_block r_r04_stmt):=by
 intro w0 d6 x0 x1 ai W X M N a2 ac aH aI aJ ae af aK aL b7 ag aM aN b9 a8 am an R hP bj bl bm bn aP hM
 unfold pK at hM
 have a:=hP.bx
 clear hP
 generalize hG:lT _=G at a ⊢
 refine cf Try.func74 r (lK [(0,Pt ai),(1,Z am x1 an)] ⟨r,r,y⟩ fun d7=>q (g (s (nk r) (n (q (g (s (nk r) (n (q (g (s (mp r) (s (xn r) (s (zY r) (s (OP r (a.bk 0 r) r) (s (lX ug r) (s (xi r) (n (q (q (g (s (nC r) (s (lX Ak r) (s (mi r) (n ?_))))))))))))))))))))))))
 replace a:=a.Ca Gs 111
 have cE:=(a.dl 6 r).bd
 obtain ⟨Y1,a6,hM⟩:=bs hM
 refine oq (fun f w=>∃ (Q:List Gs) (p:OA)(t:Nat)(u:LV)(J:List Gr) (a1:Int)(a3:Int)(a4:Int)(K:List Gn) (a5:List (List Gv)) (Y:OA)(a0:Nat)(H:List Rw) (v:List Gi) (m:OA)(o:Nat)(x:LV)(L:List Int) (b:OA)(c:Nat)(F:LV),Has f [(0,Pt ai),(5,Z p Q t),(6,V (x0.b.length:Int))]∧Bx w0 w d6 G [O w0.heap.size p t 111 Gs u,.box ai 115 #[Z W J X,Z M K N,Z Y a5 a0,Z m v o,V a1,Z b L c,V a3,V a4],O ac M N 82 Gn a2,O ae Y a0 60 (List Gv) (H.map Rw.hdr),.qX af 59 (sz Gv) H none,O ag m o 65 Gi x,O a8 b c 3 Int F] [.l W X J,.els u Q,.els a2 K,.mU H a5,.els x v,.els F L,.l am an x1]∧Ld.go (Q,J,a1,a3,a4,K,a5,v,L)=Y1) (fun J1 bH=>?_) ?_
 ·refine oM (kM (fun d8 f w=>∃ (k1:Nat)(Q:List Gs) (p:OA)(t:Nat)(u:LV)(J:List Gr) (a1:Int)(a3:Int)(a4:Int)(K:List Gn) (a5:List (List Gv)) (Y:OA)(a0:Nat)(H:List Rw) (v:List Gi) (m:OA)(o:Nat)(x:LV)(L:List Int) (b:OA)(c:Nat)(F:LV),d8=x1.length - k1∧k1≤x1.length∧Has f [(18,V (k1:Int)),(0,Pt ai),(5,Z p Q t),(6,V (x0.b.length:Int)),(16,Z am x1 an),(17,V (x1.length:Int))]∧Bx w0 w d6 G [O w0.heap.size p t 111 Gs u,.box ai 115 #[Z W J X,Z M K N,Z Y a5 a0,Z m v o,V a1,Z b L c,V a3,V a4],O ac M N 82 Gn a2,O ae Y a0 60 (List Gv) (H.map Rw.hdr),.qX af 59 (sz Gv) H none,O ag m o 65 Gi x,O a8 b c 3 Int F] [.l W X J,.els u Q,.els a2 K,.mU H a5,.els x v,.els F L,.l am an x1]∧lS fu r_r04_block r_r04_stmt (x1.drop k1) k1 Q J a1 a3 a4 K a5 v L=some Y1) (x1.length) ⟨0,([]:List Gs),none,0,[],x0.a.a.a,x0.f,x0.c,x0.e,x0.a.a.b,x0.a.c,aH,aI,aJ,x0.a.b,aK,aL,b7,x0.b,aM,aN,b9,r,Nat.zero_le _,⟨r,r,r,r,r,r,y⟩,(a.dp [1,0,2,3,4,5,6]),a6⟩ ?_)
  clear a a6
  rintro d8 f w ⟨k1,Q,p,t,u,J,a1,a3,a4,K,a5,Y,a0,H,v,m,o,x,L,b,c,F,rfl,cF,hf,a,a6⟩ K1 cc
  obtain ⟨d7,rfl⟩:=iA _ _ hf
  clear hf
  rcases Nat.lt_or_ge k1 x1.length with bI | bI
  ·obtain ⟨E,bz⟩:=mh (l:=x1) bI
   rw [mP bz,lS] at a6
   obtain ⟨cG,cd,a⟩:=a.nm 6 rfl bz
   obtain ⟨ap,aq,ar,au,av,aw,ax,ay,rfl,bJ,bK,bL,bM⟩:=jD.out cd
   replace a:=a.ku (d:=.l ap aq E.d) bJ
   replace a:=a.ku (d:=.l ar au E.a) bK
   replace a:=a.ku (d:=.l av aw E.e) bL
   replace a:=a.ku (d:=.l ax ay E.h) bM
   refine q (g (s (sS r r (by omega)) (n (q (jN r (wk (q (oM (q (g (s (kW Ak jQ r r r (a.dl 11 r) bz) (s (nN [V E.c,V E.f,V E.n,T E.b,T E.k,V E.m,V E.g,Z ap E.d aq,T E.j,V E.i,Z ar E.a au,Z av E.e aw,Z ax E.h ay] lW r jQ r r (a.dc 4 r)) (tu a (jV jQ) fun w4 b4 a=>lg (nX a 0 [V E.c,V E.f,V E.n,T E.b,T E.k,V E.m,V E.g,Z ap E.d aq,T E.j,V E.i,Z ar E.a au,Z av E.e aw,Z ax E.h ay] r jQ r r) fun w5 a=>n (q (q (g (s (mp r) (s (xn r) (s (yY r) (s (BM r (a.bk 2 r) r) (s (rY r r) (n ?_))))))))))))))))))))))
   rcases iv a6 with ⟨h6,a6⟩|⟨h6,a6⟩
   ·exact jN (bt h6) (tT (bH _ _ ⟨Q,p,t,u,J,a1,a3,a4,K,a5,Y,a0,H,v,m,o,x,L,b,c,F,⟨r,r,r,y⟩,(a.ad [1,2,3,4,5,6,7] [5,6,7,8,9,10,11]),sm a6⟩))
   refine jK (bf h6) (wk (g (s (nC r) (s (mp r) (s (ng [V E.c,V E.f,V E.n,T E.b,T E.k,V E.m,V E.g,Z ap E.d aq,T E.j,V E.i,Z ar E.a au,Z av E.e aw,Z ax E.h ay] lW jQ r (a.bk 0 r)) ?_)))))
   obtain ⟨U,ab,h7,a6⟩:=lZ a6
   have hc:=H_r04_stmt (a.pr [2,3,4,5,6,7] [0,1] [5,7,8,9,10,3,2,1,0] r) (a.le bj) (a.le bl) (a.le bm) (a.le bn) (a.le aP) h7
   refine sc (ec WB r) hc ?_
   rintro _ w7 ⟨az,aA,aB,aC,aD,aE,aF,aG,aX,aY,aZ,b0,b1,b2,b3,b5,b6,rfl,hK⟩
   replace a:=a.cn [2,3,4,5,6,7] [0,1] hK
   refine nU (jP a [[V U.c,V U.f,V U.n,T U.b,T U.k,V U.m,V U.g,Z az U.d aA,T U.j,V U.i,Z aB U.a aC,Z aD U.e aE,Z aF U.h aG]] ([U]:List Gs) (rF r) r r (by decide) ⟨(jD.inn ⟨az,aA,aB,aC,aD,aE,aF,aG,r,(a.dl 0 r),(a.dl 1 r),(a.dl 2 r),(a.dl 3 r)⟩),y⟩) ?_
   rintro _ w8 ⟨b8,rfl,a⟩
   obtain ⟨r9,cg,a6⟩:=bs a6
   refine nU (kP a 8 16 r r Ak jQ r (by decide) (by decide) (Nat.le_refl _) r r (a.zP 0 0 r r) cg) ?_
   rintro _ w9 ⟨A9,C9,Q9,rfl,a⟩
   exact s (nk r) (n (g (s (mR r r (by omega) (by omega)) (s (mi r) (n (cc (x1.length - (k1+1)) _ _ (by omega) ⟨k1+1,r9,A9,C9,Q9,ab.a.a.a,ab.f,ab.c,ab.e,ab.a.a.b,ab.a.c,aX,aY,aZ,ab.a.b,b0,b1,b2,ab.b,b3,b5,b6,r,by omega,⟨r,r,r,r,r,r,y⟩,(a.ad [8,1,2,3,4,5,6] [5,16,6,7,8,9,21]),a6⟩))))))
  obtain rfl:k1=x1.length:=by omega
  rw [lV,lS] at a6
  exact q (g (s (sU r r (by omega)) (n (q (jK r (tT (bH _ _ ⟨Q,p,t,u,J,a1,a3,a4,K,a5,Y,a0,H,v,m,o,x,L,b,c,F,⟨r,r,r,y⟩,a,sm a6⟩)))))))
 clear a
 rintro f w ⟨Q,p,t,u,J,a1,a3,a4,K,a5,Y,a0,H,v,m,o,x,L,b,c,F,hf,a,ch⟩
 obtain ⟨d7,rfl⟩:=iA _ _ hf
 clear hf
 subst ch
 replace hM:=gi hM
 replace hM:=Bh (mG (mG hM))
 refine q (q (g (s (mp r) (s (xn r) (s (zY r) (s (OP r (a.bk 1 r) r) (s (mi r) ?_)))))))
 obtain ⟨a9,bN,hM⟩:=bs hM
 obtain ⟨ao,ci,bO,cx,aO,ba,aQ⟩:=Bf bN
 have bA:a9.length=ci - ao:=by rw [← aQ,List.length_take,List.length_drop];omega
 obtain ⟨bB,aR⟩:∃ A,(if c=ao then b else b.map (·.add (ao * sz Int)))=A:=⟨_,rfl⟩
 obtain ⟨bC,aS⟩:∃ C,(c - ao)=C:=⟨_,rfl⟩
 have bP:Value.slice (if c=ao then b else b.map (·.add (ao * sz Int))) (L.length - ao) (c - ao)=Value.slice bB a9.length bC:=by rw [bA,← aR,← aS];simp;try omega
 refine s (show Yl _ _ _ _ _ _ _ _ _ (.slice bB a9.length bC) from bP ▸ WV ao ug nO r r bO (by omega)) (s (lX ug r) (s (mi r) (n ?_)))
 have cy:=(kN.QT (a.vw 6 5 r r) aO ba aQ aR aS).bd
 obtain ⟨bQ,S,hM⟩:=bs hM
 refine oq (fun f w=>∃ (I:List (List Gv)) (B:OA)(D:Nat)(j:List Rw),Has f [(0,Pt ai),(5,Z p Q t),(6,V (x0.b.length:Int))]∧Bx w0 w d6 G [O w0.heap.size p t 111 Gs u,.box ai 115 #[Z W J X,Z M K N,Z B I D,Z m v o,V a1,Z b L c,V a3,V a4],O ac M N 82 Gn a2,O ae B D 60 (List Gv) (j.map Rw.hdr),.qX af 59 (sz Gv) j none,O ag m o 65 Gi x,O a8 b c 3 Int F] [.l W X J,.els u Q,.els a2 K,.mU j I,.els x v,.els F L]∧Ld.go I=bQ) (fun cN bR=>?_) ?_
 ·refine oM (kM (fun d8 f w=>∃ (aj:Nat)(I:List (List Gv)) (B:OA)(D:Nat)(j:List Rw),d8=a9.length - aj∧aj≤a9.length∧Has f [(41,V (aj:Int)),(0,Pt ai),(5,Z p Q t),(6,V (x0.b.length:Int)),(39,Z bB a9 bC),(40,V (a9.length:Int))]∧Bx w0 w d6 G [O w0.heap.size p t 111 Gs u,.box ai 115 #[Z W J X,Z M K N,Z B I D,Z m v o,V a1,Z b L c,V a3,V a4],O ac M N 82 Gn a2,O ae B D 60 (List Gv) (j.map Rw.hdr),.qX af 59 (sz Gv) j none,O ag m o 65 Gi x,O a8 b c 3 Int F] [.l W X J,.els u Q,.els a2 K,.mU j I,.els x v,.els F L]∧nG fu r_r04_block r_r04_stmt a1 v (a9.drop aj) aj I=some bQ) (a9.length) ⟨0,a5,Y,a0,H,r,Nat.zero_le _,⟨r,r,r,r,r,r,y⟩,(a.dp [0,1,2,3,4,5]),S⟩ ?_)
  clear a S
  rintro d8 f w ⟨aj,I,B,D,j,rfl,cz,hf,a,S⟩ cO bS
  obtain ⟨d7,rfl⟩:=iA _ _ hf
  clear hf
  rcases Nat.lt_or_ge aj a9.length with bq | bq
  ·obtain ⟨cj,bb⟩:=mh (l:=a9) bq
   rw [mP bb,nG] at S
   refine q (g (s (sS r r (by omega)) (n (q (jN r (wk (q (oM (q (g (s (kW ug nO r r r (kN.QT (a.vw 6 5 r r) aO ba aQ aR aS) bb) (s (jT EC r r ((uy (ds:=[V cj]) (kN.QT (a.vw 6 5 r r) aO ba aQ aR aS) bb (fun _ h=>h)) 0 _ r)) (s (xi r) (n ?_))))))))))))))
   obtain ⟨ck,bc,S⟩:=bs S
   obtain ⟨bD,bT,bc⟩:=kJ bc
   replace a:=a.arr [4,0,1,2,3,5,6] r
   try dsimp only [pick,nth,ca,na] at a
   obtain ⟨bU,bV,cP,bg,bW,a⟩:=a.Ub 3 rfl bc
   refine Kr a [1,3,5] [4] [0,1,3,5] [0,4] [21] (by kernel_rfl) ?_
   replace a:=a.drew
   have hs:=(a.ad [1,3,5] [4])
   have hu:=(a.ad [0,1,3,5] [0,4])
   refine pL 0 r (mp r) hs hu (pL 1 r (xn r) hs hu (pL 2 r (pW r) hs hu (pL 3 r (AX r) hs hu (tU 4 r (fun _ hS=>PD r (hS.bk 1 r) r) (nu hs hu) (pL 5 r (mp r) hs hu (pL 6 r (xn r) hs hu (pL 7 r (Ab r) hs hu (tU 8 r (fun _ hS=>l3 r (hS.bk 1 r) r) (nu hs hu) (pL 9 r (LK EJ Es r r bT (a.bo 5 r) bg (a.d2 4 r).len) hs hu (tU 10 r (fun _ hS=>jT Bj r r (hS.hc 2 r bg bW 0 _ r)) (nu hs hu) (pL 11 r (mi r) hs hu (pL 12 r (mp r) hs hu (pL 13 r (xn r) hs hu (pL 14 r (pW r) hs hu (pL 15 r (AV r) hs hu (tU 16 r (fun _ hS=>Qn r (hS.bk 1 r) r) (nu hs hu) (pL 17 r (lX E5 r) hs hu (pL 18 r (vW r r) hs hu ?_))))))))))))))))))
   obtain ⟨aa,aT,S⟩:=bs S
   obtain ⟨bX,bY,aT⟩:=kJ aT
   refine pL 19 r (kW Bj z8 r r bY (a.vw 0 0 r r) aT) hs hu (pL 20 r (Nq r) hs hu ?_)
   obtain ⟨cm,aU,S⟩:=bs S
   obtain ⟨cn,cA,_,aU⟩:=uY aU
   obtain rfl:bX=cn:=by omega
   obtain ⟨co,bZ,bh⟩:=(a.de 0 rfl).get aT
   replace bh:co=[T aa.b,V aa.c,V aa.d,V aa.a,.bool aa.f,V aa.e,V aa.g]:=bh
   subst bh
   refine hO 21 (os r r (JG a 0 0 bX 6 [V (wr ((v.length:Int) - 1))] r r bZ nO r r r r r (show _=[T aa.b,V aa.c,V aa.d,V aa.a,.bool aa.f,V aa.e,V (wr ((v.length:Int) - 1))] from r) r aU) ?_)
   rintro cQ ⟨c0,a⟩
   try dsimp only [List.set] at a
   have br:ck.length=cm.length:=by rw [← aU,List.length_set]
   try dsimp only [Z] at a
   try rw [br] at a
   try dsimp only [Z]
   try rw [br]
   have hs:=(a.ad [1,3,5] [4])
   refine ⟨(sy 21 hs),(hD (g (s (mR r r (by omega) (by omega)) (s (mi r) (n ?_)))))⟩
   obtain ⟨c1,aV,S⟩:=bs S
   obtain ⟨cp,cB,_,aV⟩:=uY aV
   obtain rfl:bD=cp:=by omega
   have cC:=(a.de 0 r).len
   replace a:=a.hd 5 (H':=((j.set bD ⟨bU,bV,c0⟩).map Rw.hdr)) r (Vm bg (by omega))
   try dsimp only [List.set] at a
   replace a:=a.arr [0,1,2,3,4,5,6,7] r
   try dsimp only [pick,nth,ca,na] at a
   replace a:=a.Yq 4 0 r r
   try dsimp only [List.set] at a
   rw [aV] at a
   obtain ⟨cq,c2⟩:∃ R,(j.set bD ⟨bU,bV,c0⟩)=R:=⟨_,rfl⟩
   rw [c2] at a
   have bu:I.length=c1.length:=by rw [← aV,List.length_set]
   try dsimp only [Z] at a
   try rw [bu] at a
   try dsimp only [Z]
   try rw [bu]
   exact bS (a9.length - (aj+1)) _ _ (by omega) ⟨aj+1,c1,B,D,cq,r,by omega,⟨r,r,r,r,r,r,y⟩,(a.ad [1,2,3,4,0,5,6] [1,2,3,4,5,6]),S⟩
  obtain rfl:aj=a9.length:=by omega
  rw [lV,nG] at S
  exact q (g (s (sU r r (by omega)) (n (q (jK r (tT (bR _ _ ⟨I,B,D,j,⟨r,r,r,y⟩,a,sm S⟩)))))))
 clear a
 rintro f w ⟨I,B,D,j,hf,a,c3⟩
 obtain ⟨d7,rfl⟩:=iA _ _ hf
 clear hf
 subst c3
 replace hM:=gi hM
 refine q (g (s (mp r) (nU (jP a [] ([]:List Int) (FR) r r (by decide) y) ?_)))
 rintro _ cR ⟨cS,rfl,a⟩
 refine s (mp r) (s (xn r) (s (zY r) (s (OP r (a.bk 2 r) r) (s (mi r) ?_))))
 obtain ⟨c4,c5,hM⟩:=bs hM
 obtain ⟨cr,c6,cD,c7,ct,bv,bw⟩:=Bf c5
 obtain rfl:cr=0:=by omega
 have bE:c4.length=c6:=by rw [← bw,List.length_take,List.length_drop];omega
 refine s (show Yl _ _ _ _ _ _ _ _ _ (.slice b c4.length c) from (congrArg (fun z=>Value.slice b z c) bE).symm ▸ yQ c6 ug nO r r c7 (Nat.le_trans bv ((a.vw 7 6 r r)).cap)) ?_
 obtain ⟨c8,c9,hM⟩:=bs hM
 refine nU (kP a 0 0 r r ug nO r (by decide) (by decide) (Nat.le_refl _) r r (a.zO 7 6 r r bv bw) c9) ?_
 rintro _ cT ⟨bF,bG,cu,rfl,a⟩
 refine s (xn r) (s (zY r) (lg (t_n a 2 [Z bF c8 bG] r AZ r r) fun cU a=>n (q (g (s (nC r) (s (nk r) (n (kT ?_))))))))
 replace a:=a.rb 0 a8 r aP
 obtain rfl:=sm hM
 exact jI r (lq r) (mM (⟨p,t,u,B,D,j,m,o,x,bF,bG,cu,r,(a.ad [1,2,3,4,5,6,0] [2,1,3,4,5,0])⟩))
theorem Ll (fu:Nat)(r_r04_block:pU) (r_r04_stmt:qL) (H_r04_block:wK r_r04_block) (H_r04_stmt:zQ r_r04_stmt):zQ (sM fu r_r04_block r_r04_stmt):=by
 intro w0 eW U b aU ac ae a9 aa am aP an ao af aQ aR bF bG c9 aS ap aq au aF Q S D E B C u v R hP a3 a4 a5 X Y x
 unfold sM at x
 have a:=hP.bx
 clear hP
 generalize hG:lT _=G at a ⊢
 refine cf Try.func99 r (lK [(0,Pt aU),(1,.agg #[V b.c,V b.f,V b.n,T b.b,T b.k,V b.m,V b.g,Z Q b.d S,T b.j,V b.i,Z D b.a E,Z B b.e C,Z u b.h v])] ⟨r,r,y⟩ fun eX=>q (g (tu a (y5 r) fun w1 b1 a=>tu a (jV jQ) fun w2 b2 a=>n (q (g (s (mp r) (s (xn r) (s (pW r) (s (AV r) (s (Qn r (a.bk 2 r) r) (s (lX E5 r) (s (MR r) (lg (t_n a 1 [V (U.a.b.length:Int)] r nO r r) fun w3 a=>n (q (q (g (s (MR r) (s (l3 r (a.bk 1 r) r) (s (Bq r r) (n ?_))))))))))))))))))))
 rcases iv x with ⟨h4,x⟩|⟨h4,x⟩
 ·refine jN (bt h4) (q (g (s (mp r) (s (Aa r) (s (l3 r (a.bk 1 r) r) ?_)))))
  obtain ⟨dY,h5,x⟩:=bs x
  have hc:=(mZ fu) (a.pr [2,3,4,5,6,7] [0,1] [0,1,2,3,4] r) (a.le a3) (a.le a4) (a.le a5) (a.le X) (a.le Y) h5
  refine sc (ec yZ r) hc ?_
  rintro _ w5 ⟨rfl,hK⟩
  replace a:=a.cn [2,3,4,5,6,7] [0,1] hK
  refine n (q (g (s (ng [V b.c,V b.f,V (U.a.b.length:Int),T b.b,T b.k,V b.m,V b.g,Z Q b.d S,T b.j,V b.i,Z D b.a E,Z B b.e C,Z u b.h v] lW jQ r (a.bk 7 r)) (lg (nX a 6 [V b.c,V b.f,V (U.a.b.length:Int),T b.b,T b.k,V b.m,V b.g,Z Q b.d S,T b.j,V b.i,Z D b.a E,Z B b.e C,Z u b.h v] r jQ r r) fun w6 a=>n (kT ?_)))))
  obtain rfl:=sm x
  exact jI r (tV r lW r jQ r (a.bk 6 r)) (mM (⟨Q,S,D,E,B,C,u,v,an,ao,af,bF,bG,c9,ap,aq,au,r,(a.ad [0,1,2,3,4,5] [10,11,12,13,0,1,2,3,4])⟩))
 refine jK (bf h4) (wk (q (Kr a [1] [] [1,2] [] [20] (by kernel_rfl) ?_)))
 replace a:=a.drew
 have A:=(a.ad [1] [])
 have hu:=(a.ad [1,2] [])
 refine pL 0 r (mp r) A hu (pL 1 r (mp r) A hu (pL 2 r (xn r) A hu (pL 3 r (pW r) A hu (pL 4 r (AV r) A hu (tS 1 5 r (fun _ hS=>Qn r (hS.bk 1 r) r) (nu A hu) (pL 6 r (mp r) A hu (pL 7 r (xn r) A hu (pL 8 r (Ab r) A hu (tS 1 9 r (fun _ hS=>l3 r (hS.bk 1 r) r) (nu A hu) (pL 10 r (xP r) A hu (tU 11 r (fun _ hS=>l3 r (hS.bk 0 r) r) (nu A hu) (pL 12 r (Aa r) A hu (tU 13 r (fun _ hS=>l3 r (hS.bk 0 r) r) (nu A hu) (pL 14 r (MJ r r r) A hu (hO 15 (oo r r (jP a [[V U.f,V b.c,V b.f]] ([(⟨U.f,b.c,b.f⟩:Gi)]:List Gi) (QE r) r r (by decide) ⟨r,y⟩) ?_))))))))))))))))
 rintro _ w7 ⟨b7,rfl,a⟩
 have A:=(a.ad [2] [])
 have hu:=(a.ad [2,3] [])
 refine ⟨(nu A hu),?_⟩
 obtain ⟨r8,dt,x⟩:=bs x
 refine hO 16 (oo r r (kP a 7 4 r r E5 Sv r (by decide) (by decide) X r r (a.zP 0 0 r r) dt) ?_)
 rintro _ w8 ⟨A8,C8,Q8,rfl,a⟩
 have A:=(a.ad [2] [])
 have hu:=(a.ad [2,3] [])
 refine ⟨(nu A hu),(pL 17 r (xn r) A hu (pL 18 r (pW r) A hu (pL 19 r (AV r) A hu (hO 20 (os r r (t_n a 3 [Z A8 r8 C8] r Yo r r) fun e5 a=>?_)))))⟩
 have A:=(a.ad [2] [])
 refine ⟨(sy 20 A),(hD (q (q (g (s (xP r) (s (l3 r (a.bk 2 r) r) (n ?_)))))))⟩
 obtain ⟨du,t,x⟩:=bs x
 refine oq (fun f w=>∃ (bj:List Gr) (bH:Int)(bI:Int)(bJ:Int)(bl:List Gn) (bm:List (List Gv)) (bn:List Gi) (bp:List Int),Has f [(0,Pt aU),(3,Pt b1),(4,Pt b2)]∧Bx w0 w eW G [.box b2 111 #[V 0,V 0,V 0,T be,T be,V 0,V 0,sn,T be,V 0,sn,sn,sn],.box b1 111 #[V b.c,V b.f,V (U.a.b.length:Int),T b.b,T b.k,V b.m,V b.g,Z Q b.d S,T b.j,V b.i,Z D b.a E,Z B b.e C,Z u b.h v],.box aU 115 #[Z ac bj ae,Z a9 bl aa,Z an bm ao,Z A8 bn C8,V bH,Z ap bp aq,V bI,V bJ],O aP a9 aa 82 Gn am,O aQ an ao 60 (List Gv) (af.map Rw.hdr),.qX aR 59 (sz Gv) af none,O aS A8 C8 65 Gi Q8,O aF ap aq 3 Int au] [.l ac ae bj,.els am bl,.mU af bm,.els Q8 bn,.els au bp,.l Q S b.d,.l D E b.a,.l B C b.e,.l u v b.h]∧Ld.go (bj,bH,bI,bJ,bl,bm,bn,bp)=du) (fun e6 c3=>?_) ?_
 ·unfold nZ at t
  refine oM (q (g (s (kD r r) (s (kC r) (n ?_)))))
  rcases iv t with ⟨cz,t⟩|⟨cz,t⟩
  ·refine jN (bt cz) (q (g (s (zF r) (s (l9 r (a.bk 2 r) r) (s (MR r) (s (l3 r (a.bk 2 r) r) (s (kE r r) (s (Bg r r r r r) (tu a (jV z8) fun e7 d0 a=>lg (nX a 0 [T b.b,V 1,V (-1),V 1,.bool false,V (wr ((U.a.b.length:Int)+1)),V 0] r z8 r r) fun e8 a=>n (q ?_))))))))))
   obtain ⟨dv,a0,t⟩:=bs t
   refine oq (fun f w=>∃ (bq:Int)(br:Int)(bu:Int),Has f [(0,Pt aU),(3,Pt b1),(4,Pt b2),(5,Pt d0)]∧Bx w0 w eW G [.box d0 59 #[T b.b,V bq,V br,V bu,.bool false,V (wr ((U.a.b.length:Int)+1)),V 0],.box b2 111 #[V 0,V 0,V 0,T be,T be,V 0,V 0,sn,T be,V 0,sn,sn,sn],.box b1 111 #[V b.c,V b.f,V (U.a.b.length:Int),T b.b,T b.k,V b.m,V b.g,Z Q b.d S,T b.j,V b.i,Z D b.a E,Z B b.e C,Z u b.h v],.box aU 115 #[Z ac U.a.a.a ae,Z a9 U.a.a.b aa,Z an U.a.c ao,Z A8 r8 C8,V U.f,Z ap U.b aq,V U.c,V U.e],O aP a9 aa 82 Gn am,O aQ an ao 60 (List Gv) (af.map Rw.hdr),.qX aR 59 (sz Gv) af none,O aS A8 C8 65 Gi Q8,O aF ap aq 3 Int au] [.l ac ae U.a.a.a,.els am U.a.a.b,.mU af U.a.c,.els Q8 r8,.els au U.b,.l Q S b.d,.l D E b.a,.l B C b.e,.l u v b.h]∧Ld.go (bq,br,bu)=dv) (fun e9 cc=>?_) ?_
   ·unfold qx at a0
    refine q (g (s (BD r) (s (l3 r (a.bk 3 r) r) (s (uX r r) (n ?_)))))
    rcases iv a0 with ⟨cA,a0⟩|⟨cA,a0⟩
    ·refine jN (bt cA) (pX a [3] [] [] (by kernel_rfl) ?_)
     replace a:=a.drew
     have A:=(a.ad [3] [])
     refine pF 0 r (BD r) A (uF 1 r (fun hS=>l3 r (hS.bk 0 r) r) A (pF 2 r (Qw r) A (hO 3 (os r r (t_n a 0 [V 3] r nO r r) fun ea a=>?_))))
     have A:=(a.ad [3] [])
     refine ⟨(sF A),(pF 4 r (SS r) A (hO 5 (os r r (t_n a 0 [V b.m] r nO r r) fun eb a=>?_)))⟩
     have A:=(a.ad [3] [])
     exact ⟨(sF A),(hD (cc _ _ ⟨3,(-1),b.m,⟨r,r,r,r,y⟩,(a.ad [0,2,3,4,5,6,7,8,9] [1,2,3,4,5,6,7,8,9]),sm a0⟩))⟩
    refine jK (bf cA) (q (g (s (F9 r) (s (l9 r (a.bk 3 r) r) (s (Jh r r) (n ?_))))))
    rcases iv a0 with ⟨cB,a0⟩|⟨cB,a0⟩
    ·refine jN (bt cB) (q (g (s (mp r) (s (F9 r) (s (l9 r (a.bk 3 r) r) ?_)))))
     obtain ⟨bv,dw,dx,a0⟩:=lZ a0
     have hc:=(GK fu) (a.pr [4,5,6,7,8,9] [0,1,2,3] [1,2,3,4,5] r) (a.le a3) (a.le a4) (a.le a5) (a.le X) (a.le Y) dx
     refine sc (ec UA r) hc ?_
     rintro _ ed ⟨rfl,hK⟩
     replace a:=a.cn [4,5,6,7,8,9] [0,1,2,3] hK
     refine s sZ (s (jZ r r) (s (jZ r r) (s (xi r) (s (kC r) (n (q (q (g (s (kL r) (s (Al r) (n ?_)))))))))))
     rcases iv a0 with ⟨cd,a0⟩|⟨cd,a0⟩
     ·refine jN (cb cd) (q (g (s (mp r) (s (Aa r) (s (l3 r (a.bk 9 r) r) ?_)))))
      obtain ⟨dy,dz,a0⟩:=bs a0
      have hc:=(mZ fu) (a.pr [0,1,2,3,4,5] [6,7,8,9] [6,1,2,3,4] r) (a.le a3) (a.le a4) (a.le a5) (a.le X) (a.le Y) dz
      refine sc (ec yZ r) hc ?_
      rintro _ ee ⟨rfl,hK⟩
      replace a:=a.cn [0,1,2,3,4,5] [6,7,8,9] hK
      refine n (q (g (s (ng [V b.c,V b.f,V (U.a.b.length:Int),T b.b,T b.k,V b.m,V b.g,Z Q b.d S,T b.j,V b.i,Z D b.a E,Z B b.e C,Z u b.h v] lW jQ r (a.bk 9 r)) (lg (nX a 8 [V b.c,V b.f,V (U.a.b.length:Int),T b.b,T b.k,V b.m,V b.g,Z Q b.d S,T b.j,V b.i,Z D b.a E,Z B b.e C,Z u b.h v] r jQ r r) fun ef a=>n (kT ?_)))))
      obtain rfl:=sm a0
      replace t:=oi t
      obtain rfl:=sm t
      replace x:=oi x
      obtain rfl:=sm x
      exact jI r (tV r lW r jQ r (a.bk 8 r)) (mM (⟨Q,S,D,E,B,C,u,v,an,ao,af,A8,C8,Q8,ap,aq,au,r,(a.ad [0,1,2,3,4,5] [16,17,18,19,0,1,2,3,4])⟩))
     replace cd:=nt cd
     refine jK (cb cd) (wk ?_)
     obtain ⟨cp,c4,a0⟩:=bs a0
     obtain ⟨eg,d1,c4⟩:=kJ c4
     obtain ⟨dZ,d3,a⟩:=a.nm 6 rfl c4
     obtain ⟨cC,cD,rfl,cE⟩:=kV.out d3
     replace a:=a.ku (d:=.l cC cD cp.a) cE
     refine pX a [0] [0,1,8] [] (by kernel_rfl) ?_
     replace a:=a.drew
     have A:=(a.ad [0] [0,1,8])
     refine pF 0 r (mi r) A (pF 1 r (mp r) A (pF 2 r (xn r) A (pF 3 r (pW r) A (pF 4 r (FN r) A (pF 5 r (CX r) A (uF 6 r (fun hS=>Tj r (hS.bk 0 r) r) A (pF 7 r (mi r) A (pF 8 r (kW G8 wT r r d1 (a.dl 8 r) c4) A (pF 9 r (Bp r) A (uF 10 r (fun hS=>jT kQ r r ((hS.dc 1 r) 1 _ r)) A (pF 11 r (lX kQ r) A (pF 12 r (Qw r) A (hO 13 (os r r (t_n a 6 [V 2] r nO r r) fun eh a=>?_))))))))))))))
     have A:=(a.ad [0] [0,1,8])
     refine ⟨(sF A),(pF 14 r (SK r) A (hO 15 (os r r (t_n a 6 [V bv] r nO r r) fun ei a=>?_)))⟩
     have A:=(a.ad [0] [0,1,8])
     refine ⟨(sF A),(pF 16 r (SS r) A (hO 17 (os r r (t_n a 6 [V (cp.a.length:Int)] r nO r r) fun ej a=>?_)))⟩
     have A:=(a.ad [0] [0,1,8])
     exact ⟨(sF A),(hD (cc _ _ ⟨2,bv,(cp.a.length:Int),⟨r,r,r,r,y⟩,(a.ad [6,8,9,0,1,2,3,4,5] [8,3,4,5,6,13,14,15,16]),sm a0⟩))⟩
    exact jK (bf cB) (wk (cc _ _ ⟨1,(-1),1,⟨r,r,r,r,y⟩,(a.ad [0,2,3,4,5,6,7,8,9] [1,2,3,4,5,6,7,8,9]),sm a0⟩))
   clear a
   rintro f w ⟨bq,br,bu,hf,a,d4⟩
   obtain ⟨eX,rfl⟩:=iA _ _ hf
   clear hf
   subst d4
   replace t:=gi t
   replace t:=Bh t
   refine q (g (s (mp r) (s (Aa r) (s (l3 r (a.bk 2 r) r) (s (ng [T b.b,V bq,V br,V bu,.bool false,V (wr ((U.a.b.length:Int)+1)),V 0] RB z8 r (a.bk 0 r)) ?_)))))
   obtain ⟨aX,dA,dB,t⟩:=lZ t
   have hc:=(zI fu) (a.pr [3,4,5,6,7,8] [0,1,2] [0,1,2,3,4] r) (a.le a3) (a.le a4) (a.le a5) (a.le X) (a.le Y) dB
   refine sc (ec Qc r) hc ?_
   rintro _ ek ⟨bK,bL,bM,bN,bO,bP,rfl,hK⟩
   replace a:=a.cn [3,4,5,6,7,8] [0,1,2] hK
   refine s (Mx r) (lg (t_n a 8 [V aX] r nO r r) fun em a=>n (q (g (s (ng [V b.c,V b.f,V (U.a.b.length:Int),T b.b,T b.k,V b.m,V aX,Z Q b.d S,T b.j,V b.i,Z D b.a E,Z B b.e C,Z u b.h v] lW jQ r (a.bk 8 r)) (lg (nX a 7 [V b.c,V b.f,V (U.a.b.length:Int),T b.b,T b.k,V b.m,V aX,Z Q b.d S,T b.j,V b.i,Z D b.a E,Z B b.e C,Z u b.h v] r jQ r r) fun en a=>n (kT ?_))))))
   obtain rfl:=sm t
   replace x:=oi x
   obtain rfl:=sm x
   exact jI r (tV r lW r jQ r (a.bk 7 r)) (mM (⟨Q,S,D,E,B,C,u,v,bK,bL,bM,A8,C8,Q8,bN,bO,bP,r,(a.ad [0,1,2,3,4,5] [10,11,12,13,0,1,2,3,4])⟩))
  refine jK (bf cz) (q (g (s (kD r r) (s (kC r) (n ?_)))))
  rcases iv t with ⟨cF,t⟩|⟨cF,t⟩
  ·refine jN (bt cF) (q (g (s (xK r) (s (AY r (a.bk 2 r) r) (s (lX tY r) (s (uX r r) (s (kL r) ?_)))))))
   rcases iv t with ⟨cG,t⟩|⟨cG,t⟩
   ·rw [decide_eq_true cG]
    refine kg r (s (xK r) (kg r (s (AY r (a.bk 2 r) r) ?_)))
    obtain ⟨dC,c5,t⟩:=bs t
    obtain ⟨eo,d5,c5⟩:=kJ c5
    obtain ⟨e0,d6,a⟩:=a.nm 6 rfl c5
    obtain ⟨cH,cI,rfl,cJ⟩:=jB.out d6
    replace a:=a.ku (d:=.l cH cI dC.a) cJ
    refine kg r (s (kW tY jU r r d5 (a.dl 8 r) c5) (kg r (s (Ac r) (kg r (s (jT EC r r ((a.dc 1 r) 0 _ r)) (kg r (s (rY r r) (s (kr r r) (n ?_)))))))))
    rcases iv t with ⟨cK,t⟩|⟨cK,t⟩
    ·refine jN (bt cK) (g (s (mp r) (s (Aa r) (s (l3 r (a.bk 2 r) r) ?_))))
     obtain ⟨ax,dD,t⟩:=bs t
     have hc:=(mZ fu) (a.pr [3,4,5,6,7,8] [0,1,2] [3,4,5,6,7] r) (a.le a3) (a.le a4) (a.le a5) (a.le X) (a.le Y) dD
     refine sc (ec yZ r) hc ?_
     rintro _ ep ⟨rfl,hK⟩
     replace a:=a.cn [3,4,5,6,7,8] [0,1,2] hK
     exact n (c3 _ _ ⟨ax.a.a.a,ax.f,ax.c,ax.e,ax.a.a.b,ax.a.c,ax.a.b,ax.b,⟨r,r,r,y⟩,(a.ad [7,8,0,1,2,3,4,5] [0,1,2,3,4,13,14,15,16]),sm t⟩)
    exact jK (bf cK) (wk (c3 _ _ ⟨U.a.a.a,U.f,U.c,U.e,U.a.a.b,U.a.c,r8,U.b,⟨r,r,r,y⟩,(a.ad [1,2,3,4,5,6,7,8] [3,4,5,6,7,8,9,10,11]),sm t⟩))
   rw [decide_eq_false cG]
   exact jC r (jC r (jC r (jC r (jC r (jC r (s (jY r r) (n (jK r (wk (c3 _ _ ⟨U.a.a.a,U.f,U.c,U.e,U.a.a.b,U.a.c,r8,U.b,⟨r,r,r,y⟩,(a.ad [1,2,3,4,5,6,7,8] [1,2,3,4,5,6,7,8,9]),sm t⟩))))))))))
  exact jK (bf cF) (wk (c3 _ _ ⟨U.a.a.a,U.f,U.c,U.e,U.a.a.b,U.a.c,r8,U.b,⟨r,r,r,y⟩,(a.ad [1,2,3,4,5,6,7,8] [1,2,3,4,5,6,7,8,9]),sm t⟩))
 clear a
 rintro f w ⟨bj,bH,bI,bJ,bl,bm,bn,bp,hf,a,d7⟩
 obtain ⟨eX,rfl⟩:=iA _ _ hf
 clear hf
 subst d7
 replace x:=gi x
 replace x:=pi (mG (mG x))
 refine q (g (s (mp r) (s (xK r) (s (AY r (a.bk 1 r) r) (s (Aa r) (s (l3 r (a.bk 1 r) r) ?_))))))
 obtain ⟨bQ,ay,dE,x⟩:=lZ x
 have hc:=(Dq fu) (a.pr [2,3,4,5,6,7] [0,1] [0,1,2,3,4,5] r) (a.le a3) (a.le a4) (a.le a5) (a.le X) (a.le Y) dE
 refine sc (ec MW r) hc ?_
 rintro _ eq ⟨aA,aB,cX,rfl,hK⟩
 have bw:=a.rD.size
 replace a:=a.cn [2,3,4,5,6,7] [0,1] hK
 replace a:=a.rb 0 w0.heap.size r bw
 refine s (xK r) (lg (t_n a 8 [Z aA bQ aB] r uw r r) fun er a=>n (q ?_))
 obtain ⟨dF,aE,x⟩:=bs x
 refine oq (fun f w=>∃ (bz:List Gr) (bR:Int)(bS:Int)(bT:Int)(bA:List Gn) (bB:List (List Gv)) (bC:List Gi) (bD:List Int) (a1:Int)(H:Int)(I:Int)(J:BA) (K:BA) (L:Int)(ai:Int)(z:List Ge) (j:OA)(m:Nat)(M:BA) (N:Int)(aV:List Ge) (aL:List Gs) (aj:List Gs),Has f [(0,Pt aU),(3,Pt b1),(4,Pt b2)]∧Bx w0 w eW G [.box aU 115 #[Z ac bz ae,Z a9 bA aa,Z an bB ao,Z A8 bC C8,V bR,Z ap bD aq,V bS,V bT],O aP a9 aa 82 Gn am,O aQ an ao 60 (List Gv) (af.map Rw.hdr),.qX aR 59 (sz Gv) af none,O aS A8 C8 65 Gi Q8,O aF ap aq 3 Int au,.box b2 111 #[V 0,V 0,V 0,T be,T be,V 0,V 0,sn,T be,V 0,sn,sn,sn],.box b1 111 #[V a1,V H,V I,T J,T K,V L,V ai,Z j z m,T M,V N,Z D aV E,Z B aL C,Z u aj v]] [.l ac ae bz,.l j m z,.l D E aV,.l B C aL,.l u v aj,.els am bA,.mU af bB,.els Q8 bC,.els au bD]∧Ld.go (bz,bR,bS,bT,bA,bB,bC,bD,a1,H,I,J,K,L,ai,z,M,N,aV,aL,aj)=dF) (fun et ct=>?_) ?_
 ·unfold qz at aE
  refine q (g (s (Cv r) (s (l9 r (a.bk 8 r) r) (s (Jh r r) (n ?_)))))
  rcases iv aE with ⟨cL,aE⟩|⟨cL,aE⟩
  ·refine jN (bt cL) (g (s (mp r) ?_))
   replace a:=a.fz 0 0 r r
   obtain ⟨az,ag,dG,aE⟩:=lZ aE
   have hc:=(Hw fu) (a.pr [0,1,2,3,4,5,7] [6] [1,2,3,4,5,0,12,13,14] r) (a.le a3) (a.le a4) (a.le a5) (a.le X) (a.le Y) dG
   refine sc (ec Vb r) hc ?_
   rintro _ eu ⟨rfl,hK⟩
   replace a:=a.cn [0,1,2,3,4,5,7] [6] hK
   exact n (ct _ _ ⟨az.a.a.a,az.f,az.c,az.e,az.a.a.b,az.a.c,az.a.b,az.b,ag.c,ag.f,ag.n,ag.b,ag.k,ag.m,ag.g,ag.d,aA,aB,ag.j,ag.i,ag.a,ag.e,ag.h,⟨r,r,r,y⟩,(a.ad [0,1,2,3,4,5,7,6] [0,5,6,7,8,1,2,3,4]),sm aE⟩)
  refine jK (bf cL) (wk ?_)
  replace a:=a.fz 0 0 r r
  exact ct _ _ ⟨ay.a.a.a,ay.f,ay.c,ay.e,ay.a.a.b,ay.a.c,ay.a.b,ay.b,b.c,b.f,(U.a.b.length:Int),b.b,b.k,b.m,b.g,bQ,aA,aB,b.j,b.i,b.a,b.e,b.h,⟨r,r,r,y⟩,(a.dp [1,0,12,13,14,2,3,4,5]),sm aE⟩
 clear a
 rintro f w ⟨bz,bR,bS,bT,bA,bB,bC,bD,a1,H,I,J,K,L,ai,z,j,m,M,N,aV,aL,aj,hf,a,d8⟩
 obtain ⟨eX,rfl⟩:=iA _ _ hf
 clear hf
 subst d8
 replace x:=gi x
 replace x:=Bh (mG (mG (mG (mG (mG (mG x))))))
 refine q (g (s (mp r) (s (uT r) (s (AY r (a.bk 7 r) r) (s (Aa r) (s (l3 r (a.bk 7 r) r) ?_))))))
 obtain ⟨a2,dH,dI,x⟩:=lZ x
 have hc:=(Dq fu) (a.pr [0,1,2,3,4,5] [6,7] [0,5,6,7,8,2] r) (a.le a3) (a.le a4) (a.le a5) (a.le X) (a.le Y) dI
 refine sc (ec MW r) hc ?_
 rintro _ ev ⟨c,h,aC,rfl,hK⟩
 have bw:=a.rD.size
 replace a:=a.cn [0,1,2,3,4,5] [6,7] hK
 replace a:=a.rb 0 w0.heap.size r bw
 refine s (uT r) (lg (t_n a 8 [Z c a2 h] r uw r r) fun ew a=>n (q (g (s (mp r) (s (wN r) (s (Ol r (a.bk 8 r) r) ?_))))))
 obtain ⟨a6,ah,dJ,x⟩:=lZ x
 have hc:=H_r04_block (a.pr [1,2,3,4,5,6] [0,7,8] [1,2,3,4,5,9] r) (a.le a3) (a.le a4) (a.le a5) (a.le X) (a.le Y) dJ
 refine sc (ec NM r) hc ?_
 rintro _ ex ⟨o,p,aD,aY,aZ,aG,b0,b3,b4,b5,b6,b8,rfl,hK⟩
 have bw:=a.rD.size
 replace a:=a.cn [1,2,3,4,5,6] [0,7,8] hK
 replace a:=a.rb 0 w0.heap.size r bw
 refine s (wN r) (lg (t_n a 9 [Z o a6 p] r zX r r) fun ey a=>n (q ?_))
 obtain ⟨dK,W,x⟩:=bs x
 refine oq (fun f w=>Has f [(0,Pt aU),(3,Pt b1),(4,Pt b2)]∧Bx w0 w eW G [O w0.heap.size o p 111 Gs aD,.box aU 115 #[Z ac ah.a.a.a ae,Z a9 ah.a.a.b aa,Z aY ah.a.c aZ,Z b0 ah.a.b b3,V ah.f,Z b5 ah.b b6,V ah.c,V ah.e],O aP a9 aa 82 Gn am,O aQ aY aZ 60 (List Gv) (aG.map Rw.hdr),.qX aR 59 (sz Gv) aG none,O aS b0 b3 65 Gi b4,O aF b5 b6 3 Int b8,O w0.heap.size c h 138 Ge aC,.box b2 111 #[V 0,V 0,V 0,T be,T be,V 0,V 0,sn,T be,V 0,sn,sn,sn],.box b1 111 #[V a1,V H,V I,T J,T K,V L,V ai,Z j z m,T M,V N,Z c a2 h,Z o a6 p,Z u aj v]] [.els aD a6,.l ac ae ah.a.a.a,.els am ah.a.a.b,.mU aG ah.a.c,.els b4 ah.a.b,.els b8 ah.b,.els aC a2,.l j m z,.l u v aj]∧Ld.go ()=dK) (fun ez cu=>?_) ?_
 ·unfold pz at W
  refine q (g (s (xP r) (s (l3 r (a.bk 9 r) r) (s (kD r r) (s (kL r) ?_)))))
  rcases iv W with ⟨cM,W⟩|⟨cM,W⟩
  ·rw [decide_eq_true cM]
   refine kg r (s (mp r) (kg r (s (xn r) (kg r (s (yY r) (kg r (s (BM r (a.bk 1 r) r) (kg r (s (kD r r) (s (kr r r) (n ?_)))))))))))
   rcases iv W with ⟨cN,W⟩|⟨cN,W⟩
   ·refine jN (bt cN) (q (g (nU (jP a [] ([]:List Int) (FR) r r (by decide) y) ?_)))
    rintro _ eA ⟨eB,rfl,a⟩
    refine s (mp r) (s (xn r) (s (zY r) (s (OP r (a.bk 2 r) r) ?_)))
    obtain ⟨cq,d9,W⟩:=bs W
    refine nU (kP a 0 0 r r ug nO r (by decide) (by decide) (Nat.le_refl _) r r (a.zP 7 6 r r) d9) ?_
    rintro _ eC ⟨ce,cg,cO,rfl,a⟩
    refine s (nk r) (n (q (Kr a [] [] [2,10] [] [12,14] (by kernel_rfl) ?_)))
    replace a:=a.drew
    have A:=(a.ad [] [])
    have hu:=(a.ad [2,10] [])
    refine pL 0 r (mp r) A hu (pL 1 r (Aa r) A hu (tS 1 2 r (fun _ hS=>l3 r (hS.bk 1 r) r) (nu A hu) (pL 3 r (zF r) A hu (tS 2 4 r (fun _ hS=>l9 r (hS.bk 1 r) r) (nu A hu) (pL 5 r (mp r) A hu (pL 6 r (xn r) A hu (pL 7 r (pW r) A hu (pL 8 r (AV r) A hu (tS 3 9 r (fun _ hS=>Qn r (hS.bk 0 r) r) (nu A hu) (pL 10 r (lX E5 r) A hu (pL 11 r (Bg r r r r r) A hu ?_)))))))))))
    obtain ⟨aH,dL,dM,W⟩:=lZ W
    have hc:=(zI fu) (a.pr [2,3,4,5,6,7] [0,1,8,9,10] [2,3,4,5,6] r) (a.le a3) (a.le a4) (a.le a5) (a.le X) (a.le Y) dM
    refine hO 12 (oc r r (ec Qc r) hc ?_)
    rintro _ eD ⟨cP,cQ,cR,cS,cT,cU,rfl,hK⟩
    replace a:=a.cn [2,3,4,5,6,7] [0,1,8,9,10] hK
    have A:=(a.ad [] [])
    refine ⟨(sy 12 A),(tP 13 r (fun _=>Mx r) (sy 12 A) (hO 14 (os r r (t_n a 10 [V aH] r nO r r) fun eE a=>?_)))⟩
    have A:=(a.ad [] [])
    refine ⟨(sy 12 A),(hD (q (g (s (mp r) (s (wG r) (s (Ol r (a.bk 10 r) r) ?_))))))⟩
    obtain ⟨aI,F,dN,W⟩:=lZ W
    have hc:=H_r04_block (a.pr [0,1,2,3,4,5] [6,7,8,9,10] [0,1,2,3,4,22] r) (a.le a3) (a.le a4) (a.le a5) (a.le X) (a.le Y) dN
    refine sc (ec NM r) hc ?_
    rintro _ eF ⟨a7,a8,bi,b9,ba,aJ,av,aw,aK,bb,bc,bd,rfl,hK⟩
    have bw:=a.rD.size
    replace a:=a.cn [0,1,2,3,4,5] [6,7,8,9,10] hK
    replace a:=a.rb 0 w0.heap.size r bw
    refine s (wG r) (lg (t_n a 11 [Z a7 aI a8] r zX r r) fun eG a=>n (q ?_))
    obtain ⟨dO,ar,W⟩:=bs W
    refine oq (fun f w=>∃ (bg:List (List Gv)) (aM:OA)(aN:Nat)(aO:List Rw),Has f [(0,Pt aU),(3,Pt b1),(4,Pt b2),(8,Z ce cq cg)]∧Bx w0 w eW G [O w0.heap.size a7 a8 111 Gs bi,.box aU 115 #[Z ac F.a.a.a ae,Z a9 F.a.a.b aa,Z aM bg aN,Z av F.a.b aw,V F.f,Z bb F.b bc,V F.c,V F.e],O aP a9 aa 82 Gn am,O aQ aM aN 60 (List Gv) (aO.map Rw.hdr),.qX aR 59 (sz Gv) aO none,O aS av aw 65 Gi aK,O aF bb bc 3 Int bd,O w0.heap.size ce cg 3 Int cO,O w0.heap.size o p 111 Gs aD,O w0.heap.size c h 138 Ge aC,.box b2 111 #[V 0,V 0,V 0,T be,T be,V 0,V 0,sn,T be,V 0,sn,sn,sn],.box b1 111 #[V a1,V H,V I,T J,T K,V L,V aH,Z j z m,T M,V N,Z c a2 h,Z o a6 p,Z a7 aI a8]] [.els bi aI,.l ac ae F.a.a.a,.els am F.a.a.b,.mU aO bg,.els aK F.a.b,.els bd F.b,.els cO cq,.els aD a6,.els aC a2,.l j m z]∧Ld.go bg=dO) (fun eH cv=>?_) ?_
    ·unfold qw at ar
     refine q (g (s (mp r) (s (xn r) (s (yY r) (s (BM r (a.bk 1 r) r) (s (kD r r) (n ?_)))))))
     rcases iv ar with ⟨cV,ar⟩|⟨cV,ar⟩
     ·refine jN (bt cV) ?_
      obtain ⟨dP,ch,ar⟩:=bs ar
      obtain ⟨cW,da,ch⟩:=kJ ch
      replace a:=a.arr [4,0,1,2,3,5,6,7,8,9,10,11] r
      try dsimp only [pick,nth,ca,na] at a
      obtain ⟨db,dd,eI,ci,df,a⟩:=a.Ub 3 rfl ch
      refine Kr a [1,3,5,12] [4] [0,1,3,5,12] [0,4] [22] (by kernel_rfl) ?_
      replace a:=a.drew
      have A:=(a.ad [1,3,5,12] [4])
      have hu:=(a.ad [0,1,3,5,12] [0,4])
      refine pL 0 r (mp r) A hu (pL 1 r (xn r) A hu (pL 2 r (pW r) A hu (pL 3 r (AX r) A hu (tU 4 r (fun _ hS=>PD r (hS.bk 1 r) r) (nu A hu) (pL 5 r (mp r) A hu (pL 6 r (xn r) A hu (pL 7 r (Ab r) A hu (tU 8 r (fun _ hS=>l3 r (hS.bk 1 r) r) (nu A hu) (pL 9 r (LK EJ Es r r da (a.bo 5 r) ci (a.d2 4 r).len) A hu (tU 10 r (fun _ hS=>jT Bj r r (hS.hc 2 r ci df 0 _ r)) (nu A hu) (pL 11 r (Mx r) A hu (tU 12 r (fun _ hS=>l3 r (hS.bk 3 r) r) (nu A hu) (pL 13 r (mp r) A hu (pL 14 r (xn r) A hu (pL 15 r (pW r) A hu (pL 16 r (AV r) A hu (tU 17 r (fun _ hS=>Qn r (hS.bk 1 r) r) (nu A hu) (pL 18 r (lX E5 r) A hu (pL 19 r (vW r r) A hu ?_)))))))))))))))))))
      obtain ⟨aT,c6,ar⟩:=bs ar
      obtain ⟨dg,dh,c6⟩:=kJ c6
      refine pL 20 r (kW Bj z8 r r dh (a.vw 0 0 r r) c6) A hu (pL 21 r (Nq r) A hu ?_)
      obtain ⟨dQ,c7,ar⟩:=bs ar
      obtain ⟨dR,e1,_,c7⟩:=uY c7
      obtain rfl:dg=dR:=by omega
      obtain ⟨dS,di,cj⟩:=(a.de 0 rfl).get c6
      replace cj:dS=[T aT.b,V aT.c,V aT.d,V aT.a,.bool aT.f,V aT.e,V aT.g]:=cj
      subst cj
      refine hO 22 (os r r (JG a 0 0 dg 6 [V (wr ((F.a.b.length:Int) - 1))] r r di nO r r r r r (show _=[T aT.b,V aT.c,V aT.d,V aT.a,.bool aT.f,V aT.e,V (wr ((F.a.b.length:Int) - 1))] from r) r c7) ?_)
      rintro QY ⟨dj,a⟩
      try dsimp only [List.set] at a
      have cw:dP.length=dQ.length:=by rw [← c7,List.length_set]
      try dsimp only [Z] at a
      try rw [cw] at a
      try dsimp only [Z]
      try rw [cw]
      have A:=(a.ad [1,3,5,12] [4])
      refine ⟨(sy 22 A),(hD ?_)⟩
      obtain ⟨dk,c8,ar⟩:=bs ar
      obtain ⟨dT,e2,_,c8⟩:=uY c8
      obtain rfl:cW=dT:=by omega
      have e3:=(a.de 0 r).len
      replace a:=a.hd 5 (H':=((aJ.set cW ⟨db,dd,dj⟩).map Rw.hdr)) r (Vm ci (by omega))
      try dsimp only [List.set] at a
      replace a:=a.arr [0,1,2,3,4,5,6,7,8,9,10,11,12] r
      try dsimp only [pick,nth,ca,na] at a
      replace a:=a.Yq 4 0 r r
      try dsimp only [List.set] at a
      rw [c8] at a
      obtain ⟨dU,dm⟩:∃ R,(aJ.set cW ⟨db,dd,dj⟩)=R:=⟨_,rfl⟩
      rw [dm] at a
      have cx:F.a.c.length=dk.length:=by rw [← c8,List.length_set]
      try dsimp only [Z] at a
      try rw [cx] at a
      try dsimp only [Z]
      try rw [cx]
      exact cv _ _ ⟨dk,b9,ba,dU,⟨r,r,r,r,y⟩,(a.ad [1,2,3,4,0,5,6,7,8,9,10,11] [1,2,3,4,5,6,12,13,19,26]),sm ar⟩
     exact jK (bf cV) (wk (cv _ _ ⟨F.a.c,b9,ba,aJ,⟨r,r,r,r,y⟩,(a.dp [0,1,2,3,4,5,11,12,18,25]),sm ar⟩))
    clear a
    rintro f w ⟨bg,aM,aN,aO,hf,a,dn⟩
    obtain ⟨eX,rfl⟩:=iA _ _ hf
    clear hf
    subst dn
    replace W:=gi W
    refine q (g (s (mp r) (s (nC r) (s (xn r) (s (zY r) (lg (t_n a 1 [Z ce cq cg] r AZ r r) fun eJ a=>n (q (g (s (ng [V a1,V H,V I,T J,T K,V L,V aH,Z j z m,T M,V N,Z c a2 h,Z o a6 p,Z a7 aI a8] lW jQ r (a.bk 11 r)) (lg (nX a 10 [V a1,V H,V I,T J,T K,V L,V aH,Z j z m,T M,V N,Z c a2 h,Z o a6 p,Z a7 aI a8] r jQ r r) fun eK a=>n (kT ?_)))))))))))
    replace a:=a.fz 9 8 r r
    replace a:=a.fz 8 8 r r
    replace a:=a.fz 0 2 r r
    replace a:=a.rb 6 aF r Y
    obtain rfl:=sm W
    replace x:=oi x
    obtain rfl:=sm x
    exact jI r (tV r lW r jQ r (a.bk 7 r)) (mM (⟨j,m,c,h,o,p,a7,a8,aM,aN,aO,av,aw,aK,ce,cg,cO,r,(a.ad [0,1,2,3,4,6] [9,2,1,0,3,4,5,6,8])⟩))
   exact jK (bf cN) (wk (cu _ _ ⟨⟨r,r,r,y⟩,(a.dp [0,1,2,3,4,5,6,13,16]),sm W⟩))
  rw [decide_eq_false cM]
  exact jC r (jC r (jC r (jC r (jC r (s (jY r r) (n (jK r (wk (cu _ _ ⟨⟨r,r,r,y⟩,(a.dp [0,1,2,3,4,5,6,13,16]),sm W⟩)))))))))
 clear a
 rintro f w ⟨hf,a,dq⟩
 obtain ⟨eX,rfl⟩:=iA _ _ hf
 clear hf
 subst dq
 replace x:=gi x
 refine q (g (s (mp r) (s (wG r) (s (Ol r (a.bk 9 r) r) ?_))))
 obtain ⟨bh,dV,dW,x⟩:=lZ x
 have hc:=H_r04_block (a.pr [1,2,3,4,5,6] [0,7,8,9] [1,2,3,4,5,8] r) (a.le a3) (a.le a4) (a.le a5) (a.le X) (a.le Y) dW
 refine sc (ec NM r) hc ?_
 rintro _ eL ⟨ak,al,cY,bU,bV,bW,bX,bY,bZ,c0,c1,c2,rfl,hK⟩
 have bw:=a.rD.size
 replace a:=a.cn [1,2,3,4,5,6] [0,7,8,9] hK
 replace a:=a.rb 0 w0.heap.size r bw
 refine s (wG r) (lg (t_n a 10 [Z ak bh al] r zX r r) fun eM a=>n (q (g (s (ng [V a1,V H,V I,T J,T K,V L,V ai,Z j z m,T M,V N,Z c a2 h,Z o a6 p,Z ak bh al] lW jQ r (a.bk 10 r)) (lg (nX a 9 [V a1,V H,V I,T J,T K,V L,V ai,Z j z m,T M,V N,Z c a2 h,Z o a6 p,Z ak bh al] r jQ r r) fun eN a=>n (kT ?_))))))
 replace a:=a.fz 8 12 r r
 replace a:=a.fz 7 7 r r
 replace a:=a.fz 0 2 r r
 obtain rfl:=sm x
 exact jI r (tV r lW r jQ r (a.bk 6 r)) (mM (⟨j,m,c,h,o,p,ak,al,bU,bV,bW,bX,bY,bZ,c0,c1,c2,r,(a.ad [0,1,2,3,4,5] [13,2,1,0,3,4,5,6,7])⟩))
theorem He (fu:Nat):wK (q9 fu)∧zQ (xS fu):=by
 induction fu with
 | zero=>exact ⟨by intro a b;intros;exact nn (by assumption),by intro a b;intros;exact nn (by assumption)⟩
 | succ fu ih=>exact ⟨IZ fu (q9 fu) (xS fu) ih.1 ih.2,Ll fu (q9 fu) (xS fu) ih.1 ih.2⟩
theorem JV (fu:Nat):wK (q9 fu):=(He fu).1
def Ev (m:Gt→Gn→Option (Gn × Gt)):Prop:=∀ {w0:World} {a7:Nat→Prop} {k:Gt} {x1:Gn} {a3:Nat} {d:Option Addr} {h:Nat} {a:Option Addr} {b:Nat} {i:List (List Value)} {o:Nat} {p:Option Addr} {t:Nat} {j:List Rw} {u:Nat} {x:Nat} {z:Option Addr} {A:Nat} {G:List (List Value)} {B:Nat} {C:Option Addr} {D:Nat} {H:List (List Value)} {E:Nat} {S:Option Addr} {U:Nat} {W:Option Addr} {X:Nat} {R:Gn × Gt},Pre w0 a7 [.box a3 115 #[Z d k.a.a.a h,Z a k.a.a.b b,Z p k.a.c t,Z z k.a.b A,V k.f,Z C k.b D,V k.c,V k.e],O o a b 82 Gn i,O u p t 60 (List Gv) (j.map Rw.hdr),.qX x 59 (sz Gv) j none,O B z A 65 Gi G,O E C D 3 Int H] [.l d h k.a.a.a,.els i k.a.a.b,.mU j k.a.c,.els G k.a.b,.els H k.b,.l S U x1.a,.l W X x1.e]→o≤w0.heap.size→u≤w0.heap.size→x≤w0.heap.size→B≤w0.heap.size→E≤w0.heap.size→m k x1=some R→
 Calls Try.prog 49 #[Pt a3,.agg #[T x1.b,V x1.f,Z S x1.a U,Z W x1.e X]] w0 (qW fun v w=>jy R fun r0 c=>∃ (Y:OA)(a0:Nat)(a1:OA)(a2:Nat)(I:OA)(J:Nat)(F:List Rw) (K:OA)(L:Nat)(M:LV)(N:OA)(P:Nat)(Q:LV),v=.agg #[T r0.b,V r0.f,Z Y r0.a a0,Z a1 r0.e a2]∧Bx w0 w a7 (lT [.box a3 115 #[Z d k.a.a.a h,Z a k.a.a.b b,Z p k.a.c t,Z z k.a.b A,V k.f,Z C k.b D,V k.c,V k.e],O o a b 82 Gn i,O u p t 60 (List Gv) (j.map Rw.hdr),.qX x 59 (sz Gv) j none,O B z A 65 Gi G,O E C D 3 Int H]) [.box a3 115 #[Z d c.a.a.a h,Z a c.a.a.b b,Z I c.a.c J,Z K c.a.b L,V c.f,Z N c.b P,V c.c,V c.e],O o a b 82 Gn i,O u I J 60 (List Gv) (F.map Rw.hdr),.qX x 59 (sz Gv) F none,O B K L 65 Gi M,O E N P 3 Int Q] [.l Y a0 r0.a,.l a1 a2 r0.e,.l d h c.a.a.a,.els i c.a.a.b,.mU F c.a.c,.els M c.a.b,.els Q c.b])
def lF (fu:Nat)(m:Gn):List BA→Nat→(List Int)→(List Gr)→Int→Int→Int→(List Gn)→(List (List Gv))→(List Gi)→Option (Ld (List Int × List Gr × Int × Int × Int × List Gn × List (List Gv) × List Gi) (Gn × Gt))
 | [],_,c,d,h,i,j,k,l,b=>some (.go (c,d,h,i,j,k,l,b))
 | p :: t,u,c,d,h,i,j,k,l,b=>
 (og fu (⟨(⟨(⟨d,k⟩:jR),l,b⟩:jO),h,c,i,j⟩:Gt) m.f (⟨p,1,(-1),1,true,(b.length:Int),0⟩:Gv)).bind fun v=>
 jy v fun o a=>
 lF fu m t (u+1) a.b a.a.a.a a.f a.c a.e a.a.a.b a.a.c a.a.b
def l6 (fu:Nat)(a:Gt):List BA→Nat→(List (List Gv))→Option (Ld (List (List Gv)) (Gn × Gt))
 | [],_,b=>some (.go b)
 | k :: h,d,b=>
 (ix b a.f).bind fun e=>
 (ix e (d:Int)).bind fun c=>
 (st e (d:Int) (⟨c.b,c.c,c.d,c.a,c.f,c.e,(wr ((a.a.b.length:Int) - 1))⟩:Gv)).bind fun i=>
 (st b a.f i).bind fun j=>
 l6 fu a h (d+1) j
def oD (fu:Nat)(d:Gt) (b:Gn):Option (Gn × Gt):=
 if 4 < (b.a.length:Int) then
  (lY fu d b.f 5).bind fun v=>
  some (b,v)
 else
  (lF fu b b.a 0 ([]:List Int) d.a.a.a d.f d.c d.e d.a.a.b d.a.c d.a.b).bind fun w=>w.el (fun w=>
  jy w fun h w=>jy w fun i w=>jy w fun j w=>jy w fun k w=>jy w fun c w=>jy w fun l w=>jy w fun m p=>
  if c=0 then
   (q9 fu (⟨(⟨(⟨i,l⟩:jR),m,p⟩:jO),j,h,k,c⟩:Gt) b.e).bind fun w=>
   jy w fun t a=>
   (l6 fu a b.a 0 a.a.c).bind fun w=>w.el (fun u=>
   some ((⟨b.b,b.f,b.a,t⟩:Gn),(⟨(⟨a.a.a,u,a.a.b⟩:jO),a.f,a.b,a.c,a.e⟩:Gt))
   ) (fun o=>some o)
  else
   some (b,(⟨(⟨(⟨i,l⟩:jR),m,p⟩:jO),j,h,k,c⟩:Gt))
  ) (fun o=>some o)
theorem AU (fu:Nat):Ev (oD fu):=by
 intro w0 ch x0 j ar L M z A N ai aj ak au al am Q S ab an aA aB aQ aC c d t u R hP av aw ax ay az hM
 unfold oD at hM
 have a:=hP.bx
 clear hP
 generalize hG:lT _=G at a ⊢
 refine cf Try.func49 r (lK [(0,Pt ar),(1,.agg #[T j.b,V j.f,Z c j.a d,Z t j.e u])] ⟨r,r,y⟩ fun ci=>q (g (tu a (y5 r) fun w1 b1 a=>tu a (jV nY) fun w2 b2 a=>n (q (q (g (s (EL r) (s (zM r (a.bk 1 r) r) (s (lX kQ r) (s (uX r r) (n ?_)))))))))))
 rcases iv hM with ⟨h3,hM⟩|⟨h3,hM⟩
 ·refine jN (bt h3) (q (g (s (mp r) (s (Ng r) (s (l3 r (a.bk 1 r) r) ?_)))))
  obtain ⟨bI,h4,hM⟩:=bs hM
  have hc:=(mZ fu) (a.pr [2,3,4,5,6,7] [0,1] [0,1,2,3,4] r) (a.le av) (a.le aw) (a.le ax) (a.le ay) (a.le az) h4
  refine sc (ec yZ r) hc ?_
  rintro _ w4 ⟨rfl,hK⟩
  replace a:=a.cn [2,3,4,5,6,7] [0,1] hK
  refine n (q (g (s (ng [T j.b,V j.f,Z c j.a d,Z t j.e u] Ez nY r (a.bk 7 r)) (lg (nX a 6 [T j.b,V j.f,Z c j.a d,Z t j.e u] r nY r r) fun w5 a=>n (kT ?_)))))
  obtain rfl:=sm hM
  exact jI r (tV r Ez r nY r (a.bk 6 r)) (mM (⟨c,d,t,u,aj,ak,au,Q,S,ab,aA,aB,aQ,r,(a.ad [0,1,2,3,4,5] [10,11,0,1,2,3,4])⟩))
 refine jK (bf h3) (wk (q (g (s (mp r) (s (xn r) (s (zY r) (lg (t_n a 2 [sn] r AZ r r) fun w6 a=>n (q (q (g (s (EL r) (s (zM r (a.bk 1 r) r) (s (lX kQ r) (s (mi r) (n ?_)))))))))))))))
 replace a:=a.Ca Int 3
 have bS:=(a.dl 6 r).bd
 obtain ⟨Y7,ao,hM⟩:=bs hM
 refine oq (fun f w=>∃ (a6:List Int) (U:OA)(W:Nat)(X:LV)(a7:List Gr) (ae:Int)(af:Int)(ag:Int)(a8:List Gn) (a9:List (List Gv)) (Y:OA)(a0:Nat)(B:List Rw) (aa:List Gi),Has f [(0,Pt ar),(3,Pt b1),(4,Pt b2)]∧Bx w0 w ch G [O w0.heap.size U W 3 Int X,.box b2 82 #[T be,V 0,sn,sn],.box b1 82 #[T j.b,V j.f,Z c j.a d,Z t j.e u],.box ar 115 #[Z L a7 M,Z z a8 A,Z Y a9 a0,Z Q aa S,V ae,Z U a6 W,V af,V ag],O ai z A 82 Gn N,O al Y a0 60 (List Gv) (B.map Rw.hdr),.qX am 59 (sz Gv) B none,O an Q S 65 Gi ab] [.l L M a7,.els X a6,.els N a8,.mU B a9,.els ab aa,.l c d j.a,.l t u j.e]∧Ld.go (a6,a7,ae,af,ag,a8,a9,aa)=Y7) (fun J7 bu=>?_) ?_
 ·refine oM (kM (fun cj f w=>∃ (k7:Nat)(a6:List Int) (U:OA)(W:Nat)(X:LV)(a7:List Gr) (ae:Int)(af:Int)(ag:Int)(a8:List Gn) (a9:List (List Gv)) (Y:OA)(a0:Nat)(B:List Rw) (aa:List Gi),cj=j.a.length - k7∧k7≤j.a.length∧Has f [(23,V (k7:Int)),(0,Pt ar),(3,Pt b1),(4,Pt b2),(21,Z c j.a d),(22,V (j.a.length:Int))]∧Bx w0 w ch G [O w0.heap.size U W 3 Int X,.box b2 82 #[T be,V 0,sn,sn],.box b1 82 #[T j.b,V j.f,Z c j.a d,Z t j.e u],.box ar 115 #[Z L a7 M,Z z a8 A,Z Y a9 a0,Z Q aa S,V ae,Z U a6 W,V af,V ag],O ai z A 82 Gn N,O al Y a0 60 (List Gv) (B.map Rw.hdr),.qX am 59 (sz Gv) B none,O an Q S 65 Gi ab] [.l L M a7,.els X a6,.els N a8,.mU B a9,.els ab aa,.l c d j.a,.l t u j.e]∧lF fu j (j.a.drop k7) k7 a6 a7 ae af ag a8 a9 aa=some Y7) (j.a.length) ⟨0,([]:List Int),none,0,[],x0.a.a.a,x0.f,x0.c,x0.e,x0.a.a.b,x0.a.c,aj,ak,au,x0.a.b,r,Nat.zero_le _,⟨r,r,r,r,r,r,y⟩,(a.ad [0,1,2,3,4,5,6,7] [1,0,2,3,4,6,7]),ao⟩ ?_)
  clear a ao
  rintro cj f w ⟨k7,a6,U,W,X,a7,ae,af,ag,a8,a9,Y,a0,B,aa,rfl,bT,hf,a,ao⟩ K7 bv
  obtain ⟨ci,rfl⟩:=iA _ _ hf
  clear hf
  rcases Nat.lt_or_ge k7 j.a.length with b6 | b6
  ·obtain ⟨u7,b0⟩:=mh (l:=j.a) b6
   rw [mP b0,lF] at ao
   refine q (g (s (sS r r (by omega)) (n (q (jN r (wk (q (oM (q (g (s (kW kQ oQ r r r (a.dl 5 r) b0) (s (jT uq r r ((uy (ds:=[T u7]) (a.dl 5 r) b0 (fun _ h=>h)) 0 _ r)) (s (mF r) (n (Kr a [2] [] [2,3] [] [11] (by kernel_rfl) ?_)))))))))))))))
   replace a:=a.drew
   have hs:=(a.ad [2] [])
   have hu:=(a.ad [2,3] [])
   refine pL 0 r (mp r) hs hu (pL 1 r (Ng r) hs hu (tU 2 r (fun _ hS=>l3 r (hS.bk 0 r) r) (nu hs hu) (pL 3 r (kY r) hs hu (pL 4 r (mp r) hs hu (pL 5 r (xn r) hs hu (pL 6 r (pW r) hs hu (pL 7 r (AV r) hs hu (tS 3 8 r (fun _ hS=>Qn r (hS.bk 1 r) r) (nu hs hu) (pL 9 r (lX E5 r) hs hu (pL 10 r (DZ r r r r r r) hs hu ?_))))))))))
   obtain ⟨bL,ah,h9,ao⟩:=lZ ao
   have hc:=(zI fu) (a.pr [3,4,5,6,7,0] [1,2] [0,2,3,4,1] r) (a.le av) (a.le aw) (a.le ax) (a.le ay) a.rD.size h9
   refine hO 11 (oc r r (ec Qc r) hc ?_)
   rintro _ w9 ⟨aJ,aK,aL,aM,aN,aO,rfl,hK⟩
   replace a:=a.cn [3,4,5,6,7,0] [1,2] hK
   have hs:=(a.ad [7] [])
   exact ⟨(sy 11 hs),(hD (g (s (mR r r (by omega) (by omega)) (s (mi r) (n (bv (j.a.length - (k7+1)) _ _ (by omega) ⟨k7+1,ah.b,aM,aN,aO,ah.a.a.a,ah.f,ah.c,ah.e,ah.a.a.b,ah.a.c,aJ,aK,aL,ah.a.b,r,by omega,⟨r,r,r,r,r,r,y⟩,(a.ad [5,6,7,0,1,2,3,4] [0,4,1,2,3,10,11]),ao⟩))))))⟩
  obtain rfl:k7=j.a.length:=by omega
  rw [lV,lF] at ao
  exact q (g (s (sU r r (by omega)) (n (q (jK r (tT (bu _ _ ⟨a6,U,W,X,a7,ae,af,ag,a8,a9,Y,a0,B,aa,⟨r,r,r,y⟩,a,sm ao⟩)))))))
 clear a
 rintro f w ⟨a6,U,W,X,a7,ae,af,ag,a8,a9,Y,a0,B,aa,hf,a,bw⟩
 obtain ⟨ci,rfl⟩:=iA _ _ hf
 clear hf
 subst bw
 replace hM:=gi hM
 replace hM:=pi (mG (mG hM))
 refine q (q (g (s (mp r) (s (xn r) (s (yY r) (s (BM r (a.bk 3 r) r) (s (kD r r) (n ?_))))))))
 rcases iv hM with ⟨b3,hM⟩|⟨b3,hM⟩
 ·refine jN (bt b3) (q (g (s (mp r) (s (Du r) (s (Ol r (a.bk 2 r) r) ?_)))))
  obtain ⟨a1,b,bz,hM⟩:=lZ hM
  have hc:=(JV fu) (a.pr [3,4,5,6,7,0] [1,2] [0,2,3,4,1,6] r) (a.le av) (a.le aw) (a.le ax) (a.le ay) a.rD.size bz
  refine sc (ec NM r) hc ?_
  rintro _ bW ⟨m,o,a4,aD,aE,aF,C,D,E,F,H,I,rfl,hK⟩
  have bA:=a.rD.size
  replace a:=a.cn [3,4,5,6,7,0] [1,2] hK
  replace a:=a.rb 0 w0.heap.size r bA
  refine s (Du r) (lg (t_n a 8 [Z m a1 o] r zX r r) fun bX a=>n (q (g (s (EL r) (s (zM r (a.bk 8 r) r) (s (lX kQ r) (s (mi r) (n ?_))))))))
  have bM:=(a.dl 11 r).bd
  obtain ⟨b7,J,hM⟩:=bs hM
  refine oq (fun f w=>∃ (K:List (List Gv)) (v:OA)(x:Nat)(p:List Rw),Has f [(3,Pt b1),(4,Pt b2)]∧Bx w0 w ch G [O w0.heap.size m o 111 Gs a4,.box ar 115 #[Z L b.a.a.a M,Z z b.a.a.b A,Z v K x,Z C b.a.b D,V b.f,Z F b.b H,V b.c,V b.e],O ai z A 82 Gn N,O al v x 60 (List Gv) (p.map Rw.hdr),.qX am 59 (sz Gv) p none,O an C D 65 Gi E,O w0.heap.size F H 3 Int I,.box b2 82 #[T be,V 0,sn,sn],.box b1 82 #[T j.b,V j.f,Z c j.a d,Z m a1 o]] [.els a4 a1,.l L M b.a.a.a,.els N b.a.a.b,.mU p K,.els E b.a.b,.els I b.b,.l c d j.a]∧Ld.go K=b7) (fun bY b8=>?_) ?_
  ·refine oM (kM (fun cj f w=>∃ (aq:Nat)(K:List (List Gv)) (v:OA)(x:Nat)(p:List Rw),cj=j.a.length - aq∧aq≤j.a.length∧Has f [(53,V (aq:Int)),(0,Pt ar),(3,Pt b1),(4,Pt b2),(52,V (j.a.length:Int))]∧Bx w0 w ch G [O w0.heap.size m o 111 Gs a4,.box ar 115 #[Z L b.a.a.a M,Z z b.a.a.b A,Z v K x,Z C b.a.b D,V b.f,Z F b.b H,V b.c,V b.e],O ai z A 82 Gn N,O al v x 60 (List Gv) (p.map Rw.hdr),.qX am 59 (sz Gv) p none,O an C D 65 Gi E,O w0.heap.size F H 3 Int I,.box b2 82 #[T be,V 0,sn,sn],.box b1 82 #[T j.b,V j.f,Z c j.a d,Z m a1 o]] [.els a4 a1,.l L M b.a.a.a,.els N b.a.a.b,.mU p K,.els E b.a.b,.els I b.b,.l c d j.a]∧l6 fu b (j.a.drop aq) aq K=some b7) (j.a.length) ⟨0,b.a.c,aD,aE,aF,r,Nat.zero_le _,⟨r,r,r,r,r,y⟩,(a.dp [0,1,2,3,4,5,11]),J⟩ ?_)
   clear a J
   rintro cj f w ⟨aq,K,v,x,p,rfl,bN,hf,a,J⟩ bZ b9
   obtain ⟨ci,rfl⟩:=iA _ _ hf
   clear hf
   rcases Nat.lt_or_ge aq j.a.length with aX | aX
   ·obtain ⟨c0,ba⟩:=mh (l:=j.a) aX
    rw [mP ba,l6] at J
    refine q (g (s (sS r r (by omega)) (n (q (jN r (wk (q (oM (q (g (s (mi r) (s (xi r) (n ?_)))))))))))))
    obtain ⟨bB,aR,J⟩:=bs J
    obtain ⟨b4,bb,aR⟩:=kJ aR
    replace a:=a.arr [4,0,1,2,3,5,6,7,8] r
    try dsimp only [pick,nth,ca,na] at a
    obtain ⟨bc,bg,c1,aS,bh,a⟩:=a.Ub 3 rfl aR
    refine Kr a [1,3,5] [4] [0,1,3,5] [0,4] [21] (by kernel_rfl) ?_
    replace a:=a.drew
    have hs:=(a.ad [1,3,5] [4])
    have hu:=(a.ad [0,1,3,5] [0,4])
    refine pL 0 r (mp r) hs hu (pL 1 r (xn r) hs hu (pL 2 r (pW r) hs hu (pL 3 r (AX r) hs hu (tU 4 r (fun _ hS=>PD r (hS.bk 1 r) r) (nu hs hu) (pL 5 r (mp r) hs hu (pL 6 r (xn r) hs hu (pL 7 r (Ab r) hs hu (tU 8 r (fun _ hS=>l3 r (hS.bk 1 r) r) (nu hs hu) (pL 9 r (LK EJ Es r r bb (a.bo 5 r) aS (a.d2 4 r).len) hs hu (tU 10 r (fun _ hS=>jT Bj r r (hS.hc 2 r aS bh 0 _ r)) (nu hs hu) (pL 11 r (mi r) hs hu (pL 12 r (mp r) hs hu (pL 13 r (xn r) hs hu (pL 14 r (pW r) hs hu (pL 15 r (AV r) hs hu (tU 16 r (fun _ hS=>Qn r (hS.bk 1 r) r) (nu hs hu) (pL 17 r (lX E5 r) hs hu (pL 18 r (vW r r) hs hu ?_))))))))))))))))))
    obtain ⟨ac,aG,J⟩:=bs J
    obtain ⟨bi,bj,aG⟩:=kJ aG
    refine pL 19 r (kW Bj z8 r r bj (a.vw 0 0 r r) aG) hs hu (pL 20 r (Nq r) hs hu ?_)
    obtain ⟨bC,aH,J⟩:=bs J
    obtain ⟨bD,bO,_,aH⟩:=uY aH
    obtain rfl:bi=bD:=by omega
    obtain ⟨bE,bl,aT⟩:=(a.de 0 rfl).get aG
    replace aT:bE=[T ac.b,V ac.c,V ac.d,V ac.a,.bool ac.f,V ac.e,V ac.g]:=aT
    subst aT
    refine hO 21 (os r r (JG a 0 0 bi 6 [V (wr ((b.a.b.length:Int) - 1))] r r bl nO r r r r r (show _=[T ac.b,V ac.c,V ac.d,V ac.a,.bool ac.f,V ac.e,V (wr ((b.a.b.length:Int) - 1))] from r) r aH) ?_)
    rintro c2 ⟨bm,a⟩
    try dsimp only [List.set] at a
    have aY:bB.length=bC.length:=by rw [← aH,List.length_set]
    try dsimp only [Z] at a
    try rw [aY] at a
    try dsimp only [Z]
    try rw [aY]
    have hs:=(a.ad [1,3,5] [4])
    refine ⟨(sy 21 hs),(hD (g (s (mR r r (by omega) (by omega)) (s (mi r) (n ?_)))))⟩
    obtain ⟨bn,aI,J⟩:=bs J
    obtain ⟨bF,bP,_,aI⟩:=uY aI
    obtain rfl:b4=bF:=by omega
    have bQ:=(a.de 0 r).len
    replace a:=a.hd 5 (H':=((p.set b4 ⟨bc,bg,bm⟩).map Rw.hdr)) r (Vm aS (by omega))
    try dsimp only [List.set] at a
    replace a:=a.arr [0,1,2,3,4,5,6,7,8,9] r
    try dsimp only [pick,nth,ca,na] at a
    replace a:=a.Yq 4 0 r r
    try dsimp only [List.set] at a
    rw [aI] at a
    obtain ⟨bG,bp⟩:∃ R,(p.set b4 ⟨bc,bg,bm⟩)=R:=⟨_,rfl⟩
    rw [bp] at a
    have aZ:K.length=bn.length:=by rw [← aI,List.length_set]
    try dsimp only [Z] at a
    try rw [aZ] at a
    try dsimp only [Z]
    try rw [aZ]
    exact b9 (j.a.length - (aq+1)) _ _ (by omega) ⟨aq+1,bn,v,x,bG,r,by omega,⟨r,r,r,r,r,y⟩,(a.ad [1,2,3,4,0,5,6,7,8] [1,2,3,4,5,6,7]),J⟩
   obtain rfl:aq=j.a.length:=by omega
   rw [lV,l6] at J
   exact q (g (s (sU r r (by omega)) (n (q (jK r (tT (b8 _ _ ⟨K,v,x,p,⟨r,r,y⟩,a,sm J⟩)))))))
  clear a
  rintro f w ⟨K,v,x,p,hf,a,bq⟩
  obtain ⟨ci,rfl⟩:=iA _ _ hf
  clear hf
  subst bq
  replace hM:=gi hM
  refine q (g (s (ng [T j.b,V j.f,Z c j.a d,Z m a1 o] Ez nY r (a.bk 8 r)) (lg (nX a 7 [T j.b,V j.f,Z c j.a d,Z m a1 o] r nY r r) fun c3 a=>n (kT ?_))))
  replace a:=a.fz 0 0 r r
  replace a:=a.rb 5 aC r az
  obtain rfl:=sm hM
  exact jI r (tV r Ez r nY r (a.bk 6 r)) (mM (⟨c,d,m,o,v,x,p,C,D,E,F,H,I,r,(a.ad [0,1,2,3,4,5] [6,0,1,2,3,4,5])⟩))
 refine jK (bf b3) (wk (q (g (s (ng [T j.b,V j.f,Z c j.a d,Z t j.e u] Ez nY r (a.bk 2 r)) (lg (nX a 1 [T j.b,V j.f,Z c j.a d,Z t j.e u] r nY r r) fun c4 a=>n (kT ?_))))))
 replace a:=a.rb 0 aC r az
 obtain rfl:=sm hM
 exact jI r (tV r Ez r nY r (a.bk 1 r)) (mM (⟨c,d,t,u,Y,a0,B,Q,S,ab,U,W,X,r,(a.ad [3,4,5,6,7,0] [5,6,0,2,3,4,1])⟩))
def I5 (m:jR→Option (jO × Int × Int)):Prop:=∀ {x:World} {B:Nat→Prop} {u:jR} {a:Option Addr} {b:Nat} {c:Option Addr} {d:Nat} {R:jO × Int × Int},Pre x B [] [.l a b u.a,.l c d u.b]→m u=some R→
 Calls Try.prog 36 #[.agg #[Z a u.a b,Z c u.b d]] x (qW fun v w=>jy R fun t R=>jy R fun z A=>∃ (e:OA)(f:Nat)(h:OA)(i:Nat)(j:OA)(k:Nat)(o:OA)(p:Nat),v=.tuple #[.agg #[Z e t.a.a f,Z h t.a.b i,Z j t.c k,Z o t.b p],V z,V A]∧Bx x w B (lT []) [] [.l e f t.a.a,.l h i t.a.b,.l j k t.c,.l o p t.b])
def nE (fu:Nat)(p:jR):Nat→Int→(List Gr)→Int→Int→Int→(List Gn)→(List (List Gv))→(List Gi)→(List Int)→Option (Ld (Int × List Gr × Int × Int × Int × List Gn × List (List Gv) × List Gi × List Int) (jO × Int × Int))
 | 0,_,_,_,_,_,_,_,_,_=>none
 | t+1,b,d,m,h,c,i,j,k,l=>
 if b < (p.b.length:Int) then
  if c=0 then
   (app j [[]]).bind fun u=>
   (ix p.b b).bind fun v=>
   (oD fu (⟨(⟨(⟨d,i⟩:jR),u,k⟩:jO),b,l,h,c⟩:Gt) v).bind fun z=>
   jy z fun o a=>
   (ix a.a.a.b b).bind fun x=>
   (st a.a.a.b b o).bind fun w=>
   nE fu p t (wr (b+1)) a.a.a.a a.f a.c a.e w a.a.c a.a.b a.b
  else
   some (.go (b,d,m,h,c,i,j,k,l))
 else
  some (.go (b,d,m,h,c,i,j,k,l))
def sD (fu:Nat)(k:jR):Option (jO × Int × Int):=
 (app ([]:List Gn) k.b).bind fun t=>
 (yS fu (⟨(⟨(⟨k.a,t⟩:jR),([]:List (List Gv)),([]:List Gi)⟩:jO),0,([]:List Int),0,0⟩:Gt)).bind fun a=>
 (nE fu k fu 0 a.a.a.a a.f a.c a.e a.a.a.b a.a.c a.a.b a.b).bind fun u=>u.el (fun u=>
 jy u fun l u=>jy u fun c u=>jy u fun m u=>jy u fun d u=>jy u fun b u=>jy u fun h u=>jy u fun i u=>jy u fun j p=>
 if b≠0 then
  some ((⟨(⟨([]:List Gr),([]:List Gn)⟩:jR),([]:List (List Gv)),([]:List Gi)⟩:jO),d,b)
 else
  some ((⟨(⟨c,h⟩:jR),i,j⟩:jO),0,0)
 ) (fun o=>some o)
theorem Dn (fu:Nat):I5 (sD fu):=by
 intro w0 bS x0 m o ab ac R hP hM
 unfold sD at hM
 have a:=hP.bx
 clear hP
 generalize hG:lT _=G at a ⊢
 refine cf Try.func36 r (lK [(0,.agg #[Z m x0.a o,Z ab x0.b ac])] ⟨r,y⟩ fun bT=>q (g (tu a (y5 r) fun w1 b1 a=>tu a (jV xD) fun w2 b2 a=>s (xi r) (s (xi r) (n (q (pX a [1] [] [] (by kernel_rfl) ?_)))))))
 replace a:=a.drew
 have hs:=(a.ad [1] [])
 refine pF 0 r (CX r) hs (uF 1 r (fun hS=>Tj r (hS.bk 0 r) r) hs (pF 3 r (Af r) hs (uF 4 r (fun hS=>OJ r (hS.bk 0 r) r) hs (hO 2 (oo r r (jP a [] ([]:List Gn) (Qt) r r (by decide) y) ?_)))))
 rintro _ w3 ⟨b3,rfl,a⟩
 have hs:=(a.ad [2] [])
 refine ⟨(sF hs),?_⟩
 obtain ⟨r4,bd,hM⟩:=bs hM
 refine hO 5 (oo r r (kP a 0 0 r r Cq nY r (by decide) (by decide) (Nat.le_refl _) r r (a.ZX 2 r) bd) ?_)
 rintro _ w4 ⟨A4,C4,Q4,rfl,a⟩
 have hs:=(a.ad [2] [])
 refine ⟨(sF hs),(pF 6 r (P8 r r) hs (pF 7 r (Uj r) hs (pF 8 r (RZ r) hs (hO 9 (oo r r (nM a (y5 r)) ?_)))))⟩
 rintro _ w6 ⟨b6,rfl,a⟩
 have hs:=(a.ad [3] [])
 refine ⟨(sF hs),(pF 10 r (MX r) hs (hD (q (g (s (mp r) ?_)))))⟩
 replace a:=a.Yp Gv 60 59
 replace a:=a.Ca Gi 65
 replace a:=a.Ca Int 3
 obtain ⟨aa,bg,hM⟩:=bs hM
 have hc:=(Iw fu) (a.pr [4,5,2,3,1,0] [6,7] [4,3,2,1,0] r) a.rD.size a.rD.size a.rD.size a.rD.size a.rD.size bg
 refine sc (ec Wt r) hc ?_
 rintro _ bv ⟨rfl,hK⟩
 replace a:=a.cn [4,5,2,3,1,0] [6,7] hK
 refine n (q (q (g (s (xi r) (n ?_)))))
 obtain ⟨aV,j,hM⟩:=bs hM
 refine oq (fun f w=>∃ (W:Int)(J:List Gr) (a9:Int)(a7:Int)(a8:Int)(K:List Gn) (b:OA)(c:Nat)(a4:LV)(N:List (List Gv)) (v:OA)(x:Nat)(Q:List Rw) (L:List Gi) (p:OA)(t:Nat)(a5:LV)(X:List Int) (S:OA)(U:Nat)(a6:LV),Has f [(2,Pt b2),(5,Pt b6)]∧Bx w0 w bS G [.box b6 115 #[Z m J o,Z b K c,Z v N x,Z p L t,V a9,Z S X U,V a7,V a8],O w0.heap.size b c 82 Gn a4,O w0.heap.size v x 60 (List Gv) (Q.map Rw.hdr),.qX w0.heap.size 59 (sz Gv) Q none,O w0.heap.size p t 65 Gi a5,O w0.heap.size S U 3 Int a6,.box b2 30 #[sn,sn,sn,sn],.box b1 26 #[Z m x0.a o,Z ab x0.b ac]] [.l m o J,.els a4 K,.mU Q N,.els a5 L,.els a6 X,.l m o x0.a,.l ab ac x0.b]∧Ld.go (W,J,a9,a7,a8,K,N,L,X)=aV) (fun bw aw=>?_) ?_
 ·refine oM (kM (fun bU f w=>∃ (W:Int)(J:List Gr) (a9:Int)(a7:Int)(a8:Int)(K:List Gn) (b:OA)(c:Nat)(a4:LV)(N:List (List Gv)) (v:OA)(x:Nat)(Q:List Rw) (L:List Gi) (p:OA)(t:Nat)(a5:LV)(X:List Int) (S:OA)(U:Nat)(a6:LV),Has f [(1,Pt b1),(2,Pt b2),(5,Pt b6),(6,V W)]∧Bx w0 w bS G [.box b6 115 #[Z m J o,Z b K c,Z v N x,Z p L t,V a9,Z S X U,V a7,V a8],O w0.heap.size b c 82 Gn a4,O w0.heap.size v x 60 (List Gv) (Q.map Rw.hdr),.qX w0.heap.size 59 (sz Gv) Q none,O w0.heap.size p t 65 Gi a5,O w0.heap.size S U 3 Int a6,.box b2 30 #[sn,sn,sn,sn],.box b1 26 #[Z m x0.a o,Z ab x0.b ac]] [.l m o J,.els a4 K,.mU Q N,.els a5 L,.els a6 X,.l m o x0.a,.l ab ac x0.b]∧nE fu x0 bU W J a9 a7 a8 K N L X=some aV) fu ⟨0,aa.a.a.a,aa.f,aa.c,aa.e,aa.a.a.b,A4,C4,Q4,aa.a.c,none,0,([]:List Rw),aa.a.b,none,0,[],aa.b,none,0,[],⟨r,r,r,r,y⟩,(a.dp [0,1,2,3,4,9,10]),j⟩ ?_)
  clear a j
  rintro ay f w ⟨W,J,a9,a7,a8,K,b,c,a4,N,v,x,Q,L,p,t,a5,X,S,U,a6,hf,a,j⟩ bz aW
  obtain ⟨bT,rfl⟩:=iA _ _ hf
  clear hf
  cases ay with
  | zero=>exact nn j
  | succ ay=>
   rw [nE] at j
   refine q (q (g (s (mi r) (s (Af r) (s (OJ r (a.bk 7 r) r) (s (lX Cq r) (s (qo r r) (s (kL r) ?_))))))))
   rcases iv j with ⟨az,j⟩|⟨az,j⟩
   ·rw [decide_eq_true az]
    refine kg r (s (mp r) (kg r (s (xn r) (kg r (s (yY r) (kg r (s (BM r (a.bk 0 r) r) (kg r (s (kD r r) (s (kr r r) (n ?_)))))))))))
    rcases iv j with ⟨aA,j⟩|⟨aA,j⟩
    ·refine jN (bt aA) (wk (q (oM (q (g (s (mp r) (s (mi r) (s (xn r) (s (Ab r) (lg (t_n a 0 [V W] r nO r r) fun bA a=>n (q (g (s (mp r) (s (mp r) (s (xn r) (s (pW r) (s (AX r) (s (PD r (a.bk 0 r) r) (nU (jP a [[sn]] ([([]:List Gv)]:List (List Gv)) (Qm r) r r (by decide) ⟨⟨none,0,r,om⟩,y⟩) ?_)))))))))))))))))))
     rintro _ bB ⟨bC,rfl,a⟩
     obtain ⟨aX,aY,j⟩:=bs j
     refine nU (VG 3 4 3 a r r (by decide) r EJ Es r (by decide) (Nat.le_refl _) r r (iy:=0) r aY) ?_
     rintro _ bD ⟨aZ,b0,bE,rfl,a⟩
     try dsimp only [List.set] at a
     refine s (xn r) (s (pW r) (s (AX r) (lg (t_n a 1 [Z aZ aX b0] r X3 r r) fun bF a=>n ?_)))
     obtain ⟨an,al,j⟩:=bs j
     obtain ⟨bG,b4,al⟩:=kJ al
     obtain ⟨bm,b5,a⟩:=a.nm 7 rfl al
     obtain ⟨ao,ap,aq,ar,rfl,aB,aC⟩:=lI.out b5
     replace a:=a.ku (d:=.l ao ap an.a) aB
     replace a:=a.ku (d:=.l aq ar an.e) aC
     obtain ⟨M,h,b7,j⟩:=lZ j
     obtain ⟨av,af,j⟩:=bs j
     obtain ⟨aD,ax,af⟩:=kJ af
     obtain ⟨au,ag,j⟩:=bs j
     obtain ⟨bh,bn,_,ag⟩:=uY ag
     obtain rfl:aD=bh:=by omega
     refine oq (fun f w=>∃ (A:OA)(B:Nat)(C:OA)(D:Nat)(E:OA)(F:Nat)(ai:LV)(u:List Rw) (H:LV)(I:LV),Has f [(1,Pt b1),(2,Pt b2),(5,Pt b6),(6,V W)]∧Bx w0 w bS G [.box b6 115 #[Z m h.a.a.a o,Z b au c,Z A h.a.c B,Z C h.a.b D,V h.f,Z E h.b F,V h.c,V h.e],O w0.heap.size b c 82 Gn ai,O w0.heap.size A B 60 (List Gv) (u.map Rw.hdr),.qX w0.heap.size 59 (sz Gv) u none,O w0.heap.size C D 65 Gi H,O w0.heap.size E F 3 Int I,.box b2 30 #[sn,sn,sn,sn],.box b1 26 #[Z m x0.a o,Z ab x0.b ac]] [.els ai au,.mU u h.a.c,.els H h.a.b,.els I h.b,.l m o x0.a,.l ab ac x0.b,.l m o h.a.a.a]) (fun Jd hJd=>?_) ?_
     ·refine Kr a [8] [0,1,2,10] [1,8] [0,1,2,10] [13,15] (by kernel_rfl) ?_
      replace a:=a.drew
      have hs:=(a.ad [8] [0,1,2,10])
      have hu:=(a.ad [1,8] [0,1,2,10])
      refine pL 0 r (mp r) hs hu (pL 1 r (xn r) hs hu (pL 2 r (pW r) hs hu (pL 3 r (FN r) hs hu (pL 4 r (Af r) hs hu (pL 6 r (mi r) hs hu (pL 7 r (mp r) hs hu (pL 8 r (Af r) hs hu (tU 9 r (fun _ hS=>OJ r (hS.bk 0 r) r) (nu hs hu) (pL 10 r (mi r) hs hu (pL 11 r (kW Cq nY r r b4 (a.dl 10 r) al) hs hu (tU 12 r (fun _ hS=>nN [T an.b,V an.f,Z ao an.a ap,Z aq an.e ar] Ez r nY r r (hS.dc 2 r)) (nu hs hu) (mH 5 [13] (by kernel_rfl) (jL ?_ (jL ?_ lH))))))))))))))
      ·have hs:=(a.ad [8] [0,1,2,10])
       have hu:=(a.ad [1,8] [0,1,2,10])
       refine uH r r (OJ r (a.bk 1 r) r) (nu hs hu) ?_
       have hc:=(AU fu) (a.pr [1,2,3,4,5,6] [0,7,8] [4,5,6,7,8,1,0] r) a.rD.size a.rD.size a.rD.size a.rD.size a.rD.size b7
       refine hO 13 (oc r r (ec Tv r) hc ?_)
       rintro _ bi ⟨Y,a0,a1,a2,A,B,u,C,D,H,E,F,I,rfl,hK⟩
       replace a:=a.cn [1,2,3,4,5,6] [0,7,8] hK
       have hs:=(a.ad [8] [7,8,9,17])
       refine ⟨(sy 13 hs),?_⟩
       obtain ⟨bo,b8,b9⟩:=(a.de 3 rfl).get af
       obtain ⟨aE,aF,aG,aH,rfl,aI,aJ⟩:=lI.out b9
       replace a:=a.ku (d:=.l aE aF av.a) aI
       replace a:=a.ku (d:=.l aG aH av.e) aJ
       refine tP 14 r (fun _=>kW Cq nY (congrArg (fun z=>Value.slice b z c) ((a.de 14 r).len.symm.trans (a.de 5 r).len)) r ax (a.vw 1 5 r r) af) (sy 13 hs) (hO 15 (os r r (JG a 1 5 aD 0 [T M.b,V M.f,Z Y M.a a0,Z a1 M.e a2] r r b8 nY r r r r r (show _=[T M.b,V M.f,Z Y M.a a0,Z a1 M.e a2] from r) (lI.inn ⟨Y,a0,a1,a2,r,(a.dl 2 r),(a.dl 3 r)⟩) ag) ?_))
       rintro bj ⟨ai,a⟩
       try dsimp only [List.set] at a
       have aj:h.a.a.b.length=au.length:=by rw [← ag,List.length_set]
       try dsimp only [Z] at a
       try rw [aj] at a
       try dsimp only [Z]
       try rw [aj]
       have hs:=(a.ad [8] [9,10,11,19])
       exact ⟨(sy 13 hs),(hD (hJd _ _ ⟨A,B,C,D,E,F,ai,u,H,I,⟨r,r,r,r,y⟩,(a.ad [0,1,2,3,4,5,7,8] [5,6,7,8,18,19,4])⟩))⟩
      have hc:=(AU fu) (a.pr [1,2,3,4,5,6] [0,7,8] [4,5,6,7,8,1,0] r) a.rD.size a.rD.size a.rD.size a.rD.size a.rD.size b7
      refine oc r r (ec Tv r) hc ?_
      rintro _ bi ⟨Y,a0,a1,a2,A,B,u,C,D,H,E,F,I,rfl,hK⟩
      replace a:=a.cn [1,2,3,4,5,6] [0,7,8] hK
      have hs:=(a.ad [8] [7,8,9,17])
      refine ⟨(sy 13 hs),(hO 5 (uH r r (OJ r (a.bk 0 r) r) (sy 13 hs) ?_))⟩
      obtain ⟨bp,ba,bb⟩:=(a.de 3 rfl).get af
      obtain ⟨aK,aL,aM,aN,rfl,aO,aP⟩:=lI.out bb
      replace a:=a.ku (d:=.l aK aL av.a) aO
      replace a:=a.ku (d:=.l aM aN av.e) aP
      refine tP 14 r (fun _=>kW Cq nY r r ax (a.vw 1 5 r r) af) (sy 13 hs) (hO 15 (os r r (JG a 1 5 aD 0 [T M.b,V M.f,Z Y M.a a0,Z a1 M.e a2] r r ba nY r r r r r (show _=[T M.b,V M.f,Z Y M.a a0,Z a1 M.e a2] from r) (lI.inn ⟨Y,a0,a1,a2,r,(a.dl 2 r),(a.dl 3 r)⟩) ag) ?_))
      rintro bj ⟨ai,a⟩
      try dsimp only [List.set] at a
      have aj:h.a.a.b.length=au.length:=by rw [← ag,List.length_set]
      try dsimp only [Z] at a
      try rw [aj] at a
      try dsimp only [Z]
      try rw [aj]
      have hs:=(a.ad [8] [9,10,11,19])
      exact ⟨(sy 13 hs),(hD (hJd _ _ ⟨A,B,C,D,E,F,ai,u,H,I,⟨r,r,r,r,y⟩,(a.ad [0,1,2,3,4,5,7,8] [5,6,7,8,18,19,4])⟩))⟩
     clear a
     rintro f w ⟨A,B,C,D,E,F,ai,u,H,I,hf,a⟩
     obtain ⟨bT,rfl⟩:=iA _ _ hf
     clear hf
     exact g (s (mi r) (s (kE r r) (s (xi r) (n (aW ay _ _ (Nat.lt_succ_self _) ⟨(wr (W+1)),h.a.a.a,h.f,h.c,h.e,au,b,c,ai,h.a.c,A,B,u,h.a.b,C,D,H,h.b,E,F,I,⟨r,r,r,r,y⟩,(a.dp [6,0,1,2,3,4,5]),j⟩)))))
    exact jK (bf aA) (tT (aw _ _ ⟨W,J,a9,a7,a8,K,b,c,a4,N,v,x,Q,L,p,t,a5,X,S,U,a6,⟨r,r,y⟩,a,sm j⟩))
   rw [decide_eq_false az]
   exact jC r (jC r (jC r (jC r (jC r (s (jY r r) (n (jK r (tT (aw _ _ ⟨W,J,a9,a7,a8,K,b,c,a4,N,v,x,Q,L,p,t,a5,X,S,U,a6,⟨r,r,y⟩,a,sm j⟩)))))))))
 clear a
 rintro f w ⟨W,J,a9,a7,a8,K,b,c,a4,N,v,x,Q,L,p,t,a5,X,S,U,a6,hf,a,bc⟩
 obtain ⟨bT,rfl⟩:=iA _ _ hf
 clear hf
 subst bc
 replace hM:=gi hM
 replace hM:=Bh (mG (mG hM))
 refine q (q (g (s (mp r) (s (xn r) (s (yY r) (s (BM r (a.bk 0 r) r) (s (rY r r) (n ?_))))))))
 rcases iv hM with ⟨aQ,hM⟩|⟨aQ,hM⟩
 ·refine jN (bt aQ) (q (pX a [0] [] [] (by kernel_rfl) ?_))
  replace a:=a.drew
  have hs:=(a.ad [0] [])
  refine pF 0 r (SV) hs (pF 1 r (mp r) hs (pF 2 r (xn r) hs (pF 3 r (Pz r) hs (uF 4 r (fun hS=>l3 r (hS.bk 0 r) r) hs (pF 5 r (mp r) hs (pF 6 r (xn r) hs (pF 7 r (yY r) hs (uF 8 r (fun hS=>BM r (hS.bk 0 r) r) hs (hO 9 (os r r (nX a 6 [sn,sn,sn,sn] r xD r r) fun bH a=>?_))))))))))
  have hs:=(a.ad [0] [])
  refine ⟨(sF hs),(pF 10 r (xi r) hs (pF 11 r (xi r) hs (hD (kT ?_))))⟩
  replace a:=a.ku (d:=.l none 0 ([]:List Gr)) om
  replace a:=a.ku (d:=.l none 0 ([]:List Gn)) om
  replace a:=a.ku (d:=.l none 0 ([]:List (List Gv))) om
  replace a:=a.ku (d:=.l none 0 ([]:List Gi)) om
  obtain rfl:=sm hM
  exact xH r (tV r Ep r xD r (a.bk 6 r)) (lq r) (lq r) (mM (mM (⟨none,0,none,0,none,0,none,0,r,(a.ad [] [3,2,1,0])⟩)))
 refine jK (bf aQ) (wk (q (g (s (mp r) (s (xn r) (s (pW r) (s (ng [Z m J o,Z b K c,Z v N x,Z p L t] Ep xD r (a.bk 0 r)) (lg (nX a 6 [Z m J o,Z b K c,Z v N x,Z p L t] r xD r r) fun bI a=>s (xi r) (s (xi r) (n (kT ?_)))))))))))
 replace a:=a.fz 1 1 r r
 replace a:=a.arr [1,2,0,3,4,5,6] r
 try dsimp only [pick,nth,ca,na] at a
 replace a:=a.Zp 2 r
 try dsimp only [List.eraseIdx] at a
 replace a:=a.fz 1 3 r r
 obtain rfl:=sm hM
 exact xH r (tV r Ep r xD r (a.bk 2 r)) (lq r) (lq r) (mM (mM (⟨m,o,b,c,v,x,p,t,r,(a.ad [] [3,2,1,0])⟩)))
end
end Go.Proofs.Ytfglbdkfnphjgaa
