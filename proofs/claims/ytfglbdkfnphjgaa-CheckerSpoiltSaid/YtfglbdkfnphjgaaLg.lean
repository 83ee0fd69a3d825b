/- Contracts, printed by gen3.py. -/
import Derived.Test.YtfglbdkfnphjgaaZt
import Derived.Test.YtfglbdkfnphjgaaLf
set_option linter.unusedVariables false
set_option maxHeartbeats 12800000
set_option linter.unusedSimpArgs false
set_option maxRecDepth 4000
namespace Go.Proofs.Ytfglbdkfnphjgaa
open Go.RowKit Go.Fw
noncomputable section
abbrev qV:=fV→(List jM)→Option ((List jM) × fV)
abbrev sU:=fV→jM→Option (jM × fV)
def yc (m:Gt→(List Gs)→Option ((List Gs) × Gt)):Prop:=∀ {w0:World} {a4:Nat→Prop} {k:Gt} {x1:(List Gs)} {a1:Nat} {d:Option Addr} {h:Nat} {a:Option Addr} {b:Nat} {i:List (List Value)} {o:Nat} {p:Option Addr} {t:Nat} {j:List Rw} {u:Nat} {x:Nat} {z:Option Addr} {A:Nat} {G:List (List Value)} {B:Nat} {C:Option Addr} {D:Nat} {H:List (List Value)} {E:Nat} {S:Option Addr} {U:Nat} {R:(List Gs) × Gt},Pre w0 a4 [.box a1 115 #[Z d k.a.a.a h,Z a k.a.a.b b,Z p k.a.c t,Z z k.a.b A,V k.f,Z C k.b D,V k.c,V k.e],O o a b 82 Gn i,O u p t 60 (List Gv) (j.map Rw.hdr),.tN x 59 (sz Gv) j none,O B z A 65 Gi G,O E C D 3 Int H] [.l d h k.a.a.a,.els i k.a.a.b,.nN j k.a.c,.els G k.a.b,.els H k.b,.l S U x1]→o≤w0.heap.size→u≤w0.heap.size→x≤w0.heap.size→B≤w0.heap.size→E≤w0.heap.size→m k x1=some R→
 Calls Try.prog 74 #[Pt a1,Z S x1 U] w0 (rf fun v w=>iA R fun r0 c=>∃ (W:OA)(X:Nat)(Y:LV)(I:OA)(J:Nat)(F:List Rw) (K:OA)(L:Nat)(M:LV)(N:OA)(P:Nat)(Q:LV),v=Z W r0 X∧Bx w0 w a4 (lT [.box a1 115 #[Z d k.a.a.a h,Z a k.a.a.b b,Z p k.a.c t,Z z k.a.b A,V k.f,Z C k.b D,V k.c,V k.e],O o a b 82 Gn i,O u p t 60 (List Gv) (j.map Rw.hdr),.tN x 59 (sz Gv) j none,O B z A 65 Gi G,O E C D 3 Int H]) [O w0.heap.size W X 111 Gs Y,.box a1 115 #[Z d c.a.a.a h,Z a c.a.a.b b,Z I c.a.c J,Z K c.a.b L,V c.f,Z N c.b P,V c.c,V c.e],O o a b 82 Gn i,O u I J 60 (List Gv) (F.map Rw.hdr),.tN x 59 (sz Gv) F none,O B K L 65 Gi M,O E N P 3 Int Q] [.els Y r0,.l d h c.a.a.a,.els i c.a.a.b,.nN F c.a.c,.els M c.a.b,.els Q c.b])
def AU (m:Gt→Gs→Option (Gs × Gt)):Prop:=∀ {w0:World} {ag:Nat→Prop} {k:Gt} {G:Gs} {ae:Nat} {d:Option Addr} {h:Nat} {a:Option Addr} {b:Nat} {i:List (List Value)} {o:Nat} {p:Option Addr} {t:Nat} {j:List Rw} {u:Nat} {x:Nat} {z:Option Addr} {A:Nat} {I:List (List Value)} {B:Nat} {C:Option Addr} {D:Nat} {J:List (List Value)} {E:Nat} {W:Option Addr} {X:Nat} {Y:Option Addr} {a0:Nat} {a1:Option Addr} {a2:Nat} {a3:Option Addr} {a4:Nat} {R:Gs × Gt},Pre w0 ag [.box ae 115 #[Z d k.a.a.a h,Z a k.a.a.b b,Z p k.a.c t,Z z k.a.b A,V k.f,Z C k.b D,V k.c,V k.e],O o a b 82 Gn i,O u p t 60 (List Gv) (j.map Rw.hdr),.tN x 59 (sz Gv) j none,O B z A 65 Gi I,O E C D 3 Int J] [.l d h k.a.a.a,.els i k.a.a.b,.nN j k.a.c,.els I k.a.b,.els J k.b,.l W X G.d,.l Y a0 G.b,.l a1 a2 G.f,.l a3 a4 G.i]→o≤w0.heap.size→u≤w0.heap.size→x≤w0.heap.size→B≤w0.heap.size→E≤w0.heap.size→m k G=some R→
 Calls Try.prog 99 #[Pt ae,.agg #[V G.e,V G.c,V G.n,T G.a,T G.g,V G.m,V G.j,Z W G.d X,T G.k,V G.h,Z Y G.b a0,Z a1 G.f a2,Z a3 G.i a4]] w0 (rf fun v w=>iA R fun H c=>∃ (a5:OA)(a6:Nat)(a7:OA)(a8:Nat)(a9:OA)(aa:Nat)(ab:OA)(ac:Nat)(K:OA)(L:Nat)(F:List Rw) (M:OA)(N:Nat)(P:LV)(Q:OA)(S:Nat)(U:LV),v=.agg #[V H.e,V H.c,V H.n,T H.a,T H.g,V H.m,V H.j,Z a5 H.d a6,T H.k,V H.h,Z a7 H.b a8,Z a9 H.f aa,Z ab H.i ac]∧Bx w0 w ag (lT [.box ae 115 #[Z d k.a.a.a h,Z a k.a.a.b b,Z p k.a.c t,Z z k.a.b A,V k.f,Z C k.b D,V k.c,V k.e],O o a b 82 Gn i,O u p t 60 (List Gv) (j.map Rw.hdr),.tN x 59 (sz Gv) j none,O B z A 65 Gi I,O E C D 3 Int J]) [.box ae 115 #[Z d c.a.a.a h,Z a c.a.a.b b,Z K c.a.c L,Z M c.a.b N,V c.f,Z Q c.b S,V c.c,V c.e],O o a b 82 Gn i,O u K L 60 (List Gv) (F.map Rw.hdr),.tN x 59 (sz Gv) F none,O B M N 65 Gi P,O E Q S 3 Int U] [.l a5 a6 H.d,.l a7 a8 H.b,.l a9 aa H.f,.l ab ac H.i,.l d h c.a.a.a,.els i c.a.a.b,.nN F c.a.c,.els P c.a.b,.els U c.b])
def mq (fu:Nat)(r_r04_block:qV) (r_r04_stmt:sU):List Gs→Nat→(List Gs)→(List Gr)→Int→Int→Int→(List Gn)→(List (List Gv))→(List Gi)→(List Int)→Option (Ld (List Gs × List Gr × Int × Int × Int × List Gn × List (List Gv) × List Gi × List Int) ((List Gs) × Gt))
 | [],_,c,d,h,i,b,j,k,l,m=>some (.go (c,d,h,i,b,j,k,l,m))
 | p :: t,u,c,d,h,i,b,j,k,l,m=>
 if b≠0 then
  some (.go (c,d,h,i,b,j,k,l,m))
 else
  (r_r04_stmt (⟨(⟨(⟨d,j⟩:jJ),k,l⟩:jW),h,m,i,b⟩:Gt) p).bind fun w=>
  iA w fun o a=>
  (app c ([o]:List Gs)).bind fun v=>
  mq fu r_r04_block r_r04_stmt t (u+1) v a.a.a.a a.f a.c a.e a.a.a.b a.a.c a.a.b a.b
def lI (fu:Nat)(r_r04_block:qV) (r_r04_stmt:sU) (c:Int)(d:List Gi):List Int→Nat→(List (List Gv))→Option (Ld (List (List Gv)) ((List Gs) × Gt))
 | [],_,a=>some (.go a)
 | e :: h,i,a=>
 (ix a c).bind fun f=>
 (ix f e).bind fun b=>
 (st f e (⟨b.a,b.e,b.b,b.f,b.c,b.d,(wr ((d.length:Int) - 1))⟩:Gv)).bind fun j=>
 (st a c j).bind fun k=>
 lI fu r_r04_block r_r04_stmt c d h (i+1) k
def pz (fu:Nat)(r_r04_block:qV) (r_r04_stmt:sU) (b:Gt) (w:(List Gs)):Option ((List Gs) × Gt):=
 (mq fu r_r04_block r_r04_stmt w 0 ([]:List Gs) b.a.a.a b.f b.c b.e b.a.a.b b.a.c b.a.b b.b).bind fun x=>x.el (fun x=>
 iA x fun i x=>iA x fun j x=>iA x fun c x=>iA x fun k x=>iA x fun l x=>iA x fun m x=>iA x fun p x=>iA x fun d a=>
 (sl a (b.b.length:Int) (a.length:Int)).bind fun t=>
 (lI fu r_r04_block r_r04_stmt c d t 0 p).bind fun x=>x.el (fun h=>
 (sl a 0 (b.b.length:Int)).bind fun u=>
 (app ([]:List Int) u).bind fun v=>
 some (i,(⟨(⟨(⟨j,m⟩:jJ),h,d⟩:jW),c,v,k,l⟩:Gt))
 ) (fun o=>some o)
 ) (fun o=>some o)
def wQ (fu:Nat)(r_r04_block:qV) (r_r04_stmt:sU) (b:Gt) (a:Gs) (j:List Gi):Option (Ld (Int × Int × Int) (Gs × Gt)):=
 if 0 < a.m then
  some (.go (3,(-1),a.m))
 else
  if ¬ a.g=(⟨#[]⟩:BA) then
   (qE fu (⟨(⟨b.a.a,b.a.c,j⟩:jW),b.f,b.b,b.c,b.e⟩:Gt) a.g).bind fun k=>
   iA k fun c d=>
   if (!d)=true then
    (lh fu (⟨(⟨b.a.a,b.a.c,j⟩:jW),b.f,b.b,b.c,b.e⟩:Gt) a.c 8).bind fun h=>
    some (.out ((⟨a.e,a.c,(b.a.b.length:Int),a.a,a.g,a.m,a.j,a.d,a.k,a.h,a.b,a.f,a.i⟩:Gs),h))
   else
    (ix b.a.a.a c).bind fun i=>
    some (.go (2,c,(i.b.length:Int)))
  else
   some (.go (1,(-1),1))
def uE (fu:Nat)(r_r04_block:qV) (r_r04_stmt:sU) (a:Gt) (c:Gs) (l:List Gi):Option (Ld (List Gr × Int × Int × Int × List Gn × List (List Gv) × List Gi × List Int) (Gs × Gt)):=
 if c.e=1 then
  (wQ fu r_r04_block r_r04_stmt a c l).bind fun p=>p.el (fun p=>
  iA p fun d p=>iA p fun h i=>
  (nR fu (⟨(⟨a.a.a,a.a.c,l⟩:jW),a.f,a.b,a.c,a.e⟩:Gt) c.c (⟨c.a,d,h,i,false,(wr ((a.a.b.length:Int)+1)),0⟩:Gv)).bind fun p=>
  iA p fun j k=>
  some (.out ((⟨c.e,c.c,(a.a.b.length:Int),c.a,c.g,c.m,j,c.d,c.k,c.h,c.b,c.f,c.i⟩:Gs),k))
  ) (fun o=>some (.out o))
 else
  if c.e=3 then
   if 0 < (c.d.length:Int) then
    (ix c.d 0).bind fun m=>
    if m.e≠1 then
     (lh fu (⟨(⟨a.a.a,a.a.c,l⟩:jW),a.f,a.b,a.c,a.e⟩:Gt) c.c 10).bind fun b=>
     some (.go (b.a.a.a,b.f,b.c,b.e,b.a.a.b,b.a.c,b.a.b,b.b))
    else
     some (.go (a.a.a.a,a.f,a.c,a.e,a.a.a.b,a.a.c,l,a.b))
   else
    some (.go (a.a.a.a,a.f,a.c,a.e,a.a.a.b,a.a.c,l,a.b))
  else
   some (.go (a.a.a.a,a.f,a.c,a.e,a.a.a.b,a.a.c,l,a.b))
def wP (fu:Nat)(r_r04_block:qV) (r_r04_stmt:sU) (i:Gt) (d:Gs) (h:(List Ge)) (b:Gt):Option (Ld (List Gr × Int × Int × Int × List Gn × List (List Gv) × List Gi × List Int × Int × Int × Int × BA × BA × Int × Int × List Ge × BA × Int × List Ge × List Gs × List Gs) (Gs × Gt)):=
 if ¬ d.k=(⟨#[]⟩:BA) then
  (oV fu b (⟨d.e,d.c,(i.a.b.length:Int),d.a,d.g,d.m,d.j,h,d.k,d.h,d.b,d.f,d.i⟩:Gs)).bind fun j=>
  iA j fun c a=>
  some (.go (c.a.a.a,c.f,c.c,c.e,c.a.a.b,c.a.c,c.a.b,c.b,a.e,a.c,a.n,a.a,a.g,a.m,a.j,a.d,a.k,a.h,a.b,a.f,a.i))
 else
  some (.go (b.a.a.a,b.f,b.c,b.e,b.a.a.b,b.a.c,b.a.b,b.b,d.e,d.c,(i.a.b.length:Int),d.a,d.g,d.m,d.j,h,d.k,d.h,d.b,d.f,d.i))
def wL (fu:Nat)(r_r04_block:qV) (r_r04_stmt:sU) (c:Int)(a:Gt):Option (Ld (List (List Gv)) (Gs × Gt)):=
 if a.e=0 then
  (ix a.a.c a.f).bind fun d=>
  (ix d c).bind fun b=>
  (st d c (⟨b.a,b.e,b.b,b.f,b.c,b.d,(wr ((a.a.b.length:Int) - 1))⟩:Gv)).bind fun h=>
  (st a.a.c a.f h).bind fun i=>
  some (.go i)
 else
  some (.go a.a.c)
def mW (fu:Nat)(r_r04_block:qV) (r_r04_stmt:sU) (h:Int)(c:Int)(j:Int)(d:BA) (k:BA) (l:Int)(m:List Ge) (p:BA) (t:Int)(u:List Gs) (v:(List Ge)) (w:(List Gs)) (b:Gt):Option (Ld (Unit) (Gs × Gt)):=
 if h=8 then
  if b.e=0 then
   (app ([]:List Int) b.b).bind fun B=>
   (nR fu b c (⟨d,1,(-1),1,false,(b.a.b.length:Int),0⟩:Gv)).bind fun C=>
   iA C fun i x=>
   (r_r04_block x u).bind fun C=>
   iA C fun z a=>
   (wL fu r_r04_block r_r04_stmt i a).bind fun C=>C.el (fun A=>
   some (.out ((⟨h,c,j,d,k,l,i,m,p,t,v,w,z⟩:Gs),(⟨(⟨a.a.a,A,a.a.b⟩:jW),a.f,B,a.c,a.e⟩:Gt)))
   ) (fun o=>some (.out o))
  else
   some (.go ())
 else
  some (.go ())
def sV (fu:Nat)(r_r04_block:qV) (r_r04_stmt:sU) (z:Gt) (a:Gs):Option (Gs × Gt):=
 if 200≤(z.a.b.length:Int) then
  (lh fu z a.c 5).bind fun Y=>
  some ((⟨a.e,a.c,(z.a.b.length:Int),a.a,a.g,a.m,a.j,a.d,a.k,a.h,a.b,a.f,a.i⟩:Gs),Y)
 else
  (app z.a.b ([(⟨z.f,a.e,a.c⟩:Gi)]:List Gi)).bind fun r8=>
  (uE fu r_r04_block r_r04_stmt z a r8).bind fun a1=>a1.el (fun a1=>
  iA a1 fun A a1=>iA a1 fun B a1=>iA a1 fun C a1=>iA a1 fun D a1=>iA a1 fun E a1=>iA a1 fun F a1=>iA a1 fun G H=>
  (mG fu (⟨(⟨(⟨A,E⟩:jJ),F,G⟩:jW),B,H,C,D⟩:Gt) a.d a.c).bind fun a1=>
  iA a1 fun I J=>
  (wP fu r_r04_block r_r04_stmt z a I J).bind fun a1=>a1.el (fun a1=>
  iA a1 fun K a1=>iA a1 fun L a1=>iA a1 fun M a1=>iA a1 fun N a1=>iA a1 fun P a1=>iA a1 fun Q a1=>iA a1 fun R a1=>iA a1 fun S a1=>iA a1 fun m a1=>iA a1 fun b a1=>iA a1 fun c a1=>iA a1 fun d a1=>iA a1 fun e a1=>iA a1 fun h a1=>iA a1 fun v a1=>iA a1 fun i a1=>iA a1 fun j a1=>iA a1 fun k a1=>iA a1 fun w a1=>iA a1 fun x l=>
  (mG fu (⟨(⟨(⟨K,P⟩:jJ),Q,R⟩:jW),L,S,M,N⟩:Gt) w b).bind fun a1=>
  iA a1 fun p U=>
  (r_r04_block U x).bind fun a1=>
  iA a1 fun t u=>
  (mW fu r_r04_block r_r04_stmt m b c d e h i j k l p t u).bind fun a1=>a1.el (fun _=>
  (r_r04_block u l).bind fun a1=>
  iA a1 fun W X=>
  some ((⟨m,b,c,d,e,h,v,i,j,k,p,t,W⟩:Gs),X)
  ) (fun o=>some o)
  ) (fun o=>some o)
  ) (fun o=>some o)
def vv:Nat→(Gt→(List Gs)→Option ((List Gs) × Gt)) × (Gt→Gs→Option (Gs × Gt))
 | 0=>((fun _ _=>none),(fun _ _=>none))
 | fu+1=>(pz fu ((vv fu).1) ((vv fu).2),sV fu ((vv fu).1) ((vv fu).2))
def kR (fu:Nat):=(vv fu).1
def qc (fu:Nat):=(vv fu).2
theorem Ka (fu:Nat)(r_r04_block:qV) (r_r04_stmt:sU) (H_r04_block:yc r_r04_block) (H_r04_stmt:AU r_r04_stmt):yc (pz fu r_r04_block r_r04_stmt):=by
 intro w0 d6 x0 x1 ai W X M N a2 ac aH aI aJ ae af aK aL b7 ag aM aN b9 a8 am an R hP bj bl bm bn aP hM
 unfold pz at hM
 have a:=hP.bx
 clear hP
 generalize hG:lT _=G at a ⊢
 refine cf Try.func74 r (ma [(0,Pt ai),(1,Z am x1 an)] ⟨r,r,y⟩ fun d7=>q (g (s (nJ r) (n (q (g (s (nJ r) (n (q (g (s (mp r) (s (xn r) (s (Ba r) (s (Ko r (a.bk 0 r) r) (s (lg vE r) (s (xi r) (n (q (q (g (s (mD r) (s (lg yH r) (s (mi r) (n ?_))))))))))))))))))))))))
 replace a:=a.BQ Gs 111
 have cE:=(a.dl 6 r).bd
 obtain ⟨Y1,a6,hM⟩:=bs hM
 refine oC (fun f w=>∃ (Q:List Gs) (p:OA)(t:Nat)(u:LV)(J:List Gr) (a1:Int)(a3:Int)(a4:Int)(K:List Gn) (a5:List (List Gv)) (Y:OA)(a0:Nat)(H:List Rw) (v:List Gi) (m:OA)(o:Nat)(x:LV)(L:List Int) (b:OA)(c:Nat)(F:LV),Has f [(0,Pt ai),(5,Z p Q t),(6,V (x0.b.length:Int))]∧Bx w0 w d6 G [O w0.heap.size p t 111 Gs u,.box ai 115 #[Z W J X,Z M K N,Z Y a5 a0,Z m v o,V a1,Z b L c,V a3,V a4],O ac M N 82 Gn a2,O ae Y a0 60 (List Gv) (H.map Rw.hdr),.tN af 59 (sz Gv) H none,O ag m o 65 Gi x,O a8 b c 3 Int F] [.l W X J,.els u Q,.els a2 K,.nN H a5,.els x v,.els F L,.l am an x1]∧Ld.go (Q,J,a1,a3,a4,K,a5,v,L)=Y1) (fun J1 bH=>?_) ?_
 ·refine nZ (kH (fun d8 f w=>∃ (k1:Nat)(Q:List Gs) (p:OA)(t:Nat)(u:LV)(J:List Gr) (a1:Int)(a3:Int)(a4:Int)(K:List Gn) (a5:List (List Gv)) (Y:OA)(a0:Nat)(H:List Rw) (v:List Gi) (m:OA)(o:Nat)(x:LV)(L:List Int) (b:OA)(c:Nat)(F:LV),d8=x1.length - k1∧k1≤x1.length∧Has f [(18,V (k1:Int)),(0,Pt ai),(5,Z p Q t),(6,V (x0.b.length:Int)),(16,Z am x1 an),(17,V (x1.length:Int))]∧Bx w0 w d6 G [O w0.heap.size p t 111 Gs u,.box ai 115 #[Z W J X,Z M K N,Z Y a5 a0,Z m v o,V a1,Z b L c,V a3,V a4],O ac M N 82 Gn a2,O ae Y a0 60 (List Gv) (H.map Rw.hdr),.tN af 59 (sz Gv) H none,O ag m o 65 Gi x,O a8 b c 3 Int F] [.l W X J,.els u Q,.els a2 K,.nN H a5,.els x v,.els F L,.l am an x1]∧mq fu r_r04_block r_r04_stmt (x1.drop k1) k1 Q J a1 a3 a4 K a5 v L=some Y1) (x1.length) ⟨0,([]:List Gs),none,0,[],x0.a.a.a,x0.f,x0.c,x0.e,x0.a.a.b,x0.a.c,aH,aI,aJ,x0.a.b,aK,aL,b7,x0.b,aM,aN,b9,r,Nat.zero_le _,⟨r,r,r,r,r,r,y⟩,(a.dp [1,0,2,3,4,5,6]),a6⟩ ?_)
  clear a a6
  rintro d8 f w ⟨k1,Q,p,t,u,J,a1,a3,a4,K,a5,Y,a0,H,v,m,o,x,L,b,c,F,rfl,cF,hf,a,a6⟩ K1 cc
  obtain ⟨d7,rfl⟩:=gP _ _ hf
  clear hf
  rcases Nat.lt_or_ge k1 x1.length with bI | bI
  ·obtain ⟨E,bz⟩:=lL (l:=x1) bI
   rw [mQ bz,mq] at a6
   obtain ⟨cG,cd,a⟩:=a.nm 6 rfl bz
   obtain ⟨ap,aq,ar,au,av,aw,ax,ay,rfl,bJ,bK,bL,bM⟩:=jM.out cd
   replace a:=a.ku (d:=.l ap aq E.d) bJ
   replace a:=a.ku (d:=.l ar au E.b) bK
   replace a:=a.ku (d:=.l av aw E.f) bL
   replace a:=a.ku (d:=.l ax ay E.i) bM
   refine q (g (s (qK r r (by omega)) (n (q (jH r (wk (q (nZ (q (g (s (kZ yH jP r r r (a.dl 11 r) bz) (s (oL [V E.e,V E.c,V E.n,T E.a,T E.g,V E.m,V E.j,Z ap E.d aq,T E.k,V E.h,Z ar E.b au,Z av E.f aw,Z ax E.i ay] lG r jP r r (a.dc 4 r)) (tL a (ko jP) fun w4 b4 a=>lu (nD a 0 [V E.e,V E.c,V E.n,T E.a,T E.g,V E.m,V E.j,Z ap E.d aq,T E.k,V E.h,Z ar E.b au,Z av E.f aw,Z ax E.i ay] r jP r r) fun w5 a=>n (q (q (g (s (mp r) (s (xn r) (s (zL r) (s (CW r (a.bk 2 r) r) (s (mI r r) (n ?_))))))))))))))))))))))
   rcases iv a6 with ⟨h6,a6⟩|⟨h6,a6⟩
   ·exact jH (bt h6) (uW (bH _ _ ⟨Q,p,t,u,J,a1,a3,a4,K,a5,Y,a0,H,v,m,o,x,L,b,c,F,⟨r,r,r,y⟩,(a.ad [1,2,3,4,5,6,7] [5,6,7,8,9,10,11]),sm a6⟩))
   refine jI (bf h6) (wk (g (s (mD r) (s (mp r) (s (mE [V E.e,V E.c,V E.n,T E.a,T E.g,V E.m,V E.j,Z ap E.d aq,T E.k,V E.h,Z ar E.b au,Z av E.f aw,Z ax E.i ay] lG jP r (a.bk 0 r)) ?_)))))
   obtain ⟨U,ab,h7,a6⟩:=lV a6
   have hc:=H_r04_stmt (a.pr [2,3,4,5,6,7] [0,1] [5,7,8,9,10,3,2,1,0] r) (a.le bj) (a.le bl) (a.le bm) (a.le bn) (a.le aP) h7
   refine sc (ec Ue r) hc ?_
   rintro _ w7 ⟨az,aA,aB,aC,aD,aE,aF,aG,aX,aY,aZ,b0,b1,b2,b3,b5,b6,rfl,hK⟩
   replace a:=a.cn [2,3,4,5,6,7] [0,1] hK
   refine qF (jV a [[V U.e,V U.c,V U.n,T U.a,T U.g,V U.m,V U.j,Z az U.d aA,T U.k,V U.h,Z aB U.b aC,Z aD U.f aE,Z aF U.i aG]] ([U]:List Gs) (tH r) r r (by decide) ⟨(jM.tQ ⟨az,aA,aB,aC,aD,aE,aF,aG,r,(a.dl 0 r),(a.dl 1 r),(a.dl 2 r),(a.dl 3 r)⟩),y⟩) ?_
   rintro _ w8 ⟨b8,rfl,a⟩
   obtain ⟨r9,cg,a6⟩:=bs a6
   refine qF (kS a 8 16 r r yH jP r (by decide) (by decide) (Nat.le_refl _) r r (a.AJ 0 0 r r) cg) ?_
   rintro _ w9 ⟨A9,C9,Q9,rfl,a⟩
   exact s (nJ r) (n (g (s (mg r r (by omega) (by omega)) (s (mi r) (n (cc (x1.length - (k1+1)) _ _ (by omega) ⟨k1+1,r9,A9,C9,Q9,ab.a.a.a,ab.f,ab.c,ab.e,ab.a.a.b,ab.a.c,aX,aY,aZ,ab.a.b,b0,b1,b2,ab.b,b3,b5,b6,r,by omega,⟨r,r,r,r,r,r,y⟩,(a.ad [8,1,2,3,4,5,6] [5,16,6,7,8,9,21]),a6⟩))))))
  obtain rfl:k1=x1.length:=by omega
  rw [lH,mq] at a6
  exact q (g (s (qL r r (by omega)) (n (q (jI r (uW (bH _ _ ⟨Q,p,t,u,J,a1,a3,a4,K,a5,Y,a0,H,v,m,o,x,L,b,c,F,⟨r,r,r,y⟩,a,sm a6⟩)))))))
 clear a
 rintro f w ⟨Q,p,t,u,J,a1,a3,a4,K,a5,Y,a0,H,v,m,o,x,L,b,c,F,hf,a,ch⟩
 obtain ⟨d7,rfl⟩:=gP _ _ hf
 clear hf
 subst ch
 replace hM:=gi hM
 replace hM:=Ak (mf (mf hM))
 refine q (q (g (s (mp r) (s (xn r) (s (Ba r) (s (Ko r (a.bk 1 r) r) (s (mi r) ?_)))))))
 obtain ⟨a9,bN,hM⟩:=bs hM
 obtain ⟨ao,ci,bO,cx,aO,ba,aQ⟩:=AX bN
 have bA:a9.length=ci - ao:=by rw [← aQ,List.length_take,List.length_drop];omega
 obtain ⟨bB,aR⟩:∃ A,(if c=ao then b else b.map (·.add (ao * sz Int)))=A:=⟨_,rfl⟩
 obtain ⟨bC,aS⟩:∃ C,(c - ao)=C:=⟨_,rfl⟩
 have bP:Value.slice (if c=ao then b else b.map (·.add (ao * sz Int))) (L.length - ao) (c - ao)=Value.slice bB a9.length bC:=by rw [bA,← aR,← aS];simp;try omega
 refine s (show Yl _ _ _ _ _ _ _ _ _ (.slice bB a9.length bC) from bP ▸ Rh ao vE pJ r r bO (by omega)) (s (lg vE r) (s (mi r) (n ?_)))
 have cy:=(ll.Ji (a.vw 6 5 r r) aO ba aQ aR aS).bd
 obtain ⟨bQ,S,hM⟩:=bs hM
 refine oC (fun f w=>∃ (I:List (List Gv)) (B:OA)(D:Nat)(j:List Rw),Has f [(0,Pt ai),(5,Z p Q t),(6,V (x0.b.length:Int))]∧Bx w0 w d6 G [O w0.heap.size p t 111 Gs u,.box ai 115 #[Z W J X,Z M K N,Z B I D,Z m v o,V a1,Z b L c,V a3,V a4],O ac M N 82 Gn a2,O ae B D 60 (List Gv) (j.map Rw.hdr),.tN af 59 (sz Gv) j none,O ag m o 65 Gi x,O a8 b c 3 Int F] [.l W X J,.els u Q,.els a2 K,.nN j I,.els x v,.els F L]∧Ld.go I=bQ) (fun cN bR=>?_) ?_
 ·refine nZ (kH (fun d8 f w=>∃ (aj:Nat)(I:List (List Gv)) (B:OA)(D:Nat)(j:List Rw),d8=a9.length - aj∧aj≤a9.length∧Has f [(41,V (aj:Int)),(0,Pt ai),(5,Z p Q t),(6,V (x0.b.length:Int)),(39,Z bB a9 bC),(40,V (a9.length:Int))]∧Bx w0 w d6 G [O w0.heap.size p t 111 Gs u,.box ai 115 #[Z W J X,Z M K N,Z B I D,Z m v o,V a1,Z b L c,V a3,V a4],O ac M N 82 Gn a2,O ae B D 60 (List Gv) (j.map Rw.hdr),.tN af 59 (sz Gv) j none,O ag m o 65 Gi x,O a8 b c 3 Int F] [.l W X J,.els u Q,.els a2 K,.nN j I,.els x v,.els F L]∧lI fu r_r04_block r_r04_stmt a1 v (a9.drop aj) aj I=some bQ) (a9.length) ⟨0,a5,Y,a0,H,r,Nat.zero_le _,⟨r,r,r,r,r,r,y⟩,(a.dp [0,1,2,3,4,5]),S⟩ ?_)
  clear a S
  rintro d8 f w ⟨aj,I,B,D,j,rfl,cz,hf,a,S⟩ cO bS
  obtain ⟨d7,rfl⟩:=gP _ _ hf
  clear hf
  rcases Nat.lt_or_ge aj a9.length with bq | bq
  ·obtain ⟨cj,bb⟩:=lL (l:=a9) bq
   rw [mQ bb,lI] at S
   refine q (g (s (qK r r (by omega)) (n (q (jH r (wk (q (nZ (q (g (s (kZ vE pJ r r r (ll.Ji (a.vw 6 5 r r) aO ba aQ aR aS) bb) (s (kz EU r r ((vo (ds:=[V cj]) (ll.Ji (a.vw 6 5 r r) aO ba aQ aR aS) bb (fun _ h=>h)) 0 _ r)) (s (xi r) (n ?_))))))))))))))
   obtain ⟨ck,bc,S⟩:=bs S
   obtain ⟨bD,bT,bc⟩:=kG bc
   replace a:=a.arr [4,0,1,2,3,5,6] r
   try dsimp only [pick,nth,ca,na] at a
   obtain ⟨bU,bV,cP,bg,bW,a⟩:=a.Sd 3 rfl bc
   refine Fa a [1,3,5] [4] [0,1,3,5] [0,4] [21] (by kernel_rfl) ?_
   replace a:=a.drew
   have hs:=(a.ad [1,3,5] [4])
   have hu:=(a.ad [0,1,3,5] [0,4])
   refine pL 0 r (mp r) hs hu (pL 1 r (xn r) hs hu (pL 2 r (qU r) hs hu (pL 3 r (vV r) hs hu (tU 4 r (fun _ hS=>Ih r (hS.bk 1 r) r) (mH hs hu) (pL 5 r (mp r) hs hu (pL 6 r (xn r) hs hu (pL 7 r (AV r) hs hu (tU 8 r (fun _ hS=>l3 r (hS.bk 1 r) r) (mH hs hu) (pL 9 r (La Bd Br r r bT (a.bo 5 r) bg (a.d2 4 r).len) hs hu (tU 10 r (fun _ hS=>kz uZ r r (hS.hc 2 r bg bW 0 _ r)) (mH hs hu) (pL 11 r (mi r) hs hu (pL 12 r (mp r) hs hu (pL 13 r (xn r) hs hu (pL 14 r (qU r) hs hu (pL 15 r (zT r) hs hu (tU 16 r (fun _ hS=>MJ r (hS.bk 1 r) r) (mH hs hu) (pL 17 r (lg Ca r) hs hu (pL 18 r (xU r r) hs hu ?_))))))))))))))))))
   obtain ⟨aa,aT,S⟩:=bs S
   obtain ⟨bX,bY,aT⟩:=kG aT
   refine pL 19 r (kZ uZ wz r r bY (a.vw 0 0 r r) aT) hs hu (pL 20 r (IY r) hs hu ?_)
   obtain ⟨cm,aU,S⟩:=bs S
   obtain ⟨cn,cA,_,aU⟩:=A7 aU
   obtain rfl:bX=cn:=by omega
   obtain ⟨co,bZ,bh⟩:=(a.de 0 rfl).get aT
   replace bh:co=[T aa.a,V aa.e,V aa.b,V aa.f,.bool aa.c,V aa.d,V aa.g]:=bh
   subst bh
   refine hO 21 (os r r (Hy a 0 0 bX 6 [V (wr ((v.length:Int) - 1))] r r bZ pJ r r r r r (show _=[T aa.a,V aa.e,V aa.b,V aa.f,.bool aa.c,V aa.d,V (wr ((v.length:Int) - 1))] from r) r aU) ?_)
   rintro cQ ⟨c0,a⟩
   try dsimp only [List.set] at a
   have br:ck.length=cm.length:=by rw [← aU,List.length_set]
   try dsimp only [Z] at a
   try rw [br] at a
   try dsimp only [Z]
   try rw [br]
   have hs:=(a.ad [1,3,5] [4])
   refine ⟨(sy 21 hs),(hD (g (s (mg r r (by omega) (by omega)) (s (mi r) (n ?_)))))⟩
   obtain ⟨c1,aV,S⟩:=bs S
   obtain ⟨cp,cB,_,aV⟩:=A7 aV
   obtain rfl:bD=cp:=by omega
   have cC:=(a.de 0 r).len
   replace a:=a.hd 5 (H':=((j.set bD ⟨bU,bV,c0⟩).map Rw.hdr)) r (Rv bg (by omega))
   try dsimp only [List.set] at a
   replace a:=a.arr [0,1,2,3,4,5,6,7] r
   try dsimp only [pick,nth,ca,na] at a
   replace a:=a.TD 4 0 r r
   try dsimp only [List.set] at a
   rw [aV] at a
   obtain ⟨cq,c2⟩:∃ R,(j.set bD ⟨bU,bV,c0⟩)=R:=⟨_,rfl⟩
   rw [c2] at a
   have bu:I.length=c1.length:=by rw [← aV,List.length_set]
   try dsimp only [Z] at a
   try rw [bu] at a
   try dsimp only [Z]
   try rw [bu]
   exact bS (a9.length - (aj+1)) _ _ (by omega) ⟨aj+1,c1,B,D,cq,r,by omega,⟨r,r,r,r,r,r,y⟩,(a.ad [1,2,3,4,0,5,6] [1,2,3,4,5,6]),S⟩
  obtain rfl:aj=a9.length:=by omega
  rw [lH,lI] at S
  exact q (g (s (qL r r (by omega)) (n (q (jI r (uW (bR _ _ ⟨I,B,D,j,⟨r,r,r,y⟩,a,sm S⟩)))))))
 clear a
 rintro f w ⟨I,B,D,j,hf,a,c3⟩
 obtain ⟨d7,rfl⟩:=gP _ _ hf
 clear hf
 subst c3
 replace hM:=gi hM
 refine q (g (s (mp r) (qF (jV a [] ([]:List Int) (KM) r r (by decide) y) ?_)))
 rintro _ cR ⟨cS,rfl,a⟩
 refine s (mp r) (s (xn r) (s (Ba r) (s (Ko r (a.bk 2 r) r) (s (mi r) ?_))))
 obtain ⟨c4,c5,hM⟩:=bs hM
 obtain ⟨cr,c6,cD,c7,ct,bv,bw⟩:=AX c5
 obtain rfl:cr=0:=by omega
 have bE:c4.length=c6:=by rw [← bw,List.length_take,List.length_drop];omega
 refine s (show Yl _ _ _ _ _ _ _ _ _ (.slice b c4.length c) from (congrArg (fun z=>Value.slice b z c) bE).symm ▸ zS c6 vE pJ r r c7 (Nat.le_trans bv ((a.vw 7 6 r r)).cap)) ?_
 obtain ⟨c8,c9,hM⟩:=bs hM
 refine qF (kS a 0 0 r r vE pJ r (by decide) (by decide) (Nat.le_refl _) r r (a.AP 7 6 r r bv bw) c9) ?_
 rintro _ cT ⟨bF,bG,cu,rfl,a⟩
 refine s (xn r) (s (Ba r) (lu (lW a 2 [Z bF c8 bG] r Er r r) fun cU a=>n (q (g (s (mD r) (s (nJ r) (n (kP ?_))))))))
 replace a:=a.rb 0 a8 r aP
 obtain rfl:=sm hM
 exact jC r (kT r) (lw (⟨p,t,u,B,D,j,m,o,x,bF,bG,cu,r,(a.ad [1,2,3,4,5,6,0] [2,1,3,4,5,0])⟩))
theorem KE (fu:Nat)(r_r04_block:qV) (r_r04_stmt:sU) (H_r04_block:yc r_r04_block) (H_r04_stmt:AU r_r04_stmt):AU (sV fu r_r04_block r_r04_stmt):=by
 intro w0 eW U b aU ac ae a9 aa am aP an ao af aQ aR bF bG c9 aS ap aq au aF Q S D E B C u v R hP a3 a4 a5 X Y x
 unfold sV at x
 have a:=hP.bx
 clear hP
 generalize hG:lT _=G at a ⊢
 refine cf Try.func99 r (ma [(0,Pt aU),(1,.agg #[V b.e,V b.c,V b.n,T b.a,T b.g,V b.m,V b.j,Z Q b.d S,T b.k,V b.h,Z D b.b E,Z B b.f C,Z u b.i v])] ⟨r,r,y⟩ fun eX=>q (g (tL a (yI r) fun w1 b1 a=>tL a (ko jP) fun w2 b2 a=>n (q (g (s (mp r) (s (xn r) (s (qU r) (s (zT r) (s (MJ r (a.bk 2 r) r) (s (lg Ca r) (s (Df r) (lu (lW a 1 [V (U.a.b.length:Int)] r pJ r r) fun w3 a=>n (q (q (g (s (Df r) (s (l3 r (a.bk 1 r) r) (s (Bi r r) (n ?_))))))))))))))))))))
 rcases iv x with ⟨h4,x⟩|⟨h4,x⟩
 ·refine jH (bt h4) (q (g (s (mp r) (s (xm r) (s (l3 r (a.bk 1 r) r) ?_)))))
  obtain ⟨dY,h5,x⟩:=bs x
  have hc:=(nT fu) (a.pr [2,3,4,5,6,7] [0,1] [0,1,2,3,4] r) (a.le a3) (a.le a4) (a.le a5) (a.le X) (a.le Y) h5
  refine sc (ec zR r) hc ?_
  rintro _ w5 ⟨rfl,hK⟩
  replace a:=a.cn [2,3,4,5,6,7] [0,1] hK
  refine n (q (g (s (mE [V b.e,V b.c,V (U.a.b.length:Int),T b.a,T b.g,V b.m,V b.j,Z Q b.d S,T b.k,V b.h,Z D b.b E,Z B b.f C,Z u b.i v] lG jP r (a.bk 7 r)) (lu (nD a 6 [V b.e,V b.c,V (U.a.b.length:Int),T b.a,T b.g,V b.m,V b.j,Z Q b.d S,T b.k,V b.h,Z D b.b E,Z B b.f C,Z u b.i v] r jP r r) fun w6 a=>n (kP ?_)))))
  obtain rfl:=sm x
  exact jC r (uN r lG r jP r (a.bk 6 r)) (lw (⟨Q,S,D,E,B,C,u,v,an,ao,af,bF,bG,c9,ap,aq,au,r,(a.ad [0,1,2,3,4,5] [10,11,12,13,0,1,2,3,4])⟩))
 refine jI (bf h4) (wk (q (Fa a [1] [] [1,2] [] [20] (by kernel_rfl) ?_)))
 replace a:=a.drew
 have A:=(a.ad [1] [])
 have hu:=(a.ad [1,2] [])
 refine pL 0 r (mp r) A hu (pL 1 r (mp r) A hu (pL 2 r (xn r) A hu (pL 3 r (qU r) A hu (pL 4 r (zT r) A hu (tS 1 5 r (fun _ hS=>MJ r (hS.bk 1 r) r) (mH A hu) (pL 6 r (mp r) A hu (pL 7 r (xn r) A hu (pL 8 r (AV r) A hu (tS 1 9 r (fun _ hS=>l3 r (hS.bk 1 r) r) (mH A hu) (pL 10 r (uJ r) A hu (tU 11 r (fun _ hS=>l3 r (hS.bk 0 r) r) (mH A hu) (pL 12 r (xm r) A hu (tU 13 r (fun _ hS=>l3 r (hS.bk 0 r) r) (mH A hu) (pL 14 r (Hq r r r) A hu (hO 15 (oo r r (jV a [[V U.f,V b.e,V b.c]] ([(⟨U.f,b.e,b.c⟩:Gi)]:List Gi) (KP r) r r (by decide) ⟨r,y⟩) ?_))))))))))))))))
 rintro _ w7 ⟨b7,rfl,a⟩
 have A:=(a.ad [2] [])
 have hu:=(a.ad [2,3] [])
 refine ⟨(mH A hu),?_⟩
 obtain ⟨r8,dt,x⟩:=bs x
 refine hO 16 (oo r r (kS a 7 4 r r Ca Ns r (by decide) (by decide) X r r (a.AJ 0 0 r r) dt) ?_)
 rintro _ w8 ⟨A8,C8,Q8,rfl,a⟩
 have A:=(a.ad [2] [])
 have hu:=(a.ad [2,3] [])
 refine ⟨(mH A hu),(pL 17 r (xn r) A hu (pL 18 r (qU r) A hu (pL 19 r (zT r) A hu (hO 20 (os r r (lW a 3 [Z A8 r8 C8] r RD r r) fun e5 a=>?_)))))⟩
 have A:=(a.ad [2] [])
 refine ⟨(sy 20 A),(hD (q (q (g (s (uJ r) (s (l3 r (a.bk 2 r) r) (n ?_)))))))⟩
 obtain ⟨du,t,x⟩:=bs x
 refine oC (fun f w=>∃ (bj:List Gr) (bH:Int)(bI:Int)(bJ:Int)(bl:List Gn) (bm:List (List Gv)) (bn:List Gi) (bp:List Int),Has f [(0,Pt aU),(3,Pt b1),(4,Pt b2)]∧Bx w0 w eW G [.box b2 111 #[V 0,V 0,V 0,T be,T be,V 0,V 0,sn,T be,V 0,sn,sn,sn],.box b1 111 #[V b.e,V b.c,V (U.a.b.length:Int),T b.a,T b.g,V b.m,V b.j,Z Q b.d S,T b.k,V b.h,Z D b.b E,Z B b.f C,Z u b.i v],.box aU 115 #[Z ac bj ae,Z a9 bl aa,Z an bm ao,Z A8 bn C8,V bH,Z ap bp aq,V bI,V bJ],O aP a9 aa 82 Gn am,O aQ an ao 60 (List Gv) (af.map Rw.hdr),.tN aR 59 (sz Gv) af none,O aS A8 C8 65 Gi Q8,O aF ap aq 3 Int au] [.l ac ae bj,.els am bl,.nN af bm,.els Q8 bn,.els au bp,.l Q S b.d,.l D E b.b,.l B C b.f,.l u v b.i]∧Ld.go (bj,bH,bI,bJ,bl,bm,bn,bp)=du) (fun e6 c3=>?_) ?_
 ·unfold uE at t
  refine nZ (q (g (s (kK r r) (s (jU r) (n ?_)))))
  rcases iv t with ⟨cz,t⟩|⟨cz,t⟩
  ·refine jH (bt cz) (q (g (s (xu r) (s (l9 r (a.bk 2 r) r) (s (Df r) (s (l3 r (a.bk 2 r) r) (s (kN r r) (s (Cu r r r r r) (tL a (ko wz) fun e7 d0 a=>lu (nD a 0 [T b.a,V 1,V (-1),V 1,.bool false,V (wr ((U.a.b.length:Int)+1)),V 0] r wz r r) fun e8 a=>n (q ?_))))))))))
   obtain ⟨dv,a0,t⟩:=bs t
   refine oC (fun f w=>∃ (bq:Int)(br:Int)(bu:Int),Has f [(0,Pt aU),(3,Pt b1),(4,Pt b2),(5,Pt d0)]∧Bx w0 w eW G [.box d0 59 #[T b.a,V bq,V br,V bu,.bool false,V (wr ((U.a.b.length:Int)+1)),V 0],.box b2 111 #[V 0,V 0,V 0,T be,T be,V 0,V 0,sn,T be,V 0,sn,sn,sn],.box b1 111 #[V b.e,V b.c,V (U.a.b.length:Int),T b.a,T b.g,V b.m,V b.j,Z Q b.d S,T b.k,V b.h,Z D b.b E,Z B b.f C,Z u b.i v],.box aU 115 #[Z ac U.a.a.a ae,Z a9 U.a.a.b aa,Z an U.a.c ao,Z A8 r8 C8,V U.f,Z ap U.b aq,V U.c,V U.e],O aP a9 aa 82 Gn am,O aQ an ao 60 (List Gv) (af.map Rw.hdr),.tN aR 59 (sz Gv) af none,O aS A8 C8 65 Gi Q8,O aF ap aq 3 Int au] [.l ac ae U.a.a.a,.els am U.a.a.b,.nN af U.a.c,.els Q8 r8,.els au U.b,.l Q S b.d,.l D E b.b,.l B C b.f,.l u v b.i]∧Ld.go (bq,br,bu)=dv) (fun e9 cc=>?_) ?_
   ·unfold wQ at a0
    refine q (g (s (zN r) (s (l3 r (a.bk 3 r) r) (s (vG r r) (n ?_)))))
    rcases iv a0 with ⟨cA,a0⟩|⟨cA,a0⟩
    ·refine jH (bt cA) (oJ a [3] [] [] (by kernel_rfl) ?_)
     replace a:=a.drew
     have A:=(a.ad [3] [])
     refine pF 0 r (zN r) A (uF 1 r (fun hS=>l3 r (hS.bk 0 r) r) A (pF 2 r (Jc r) A (hO 3 (os r r (lW a 0 [V 3] r pJ r r) fun ea a=>?_))))
     have A:=(a.ad [3] [])
     refine ⟨(sF A),(pF 4 r (MM r) A (hO 5 (os r r (lW a 0 [V b.m] r pJ r r) fun eb a=>?_)))⟩
     have A:=(a.ad [3] [])
     exact ⟨(sF A),(hD (cc _ _ ⟨3,(-1),b.m,⟨r,r,r,r,y⟩,(a.ad [0,2,3,4,5,6,7,8,9] [1,2,3,4,5,6,7,8,9]),sm a0⟩))⟩
    refine jI (bf cA) (q (g (s (BH r) (s (l9 r (a.bk 3 r) r) (s (yO r r) (n ?_))))))
    rcases iv a0 with ⟨cB,a0⟩|⟨cB,a0⟩
    ·refine jH (bt cB) (q (g (s (mp r) (s (BH r) (s (l9 r (a.bk 3 r) r) ?_)))))
     obtain ⟨bv,dw,dx,a0⟩:=lV a0
     have hc:=(Iu fu) (a.pr [4,5,6,7,8,9] [0,1,2,3] [1,2,3,4,5] r) (a.le a3) (a.le a4) (a.le a5) (a.le X) (a.le Y) dx
     refine sc (ec Sm r) hc ?_
     rintro _ ed ⟨rfl,hK⟩
     replace a:=a.cn [4,5,6,7,8,9] [0,1,2,3] hK
     refine s pQ (s (jO r r) (s (jO r r) (s (xi r) (s (jU r) (n (q (q (g (s (jZ r) (s (xc r) (n ?_)))))))))))
     rcases iv a0 with ⟨cd,a0⟩|⟨cd,a0⟩
     ·refine jH (cb cd) (q (g (s (mp r) (s (xm r) (s (l3 r (a.bk 9 r) r) ?_)))))
      obtain ⟨dy,dz,a0⟩:=bs a0
      have hc:=(nT fu) (a.pr [0,1,2,3,4,5] [6,7,8,9] [6,1,2,3,4] r) (a.le a3) (a.le a4) (a.le a5) (a.le X) (a.le Y) dz
      refine sc (ec zR r) hc ?_
      rintro _ ee ⟨rfl,hK⟩
      replace a:=a.cn [0,1,2,3,4,5] [6,7,8,9] hK
      refine n (q (g (s (mE [V b.e,V b.c,V (U.a.b.length:Int),T b.a,T b.g,V b.m,V b.j,Z Q b.d S,T b.k,V b.h,Z D b.b E,Z B b.f C,Z u b.i v] lG jP r (a.bk 9 r)) (lu (nD a 8 [V b.e,V b.c,V (U.a.b.length:Int),T b.a,T b.g,V b.m,V b.j,Z Q b.d S,T b.k,V b.h,Z D b.b E,Z B b.f C,Z u b.i v] r jP r r) fun ef a=>n (kP ?_)))))
      obtain rfl:=sm a0
      replace t:=oi t
      obtain rfl:=sm t
      replace x:=oi x
      obtain rfl:=sm x
      exact jC r (uN r lG r jP r (a.bk 8 r)) (lw (⟨Q,S,D,E,B,C,u,v,an,ao,af,A8,C8,Q8,ap,aq,au,r,(a.ad [0,1,2,3,4,5] [16,17,18,19,0,1,2,3,4])⟩))
     replace cd:=nt cd
     refine jI (cb cd) (wk ?_)
     obtain ⟨cp,c4,a0⟩:=bs a0
     obtain ⟨eg,d1,c4⟩:=kG c4
     obtain ⟨dZ,d3,a⟩:=a.nm 6 rfl c4
     obtain ⟨cC,cD,rfl,cE⟩:=kD.out d3
     replace a:=a.ku (d:=.l cC cD cp.b) cE
     refine oJ a [0] [0,1,8] [] (by kernel_rfl) ?_
     replace a:=a.drew
     have A:=(a.ad [0] [0,1,8])
     refine pF 0 r (mi r) A (pF 1 r (mp r) A (pF 2 r (xn r) A (pF 3 r (qU r) A (pF 4 r (zU r) A (pF 5 r (wE r) A (uF 6 r (fun hS=>JP r (hS.bk 0 r) r) A (pF 7 r (mi r) A (pF 8 r (kZ AC tu r r d1 (a.dl 8 r) c4) A (pF 9 r (wC r) A (uF 10 r (fun hS=>kz kL r r ((hS.dc 1 r) 1 _ r)) A (pF 11 r (lg kL r) A (pF 12 r (Jc r) A (hO 13 (os r r (lW a 6 [V 2] r pJ r r) fun eh a=>?_))))))))))))))
     have A:=(a.ad [0] [0,1,8])
     refine ⟨(sF A),(pF 14 r (Nc r) A (hO 15 (os r r (lW a 6 [V bv] r pJ r r) fun ei a=>?_)))⟩
     have A:=(a.ad [0] [0,1,8])
     refine ⟨(sF A),(pF 16 r (MM r) A (hO 17 (os r r (lW a 6 [V (cp.b.length:Int)] r pJ r r) fun ej a=>?_)))⟩
     have A:=(a.ad [0] [0,1,8])
     exact ⟨(sF A),(hD (cc _ _ ⟨2,bv,(cp.b.length:Int),⟨r,r,r,r,y⟩,(a.ad [6,8,9,0,1,2,3,4,5] [8,3,4,5,6,13,14,15,16]),sm a0⟩))⟩
    exact jI (bf cB) (wk (cc _ _ ⟨1,(-1),1,⟨r,r,r,r,y⟩,(a.ad [0,2,3,4,5,6,7,8,9] [1,2,3,4,5,6,7,8,9]),sm a0⟩))
   clear a
   rintro f w ⟨bq,br,bu,hf,a,d4⟩
   obtain ⟨eX,rfl⟩:=gP _ _ hf
   clear hf
   subst d4
   replace t:=gi t
   replace t:=Ak t
   refine q (g (s (mp r) (s (xm r) (s (l3 r (a.bk 2 r) r) (s (mE [T b.a,V bq,V br,V bu,.bool false,V (wr ((U.a.b.length:Int)+1)),V 0] HY wz r (a.bk 0 r)) ?_)))))
   obtain ⟨aX,dA,dB,t⟩:=lV t
   have hc:=(Ao fu) (a.pr [3,4,5,6,7,8] [0,1,2] [0,1,2,3,4] r) (a.le a3) (a.le a4) (a.le a5) (a.le X) (a.le Y) dB
   refine sc (ec OD r) hc ?_
   rintro _ ek ⟨bK,bL,bM,bN,bO,bP,rfl,hK⟩
   replace a:=a.cn [3,4,5,6,7,8] [0,1,2] hK
   refine s (Dl r) (lu (lW a 8 [V aX] r pJ r r) fun em a=>n (q (g (s (mE [V b.e,V b.c,V (U.a.b.length:Int),T b.a,T b.g,V b.m,V aX,Z Q b.d S,T b.k,V b.h,Z D b.b E,Z B b.f C,Z u b.i v] lG jP r (a.bk 8 r)) (lu (nD a 7 [V b.e,V b.c,V (U.a.b.length:Int),T b.a,T b.g,V b.m,V aX,Z Q b.d S,T b.k,V b.h,Z D b.b E,Z B b.f C,Z u b.i v] r jP r r) fun en a=>n (kP ?_))))))
   obtain rfl:=sm t
   replace x:=oi x
   obtain rfl:=sm x
   exact jC r (uN r lG r jP r (a.bk 7 r)) (lw (⟨Q,S,D,E,B,C,u,v,bK,bL,bM,A8,C8,Q8,bN,bO,bP,r,(a.ad [0,1,2,3,4,5] [10,11,12,13,0,1,2,3,4])⟩))
  refine jI (bf cz) (q (g (s (kK r r) (s (jU r) (n ?_)))))
  rcases iv t with ⟨cF,t⟩|⟨cF,t⟩
  ·refine jH (bt cF) (q (g (s (uA r) (s (xe r (a.bk 2 r) r) (s (lg qJ r) (s (vG r r) (s (jZ r) ?_)))))))
   rcases iv t with ⟨cG,t⟩|⟨cG,t⟩
   ·rw [decide_eq_true cG]
    refine jQ r (s (uA r) (jQ r (s (xe r (a.bk 2 r) r) ?_)))
    obtain ⟨dC,c5,t⟩:=bs t
    obtain ⟨eo,d5,c5⟩:=kG c5
    obtain ⟨e0,d6,a⟩:=a.nm 6 rfl c5
    obtain ⟨cH,cI,rfl,cJ⟩:=jL.out d6
    replace a:=a.ku (d:=.l cH cI dC.b) cJ
    refine jQ r (s (kZ qJ jT r r d5 (a.dl 8 r) c5) (jQ r (s (wD r) (jQ r (s (kz EU r r ((a.dc 1 r) 0 _ r)) (jQ r (s (mI r r) (s (jN r r) (n ?_)))))))))
    rcases iv t with ⟨cK,t⟩|⟨cK,t⟩
    ·refine jH (bt cK) (g (s (mp r) (s (xm r) (s (l3 r (a.bk 2 r) r) ?_))))
     obtain ⟨ax,dD,t⟩:=bs t
     have hc:=(nT fu) (a.pr [3,4,5,6,7,8] [0,1,2] [3,4,5,6,7] r) (a.le a3) (a.le a4) (a.le a5) (a.le X) (a.le Y) dD
     refine sc (ec zR r) hc ?_
     rintro _ ep ⟨rfl,hK⟩
     replace a:=a.cn [3,4,5,6,7,8] [0,1,2] hK
     exact n (c3 _ _ ⟨ax.a.a.a,ax.f,ax.c,ax.e,ax.a.a.b,ax.a.c,ax.a.b,ax.b,⟨r,r,r,y⟩,(a.ad [7,8,0,1,2,3,4,5] [0,1,2,3,4,13,14,15,16]),sm t⟩)
    exact jI (bf cK) (wk (c3 _ _ ⟨U.a.a.a,U.f,U.c,U.e,U.a.a.b,U.a.c,r8,U.b,⟨r,r,r,y⟩,(a.ad [1,2,3,4,5,6,7,8] [3,4,5,6,7,8,9,10,11]),sm t⟩))
   rw [decide_eq_false cG]
   exact jB r (jB r (jB r (jB r (jB r (jB r (s (jX r r) (n (jI r (wk (c3 _ _ ⟨U.a.a.a,U.f,U.c,U.e,U.a.a.b,U.a.c,r8,U.b,⟨r,r,r,y⟩,(a.ad [1,2,3,4,5,6,7,8] [1,2,3,4,5,6,7,8,9]),sm t⟩))))))))))
  exact jI (bf cF) (wk (c3 _ _ ⟨U.a.a.a,U.f,U.c,U.e,U.a.a.b,U.a.c,r8,U.b,⟨r,r,r,y⟩,(a.ad [1,2,3,4,5,6,7,8] [1,2,3,4,5,6,7,8,9]),sm t⟩))
 clear a
 rintro f w ⟨bj,bH,bI,bJ,bl,bm,bn,bp,hf,a,d7⟩
 obtain ⟨eX,rfl⟩:=gP _ _ hf
 clear hf
 subst d7
 replace x:=gi x
 replace x:=pi (mf (mf x))
 refine q (g (s (mp r) (s (uA r) (s (xe r (a.bk 1 r) r) (s (xm r) (s (l3 r (a.bk 1 r) r) ?_))))))
 obtain ⟨bQ,ay,dE,x⟩:=lV x
 have hc:=(DR fu) (a.pr [2,3,4,5,6,7] [0,1] [0,1,2,3,4,5] r) (a.le a3) (a.le a4) (a.le a5) (a.le X) (a.le Y) dE
 refine sc (ec Mq r) hc ?_
 rintro _ eq ⟨aA,aB,cX,rfl,hK⟩
 have bw:=a.rX.size
 replace a:=a.cn [2,3,4,5,6,7] [0,1] hK
 replace a:=a.rb 0 w0.heap.size r bw
 refine s (uA r) (lu (lW a 8 [Z aA bQ aB] r uk r r) fun er a=>n (q ?_))
 obtain ⟨dF,aE,x⟩:=bs x
 refine oC (fun f w=>∃ (bz:List Gr) (bR:Int)(bS:Int)(bT:Int)(bA:List Gn) (bB:List (List Gv)) (bC:List Gi) (bD:List Int) (a1:Int)(H:Int)(I:Int)(J:BA) (K:BA) (L:Int)(ai:Int)(z:List Ge) (j:OA)(m:Nat)(M:BA) (N:Int)(aV:List Ge) (aL:List Gs) (aj:List Gs),Has f [(0,Pt aU),(3,Pt b1),(4,Pt b2)]∧Bx w0 w eW G [.box aU 115 #[Z ac bz ae,Z a9 bA aa,Z an bB ao,Z A8 bC C8,V bR,Z ap bD aq,V bS,V bT],O aP a9 aa 82 Gn am,O aQ an ao 60 (List Gv) (af.map Rw.hdr),.tN aR 59 (sz Gv) af none,O aS A8 C8 65 Gi Q8,O aF ap aq 3 Int au,.box b2 111 #[V 0,V 0,V 0,T be,T be,V 0,V 0,sn,T be,V 0,sn,sn,sn],.box b1 111 #[V a1,V H,V I,T J,T K,V L,V ai,Z j z m,T M,V N,Z D aV E,Z B aL C,Z u aj v]] [.l ac ae bz,.l j m z,.l D E aV,.l B C aL,.l u v aj,.els am bA,.nN af bB,.els Q8 bC,.els au bD]∧Ld.go (bz,bR,bS,bT,bA,bB,bC,bD,a1,H,I,J,K,L,ai,z,M,N,aV,aL,aj)=dF) (fun et ct=>?_) ?_
 ·unfold wP at aE
  refine q (g (s (Ai r) (s (l9 r (a.bk 8 r) r) (s (yO r r) (n ?_)))))
  rcases iv aE with ⟨cL,aE⟩|⟨cL,aE⟩
  ·refine jH (bt cL) (g (s (mp r) ?_))
   replace a:=a.fz 0 0 r r
   obtain ⟨az,ag,dG,aE⟩:=lV aE
   have hc:=(Iw fu) (a.pr [0,1,2,3,4,5,7] [6] [1,2,3,4,5,0,12,13,14] r) (a.le a3) (a.le a4) (a.le a5) (a.le X) (a.le Y) dG
   refine sc (ec SS r) hc ?_
   rintro _ eu ⟨rfl,hK⟩
   replace a:=a.cn [0,1,2,3,4,5,7] [6] hK
   exact n (ct _ _ ⟨az.a.a.a,az.f,az.c,az.e,az.a.a.b,az.a.c,az.a.b,az.b,ag.e,ag.c,ag.n,ag.a,ag.g,ag.m,ag.j,ag.d,aA,aB,ag.k,ag.h,ag.b,ag.f,ag.i,⟨r,r,r,y⟩,(a.ad [0,1,2,3,4,5,7,6] [0,5,6,7,8,1,2,3,4]),sm aE⟩)
  refine jI (bf cL) (wk ?_)
  replace a:=a.fz 0 0 r r
  exact ct _ _ ⟨ay.a.a.a,ay.f,ay.c,ay.e,ay.a.a.b,ay.a.c,ay.a.b,ay.b,b.e,b.c,(U.a.b.length:Int),b.a,b.g,b.m,b.j,bQ,aA,aB,b.k,b.h,b.b,b.f,b.i,⟨r,r,r,y⟩,(a.dp [1,0,12,13,14,2,3,4,5]),sm aE⟩
 clear a
 rintro f w ⟨bz,bR,bS,bT,bA,bB,bC,bD,a1,H,I,J,K,L,ai,z,j,m,M,N,aV,aL,aj,hf,a,d8⟩
 obtain ⟨eX,rfl⟩:=gP _ _ hf
 clear hf
 subst d8
 replace x:=gi x
 replace x:=Ak (mf (mf (mf (mf (mf (mf x))))))
 refine q (g (s (mp r) (s (qD r) (s (xe r (a.bk 7 r) r) (s (xm r) (s (l3 r (a.bk 7 r) r) ?_))))))
 obtain ⟨a2,dH,dI,x⟩:=lV x
 have hc:=(DR fu) (a.pr [0,1,2,3,4,5] [6,7] [0,5,6,7,8,2] r) (a.le a3) (a.le a4) (a.le a5) (a.le X) (a.le Y) dI
 refine sc (ec Mq r) hc ?_
 rintro _ ev ⟨c,h,aC,rfl,hK⟩
 have bw:=a.rX.size
 replace a:=a.cn [0,1,2,3,4,5] [6,7] hK
 replace a:=a.rb 0 w0.heap.size r bw
 refine s (qD r) (lu (lW a 8 [Z c a2 h] r uk r r) fun ew a=>n (q (g (s (mp r) (s (uo r) (s (FV r (a.bk 8 r) r) ?_))))))
 obtain ⟨a6,ah,dJ,x⟩:=lV x
 have hc:=H_r04_block (a.pr [1,2,3,4,5,6] [0,7,8] [1,2,3,4,5,9] r) (a.le a3) (a.le a4) (a.le a5) (a.le X) (a.le Y) dJ
 refine sc (ec MU r) hc ?_
 rintro _ ex ⟨o,p,aD,aY,aZ,aG,b0,b3,b4,b5,b6,b8,rfl,hK⟩
 have bw:=a.rX.size
 replace a:=a.cn [1,2,3,4,5,6] [0,7,8] hK
 replace a:=a.rb 0 w0.heap.size r bw
 refine s (uo r) (lu (lW a 9 [Z o a6 p] r yG r r) fun ey a=>n (q ?_))
 obtain ⟨dK,W,x⟩:=bs x
 refine oC (fun f w=>Has f [(0,Pt aU),(3,Pt b1),(4,Pt b2)]∧Bx w0 w eW G [O w0.heap.size o p 111 Gs aD,.box aU 115 #[Z ac ah.a.a.a ae,Z a9 ah.a.a.b aa,Z aY ah.a.c aZ,Z b0 ah.a.b b3,V ah.f,Z b5 ah.b b6,V ah.c,V ah.e],O aP a9 aa 82 Gn am,O aQ aY aZ 60 (List Gv) (aG.map Rw.hdr),.tN aR 59 (sz Gv) aG none,O aS b0 b3 65 Gi b4,O aF b5 b6 3 Int b8,O w0.heap.size c h 138 Ge aC,.box b2 111 #[V 0,V 0,V 0,T be,T be,V 0,V 0,sn,T be,V 0,sn,sn,sn],.box b1 111 #[V a1,V H,V I,T J,T K,V L,V ai,Z j z m,T M,V N,Z c a2 h,Z o a6 p,Z u aj v]] [.els aD a6,.l ac ae ah.a.a.a,.els am ah.a.a.b,.nN aG ah.a.c,.els b4 ah.a.b,.els b8 ah.b,.els aC a2,.l j m z,.l u v aj]∧Ld.go ()=dK) (fun ez cu=>?_) ?_
 ·unfold mW at W
  refine q (g (s (uJ r) (s (l3 r (a.bk 9 r) r) (s (kK r r) (s (jZ r) ?_)))))
  rcases iv W with ⟨cM,W⟩|⟨cM,W⟩
  ·rw [decide_eq_true cM]
   refine jQ r (s (mp r) (jQ r (s (xn r) (jQ r (s (zL r) (jQ r (s (CW r (a.bk 1 r) r) (jQ r (s (kK r r) (s (jN r r) (n ?_)))))))))))
   rcases iv W with ⟨cN,W⟩|⟨cN,W⟩
   ·refine jH (bt cN) (q (g (qF (jV a [] ([]:List Int) (KM) r r (by decide) y) ?_)))
    rintro _ eA ⟨eB,rfl,a⟩
    refine s (mp r) (s (xn r) (s (Ba r) (s (Ko r (a.bk 2 r) r) ?_)))
    obtain ⟨cq,d9,W⟩:=bs W
    refine qF (kS a 0 0 r r vE pJ r (by decide) (by decide) (Nat.le_refl _) r r (a.AJ 7 6 r r) d9) ?_
    rintro _ eC ⟨ce,cg,cO,rfl,a⟩
    refine s (nJ r) (n (q (Fa a [] [] [2,10] [] [12,14] (by kernel_rfl) ?_)))
    replace a:=a.drew
    have A:=(a.ad [] [])
    have hu:=(a.ad [2,10] [])
    refine pL 0 r (mp r) A hu (pL 1 r (xm r) A hu (tS 1 2 r (fun _ hS=>l3 r (hS.bk 1 r) r) (mH A hu) (pL 3 r (xu r) A hu (tS 2 4 r (fun _ hS=>l9 r (hS.bk 1 r) r) (mH A hu) (pL 5 r (mp r) A hu (pL 6 r (xn r) A hu (pL 7 r (qU r) A hu (pL 8 r (zT r) A hu (tS 3 9 r (fun _ hS=>MJ r (hS.bk 0 r) r) (mH A hu) (pL 10 r (lg Ca r) A hu (pL 11 r (Cu r r r r r) A hu ?_)))))))))))
    obtain ⟨aH,dL,dM,W⟩:=lV W
    have hc:=(Ao fu) (a.pr [2,3,4,5,6,7] [0,1,8,9,10] [2,3,4,5,6] r) (a.le a3) (a.le a4) (a.le a5) (a.le X) (a.le Y) dM
    refine hO 12 (oc r r (ec OD r) hc ?_)
    rintro _ eD ⟨cP,cQ,cR,cS,cT,cU,rfl,hK⟩
    replace a:=a.cn [2,3,4,5,6,7] [0,1,8,9,10] hK
    have A:=(a.ad [] [])
    refine ⟨(sy 12 A),(tP 13 r (fun _=>Dl r) (sy 12 A) (hO 14 (os r r (lW a 10 [V aH] r pJ r r) fun eE a=>?_)))⟩
    have A:=(a.ad [] [])
    refine ⟨(sy 12 A),(hD (q (g (s (mp r) (s (tZ r) (s (FV r (a.bk 10 r) r) ?_))))))⟩
    obtain ⟨aI,F,dN,W⟩:=lV W
    have hc:=H_r04_block (a.pr [0,1,2,3,4,5] [6,7,8,9,10] [0,1,2,3,4,22] r) (a.le a3) (a.le a4) (a.le a5) (a.le X) (a.le Y) dN
    refine sc (ec MU r) hc ?_
    rintro _ eF ⟨a7,a8,bi,b9,ba,aJ,av,aw,aK,bb,bc,bd,rfl,hK⟩
    have bw:=a.rX.size
    replace a:=a.cn [0,1,2,3,4,5] [6,7,8,9,10] hK
    replace a:=a.rb 0 w0.heap.size r bw
    refine s (tZ r) (lu (lW a 11 [Z a7 aI a8] r yG r r) fun eG a=>n (q ?_))
    obtain ⟨dO,ar,W⟩:=bs W
    refine oC (fun f w=>∃ (bg:List (List Gv)) (aM:OA)(aN:Nat)(aO:List Rw),Has f [(0,Pt aU),(3,Pt b1),(4,Pt b2),(8,Z ce cq cg)]∧Bx w0 w eW G [O w0.heap.size a7 a8 111 Gs bi,.box aU 115 #[Z ac F.a.a.a ae,Z a9 F.a.a.b aa,Z aM bg aN,Z av F.a.b aw,V F.f,Z bb F.b bc,V F.c,V F.e],O aP a9 aa 82 Gn am,O aQ aM aN 60 (List Gv) (aO.map Rw.hdr),.tN aR 59 (sz Gv) aO none,O aS av aw 65 Gi aK,O aF bb bc 3 Int bd,O w0.heap.size ce cg 3 Int cO,O w0.heap.size o p 111 Gs aD,O w0.heap.size c h 138 Ge aC,.box b2 111 #[V 0,V 0,V 0,T be,T be,V 0,V 0,sn,T be,V 0,sn,sn,sn],.box b1 111 #[V a1,V H,V I,T J,T K,V L,V aH,Z j z m,T M,V N,Z c a2 h,Z o a6 p,Z a7 aI a8]] [.els bi aI,.l ac ae F.a.a.a,.els am F.a.a.b,.nN aO bg,.els aK F.a.b,.els bd F.b,.els cO cq,.els aD a6,.els aC a2,.l j m z]∧Ld.go bg=dO) (fun eH cv=>?_) ?_
    ·unfold wL at ar
     refine q (g (s (mp r) (s (xn r) (s (zL r) (s (CW r (a.bk 1 r) r) (s (kK r r) (n ?_)))))))
     rcases iv ar with ⟨cV,ar⟩|⟨cV,ar⟩
     ·refine jH (bt cV) ?_
      obtain ⟨dP,ch,ar⟩:=bs ar
      obtain ⟨cW,da,ch⟩:=kG ch
      replace a:=a.arr [4,0,1,2,3,5,6,7,8,9,10,11] r
      try dsimp only [pick,nth,ca,na] at a
      obtain ⟨db,dd,eI,ci,df,a⟩:=a.Sd 3 rfl ch
      refine Fa a [1,3,5,12] [4] [0,1,3,5,12] [0,4] [22] (by kernel_rfl) ?_
      replace a:=a.drew
      have A:=(a.ad [1,3,5,12] [4])
      have hu:=(a.ad [0,1,3,5,12] [0,4])
      refine pL 0 r (mp r) A hu (pL 1 r (xn r) A hu (pL 2 r (qU r) A hu (pL 3 r (vV r) A hu (tU 4 r (fun _ hS=>Ih r (hS.bk 1 r) r) (mH A hu) (pL 5 r (mp r) A hu (pL 6 r (xn r) A hu (pL 7 r (AV r) A hu (tU 8 r (fun _ hS=>l3 r (hS.bk 1 r) r) (mH A hu) (pL 9 r (La Bd Br r r da (a.bo 5 r) ci (a.d2 4 r).len) A hu (tU 10 r (fun _ hS=>kz uZ r r (hS.hc 2 r ci df 0 _ r)) (mH A hu) (pL 11 r (Dl r) A hu (tU 12 r (fun _ hS=>l3 r (hS.bk 3 r) r) (mH A hu) (pL 13 r (mp r) A hu (pL 14 r (xn r) A hu (pL 15 r (qU r) A hu (pL 16 r (zT r) A hu (tU 17 r (fun _ hS=>MJ r (hS.bk 1 r) r) (mH A hu) (pL 18 r (lg Ca r) A hu (pL 19 r (xU r r) A hu ?_)))))))))))))))))))
      obtain ⟨aT,c6,ar⟩:=bs ar
      obtain ⟨dg,dh,c6⟩:=kG c6
      refine pL 20 r (kZ uZ wz r r dh (a.vw 0 0 r r) c6) A hu (pL 21 r (IY r) A hu ?_)
      obtain ⟨dQ,c7,ar⟩:=bs ar
      obtain ⟨dR,e1,_,c7⟩:=A7 c7
      obtain rfl:dg=dR:=by omega
      obtain ⟨dS,di,cj⟩:=(a.de 0 rfl).get c6
      replace cj:dS=[T aT.a,V aT.e,V aT.b,V aT.f,.bool aT.c,V aT.d,V aT.g]:=cj
      subst cj
      refine hO 22 (os r r (Hy a 0 0 dg 6 [V (wr ((F.a.b.length:Int) - 1))] r r di pJ r r r r r (show _=[T aT.a,V aT.e,V aT.b,V aT.f,.bool aT.c,V aT.d,V (wr ((F.a.b.length:Int) - 1))] from r) r c7) ?_)
      rintro Tj ⟨dj,a⟩
      try dsimp only [List.set] at a
      have cw:dP.length=dQ.length:=by rw [← c7,List.length_set]
      try dsimp only [Z] at a
      try rw [cw] at a
      try dsimp only [Z]
      try rw [cw]
      have A:=(a.ad [1,3,5,12] [4])
      refine ⟨(sy 22 A),(hD ?_)⟩
      obtain ⟨dk,c8,ar⟩:=bs ar
      obtain ⟨dT,e2,_,c8⟩:=A7 c8
      obtain rfl:cW=dT:=by omega
      have e3:=(a.de 0 r).len
      replace a:=a.hd 5 (H':=((aJ.set cW ⟨db,dd,dj⟩).map Rw.hdr)) r (Rv ci (by omega))
      try dsimp only [List.set] at a
      replace a:=a.arr [0,1,2,3,4,5,6,7,8,9,10,11,12] r
      try dsimp only [pick,nth,ca,na] at a
      replace a:=a.TD 4 0 r r
      try dsimp only [List.set] at a
      rw [c8] at a
      obtain ⟨dU,dm⟩:∃ R,(aJ.set cW ⟨db,dd,dj⟩)=R:=⟨_,rfl⟩
      rw [dm] at a
      have cx:F.a.c.length=dk.length:=by rw [← c8,List.length_set]
      try dsimp only [Z] at a
      try rw [cx] at a
      try dsimp only [Z]
      try rw [cx]
      exact cv _ _ ⟨dk,b9,ba,dU,⟨r,r,r,r,y⟩,(a.ad [1,2,3,4,0,5,6,7,8,9,10,11] [1,2,3,4,5,6,12,13,19,26]),sm ar⟩
     exact jI (bf cV) (wk (cv _ _ ⟨F.a.c,b9,ba,aJ,⟨r,r,r,r,y⟩,(a.dp [0,1,2,3,4,5,11,12,18,25]),sm ar⟩))
    clear a
    rintro f w ⟨bg,aM,aN,aO,hf,a,dn⟩
    obtain ⟨eX,rfl⟩:=gP _ _ hf
    clear hf
    subst dn
    replace W:=gi W
    refine q (g (s (mp r) (s (mD r) (s (xn r) (s (Ba r) (lu (lW a 1 [Z ce cq cg] r Er r r) fun eJ a=>n (q (g (s (mE [V a1,V H,V I,T J,T K,V L,V aH,Z j z m,T M,V N,Z c a2 h,Z o a6 p,Z a7 aI a8] lG jP r (a.bk 11 r)) (lu (nD a 10 [V a1,V H,V I,T J,T K,V L,V aH,Z j z m,T M,V N,Z c a2 h,Z o a6 p,Z a7 aI a8] r jP r r) fun eK a=>n (kP ?_)))))))))))
    replace a:=a.fz 9 8 r r
    replace a:=a.fz 8 8 r r
    replace a:=a.fz 0 2 r r
    replace a:=a.rb 6 aF r Y
    obtain rfl:=sm W
    replace x:=oi x
    obtain rfl:=sm x
    exact jC r (uN r lG r jP r (a.bk 7 r)) (lw (⟨j,m,c,h,o,p,a7,a8,aM,aN,aO,av,aw,aK,ce,cg,cO,r,(a.ad [0,1,2,3,4,6] [9,2,1,0,3,4,5,6,8])⟩))
   exact jI (bf cN) (wk (cu _ _ ⟨⟨r,r,r,y⟩,(a.dp [0,1,2,3,4,5,6,13,16]),sm W⟩))
  rw [decide_eq_false cM]
  exact jB r (jB r (jB r (jB r (jB r (s (jX r r) (n (jI r (wk (cu _ _ ⟨⟨r,r,r,y⟩,(a.dp [0,1,2,3,4,5,6,13,16]),sm W⟩)))))))))
 clear a
 rintro f w ⟨hf,a,dq⟩
 obtain ⟨eX,rfl⟩:=gP _ _ hf
 clear hf
 subst dq
 replace x:=gi x
 refine q (g (s (mp r) (s (tZ r) (s (FV r (a.bk 9 r) r) ?_))))
 obtain ⟨bh,dV,dW,x⟩:=lV x
 have hc:=H_r04_block (a.pr [1,2,3,4,5,6] [0,7,8,9] [1,2,3,4,5,8] r) (a.le a3) (a.le a4) (a.le a5) (a.le X) (a.le Y) dW
 refine sc (ec MU r) hc ?_
 rintro _ eL ⟨ak,al,cY,bU,bV,bW,bX,bY,bZ,c0,c1,c2,rfl,hK⟩
 have bw:=a.rX.size
 replace a:=a.cn [1,2,3,4,5,6] [0,7,8,9] hK
 replace a:=a.rb 0 w0.heap.size r bw
 refine s (tZ r) (lu (lW a 10 [Z ak bh al] r yG r r) fun eM a=>n (q (g (s (mE [V a1,V H,V I,T J,T K,V L,V ai,Z j z m,T M,V N,Z c a2 h,Z o a6 p,Z ak bh al] lG jP r (a.bk 10 r)) (lu (nD a 9 [V a1,V H,V I,T J,T K,V L,V ai,Z j z m,T M,V N,Z c a2 h,Z o a6 p,Z ak bh al] r jP r r) fun eN a=>n (kP ?_))))))
 replace a:=a.fz 8 12 r r
 replace a:=a.fz 7 7 r r
 replace a:=a.fz 0 2 r r
 obtain rfl:=sm x
 exact jC r (uN r lG r jP r (a.bk 6 r)) (lw (⟨j,m,c,h,o,p,ak,al,bU,bV,bW,bX,bY,bZ,c0,c1,c2,r,(a.ad [0,1,2,3,4,5] [13,2,1,0,3,4,5,6,7])⟩))
theorem HZ (fu:Nat):yc (kR fu)∧AU (qc fu):=by
 induction fu with
 | zero=>exact ⟨by intro a b;intros;exact nn (by assumption),by intro a b;intros;exact nn (by assumption)⟩
 | succ fu ih=>exact ⟨Ka fu (kR fu) (qc fu) ih.1 ih.2,KE fu (kR fu) (qc fu) ih.1 ih.2⟩
theorem JB (fu:Nat):yc (kR fu):=(HZ fu).1
def FO (m:Gt→Gn→Option (Gn × Gt)):Prop:=∀ {w0:World} {a7:Nat→Prop} {k:Gt} {x1:Gn} {a3:Nat} {d:Option Addr} {h:Nat} {a:Option Addr} {b:Nat} {i:List (List Value)} {o:Nat} {p:Option Addr} {t:Nat} {j:List Rw} {u:Nat} {x:Nat} {z:Option Addr} {A:Nat} {G:List (List Value)} {B:Nat} {C:Option Addr} {D:Nat} {H:List (List Value)} {E:Nat} {S:Option Addr} {U:Nat} {W:Option Addr} {X:Nat} {R:Gn × Gt},Pre w0 a7 [.box a3 115 #[Z d k.a.a.a h,Z a k.a.a.b b,Z p k.a.c t,Z z k.a.b A,V k.f,Z C k.b D,V k.c,V k.e],O o a b 82 Gn i,O u p t 60 (List Gv) (j.map Rw.hdr),.tN x 59 (sz Gv) j none,O B z A 65 Gi G,O E C D 3 Int H] [.l d h k.a.a.a,.els i k.a.a.b,.nN j k.a.c,.els G k.a.b,.els H k.b,.l S U x1.b,.l W X x1.f]→o≤w0.heap.size→u≤w0.heap.size→x≤w0.heap.size→B≤w0.heap.size→E≤w0.heap.size→m k x1=some R→
 Calls Try.prog 49 #[Pt a3,.agg #[T x1.a,V x1.c,Z S x1.b U,Z W x1.f X]] w0 (rf fun v w=>iA R fun r0 c=>∃ (Y:OA)(a0:Nat)(a1:OA)(a2:Nat)(I:OA)(J:Nat)(F:List Rw) (K:OA)(L:Nat)(M:LV)(N:OA)(P:Nat)(Q:LV),v=.agg #[T r0.a,V r0.c,Z Y r0.b a0,Z a1 r0.f a2]∧Bx w0 w a7 (lT [.box a3 115 #[Z d k.a.a.a h,Z a k.a.a.b b,Z p k.a.c t,Z z k.a.b A,V k.f,Z C k.b D,V k.c,V k.e],O o a b 82 Gn i,O u p t 60 (List Gv) (j.map Rw.hdr),.tN x 59 (sz Gv) j none,O B z A 65 Gi G,O E C D 3 Int H]) [.box a3 115 #[Z d c.a.a.a h,Z a c.a.a.b b,Z I c.a.c J,Z K c.a.b L,V c.f,Z N c.b P,V c.c,V c.e],O o a b 82 Gn i,O u I J 60 (List Gv) (F.map Rw.hdr),.tN x 59 (sz Gv) F none,O B K L 65 Gi M,O E N P 3 Int Q] [.l Y a0 r0.b,.l a1 a2 r0.f,.l d h c.a.a.a,.els i c.a.a.b,.nN F c.a.c,.els M c.a.b,.els Q c.b])
def lq (fu:Nat)(m:Gn):List BA→Nat→(List Int)→(List Gr)→Int→Int→Int→(List Gn)→(List (List Gv))→(List Gi)→Option (Ld (List Int × List Gr × Int × Int × Int × List Gn × List (List Gv) × List Gi) (Gn × Gt))
 | [],_,c,d,h,i,j,k,l,b=>some (.go (c,d,h,i,j,k,l,b))
 | p :: t,u,c,d,h,i,j,k,l,b=>
 (nR fu (⟨(⟨(⟨d,k⟩:jJ),l,b⟩:jW),h,c,i,j⟩:Gt) m.c (⟨p,1,(-1),1,true,(b.length:Int),0⟩:Gv)).bind fun v=>
 iA v fun o a=>
 lq fu m t (u+1) a.b a.a.a.a a.f a.c a.e a.a.a.b a.a.c a.a.b
def lM (fu:Nat)(a:Gt):List BA→Nat→(List (List Gv))→Option (Ld (List (List Gv)) (Gn × Gt))
 | [],_,b=>some (.go b)
 | k :: h,d,b=>
 (ix b a.f).bind fun e=>
 (ix e (d:Int)).bind fun c=>
 (st e (d:Int) (⟨c.a,c.e,c.b,c.f,c.c,c.d,(wr ((a.a.b.length:Int) - 1))⟩:Gv)).bind fun i=>
 (st b a.f i).bind fun j=>
 lM fu a h (d+1) j
def tF (fu:Nat)(d:Gt) (b:Gn):Option (Gn × Gt):=
 if 4 < (b.b.length:Int) then
  (lh fu d b.c 5).bind fun v=>
  some (b,v)
 else
  (lq fu b b.b 0 ([]:List Int) d.a.a.a d.f d.c d.e d.a.a.b d.a.c d.a.b).bind fun w=>w.el (fun w=>
  iA w fun h w=>iA w fun i w=>iA w fun j w=>iA w fun k w=>iA w fun c w=>iA w fun l w=>iA w fun m p=>
  if c=0 then
   (kR fu (⟨(⟨(⟨i,l⟩:jJ),m,p⟩:jW),j,h,k,c⟩:Gt) b.f).bind fun w=>
   iA w fun t a=>
   (lM fu a b.b 0 a.a.c).bind fun w=>w.el (fun u=>
   some ((⟨b.a,b.c,b.b,t⟩:Gn),(⟨(⟨a.a.a,u,a.a.b⟩:jW),a.f,a.b,a.c,a.e⟩:Gt))
   ) (fun o=>some o)
  else
   some (b,(⟨(⟨(⟨i,l⟩:jJ),m,p⟩:jW),j,h,k,c⟩:Gt))
  ) (fun o=>some o)
theorem BM (fu:Nat):FO (tF fu):=by
 intro w0 ch x0 j ar L M z A N ai aj ak au al am Q S ab an aA aB aQ aC c d t u R hP av aw ax ay az hM
 unfold tF at hM
 have a:=hP.bx
 clear hP
 generalize hG:lT _=G at a ⊢
 refine cf Try.func49 r (ma [(0,Pt ar),(1,.agg #[T j.a,V j.c,Z c j.b d,Z t j.f u])] ⟨r,r,y⟩ fun ci=>q (g (tL a (yI r) fun w1 b1 a=>tL a (ko mX) fun w2 b2 a=>n (q (q (g (s (zD r) (s (yF r (a.bk 1 r) r) (s (lg kL r) (s (vG r r) (n ?_)))))))))))
 rcases iv hM with ⟨h3,hM⟩|⟨h3,hM⟩
 ·refine jH (bt h3) (q (g (s (mp r) (s (ET r) (s (l3 r (a.bk 1 r) r) ?_)))))
  obtain ⟨bI,h4,hM⟩:=bs hM
  have hc:=(nT fu) (a.pr [2,3,4,5,6,7] [0,1] [0,1,2,3,4] r) (a.le av) (a.le aw) (a.le ax) (a.le ay) (a.le az) h4
  refine sc (ec zR r) hc ?_
  rintro _ w4 ⟨rfl,hK⟩
  replace a:=a.cn [2,3,4,5,6,7] [0,1] hK
  refine n (q (g (s (mE [T j.a,V j.c,Z c j.b d,Z t j.f u] Bv mX r (a.bk 7 r)) (lu (nD a 6 [T j.a,V j.c,Z c j.b d,Z t j.f u] r mX r r) fun w5 a=>n (kP ?_)))))
  obtain rfl:=sm hM
  exact jC r (uN r Bv r mX r (a.bk 6 r)) (lw (⟨c,d,t,u,aj,ak,au,Q,S,ab,aA,aB,aQ,r,(a.ad [0,1,2,3,4,5] [10,11,0,1,2,3,4])⟩))
 refine jI (bf h3) (wk (q (g (s (mp r) (s (xn r) (s (Ba r) (lu (lW a 2 [sn] r Er r r) fun w6 a=>n (q (q (g (s (zD r) (s (yF r (a.bk 1 r) r) (s (lg kL r) (s (mi r) (n ?_)))))))))))))))
 replace a:=a.BQ Int 3
 have bS:=(a.dl 6 r).bd
 obtain ⟨Y7,ao,hM⟩:=bs hM
 refine oC (fun f w=>∃ (a6:List Int) (U:OA)(W:Nat)(X:LV)(a7:List Gr) (ae:Int)(af:Int)(ag:Int)(a8:List Gn) (a9:List (List Gv)) (Y:OA)(a0:Nat)(B:List Rw) (aa:List Gi),Has f [(0,Pt ar),(3,Pt b1),(4,Pt b2)]∧Bx w0 w ch G [O w0.heap.size U W 3 Int X,.box b2 82 #[T be,V 0,sn,sn],.box b1 82 #[T j.a,V j.c,Z c j.b d,Z t j.f u],.box ar 115 #[Z L a7 M,Z z a8 A,Z Y a9 a0,Z Q aa S,V ae,Z U a6 W,V af,V ag],O ai z A 82 Gn N,O al Y a0 60 (List Gv) (B.map Rw.hdr),.tN am 59 (sz Gv) B none,O an Q S 65 Gi ab] [.l L M a7,.els X a6,.els N a8,.nN B a9,.els ab aa,.l c d j.b,.l t u j.f]∧Ld.go (a6,a7,ae,af,ag,a8,a9,aa)=Y7) (fun J7 bu=>?_) ?_
 ·refine nZ (kH (fun cj f w=>∃ (k7:Nat)(a6:List Int) (U:OA)(W:Nat)(X:LV)(a7:List Gr) (ae:Int)(af:Int)(ag:Int)(a8:List Gn) (a9:List (List Gv)) (Y:OA)(a0:Nat)(B:List Rw) (aa:List Gi),cj=j.b.length - k7∧k7≤j.b.length∧Has f [(23,V (k7:Int)),(0,Pt ar),(3,Pt b1),(4,Pt b2),(21,Z c j.b d),(22,V (j.b.length:Int))]∧Bx w0 w ch G [O w0.heap.size U W 3 Int X,.box b2 82 #[T be,V 0,sn,sn],.box b1 82 #[T j.a,V j.c,Z c j.b d,Z t j.f u],.box ar 115 #[Z L a7 M,Z z a8 A,Z Y a9 a0,Z Q aa S,V ae,Z U a6 W,V af,V ag],O ai z A 82 Gn N,O al Y a0 60 (List Gv) (B.map Rw.hdr),.tN am 59 (sz Gv) B none,O an Q S 65 Gi ab] [.l L M a7,.els X a6,.els N a8,.nN B a9,.els ab aa,.l c d j.b,.l t u j.f]∧lq fu j (j.b.drop k7) k7 a6 a7 ae af ag a8 a9 aa=some Y7) (j.b.length) ⟨0,([]:List Int),none,0,[],x0.a.a.a,x0.f,x0.c,x0.e,x0.a.a.b,x0.a.c,aj,ak,au,x0.a.b,r,Nat.zero_le _,⟨r,r,r,r,r,r,y⟩,(a.ad [0,1,2,3,4,5,6,7] [1,0,2,3,4,6,7]),ao⟩ ?_)
  clear a ao
  rintro cj f w ⟨k7,a6,U,W,X,a7,ae,af,ag,a8,a9,Y,a0,B,aa,rfl,bT,hf,a,ao⟩ K7 bv
  obtain ⟨ci,rfl⟩:=gP _ _ hf
  clear hf
  rcases Nat.lt_or_ge k7 j.b.length with b6 | b6
  ·obtain ⟨u7,b0⟩:=lL (l:=j.b) b6
   rw [mQ b0,lq] at ao
   refine q (g (s (qK r r (by omega)) (n (q (jH r (wk (q (nZ (q (g (s (kZ kL pV r r r (a.dl 5 r) b0) (s (kz rH r r ((vo (ds:=[T u7]) (a.dl 5 r) b0 (fun _ h=>h)) 0 _ r)) (s (mZ r) (n (Fa a [2] [] [2,3] [] [11] (by kernel_rfl) ?_)))))))))))))))
   replace a:=a.drew
   have hs:=(a.ad [2] [])
   have hu:=(a.ad [2,3] [])
   refine pL 0 r (mp r) hs hu (pL 1 r (ET r) hs hu (tU 2 r (fun _ hS=>l3 r (hS.bk 0 r) r) (mH hs hu) (pL 3 r (lc r) hs hu (pL 4 r (mp r) hs hu (pL 5 r (xn r) hs hu (pL 6 r (qU r) hs hu (pL 7 r (zT r) hs hu (tS 3 8 r (fun _ hS=>MJ r (hS.bk 1 r) r) (mH hs hu) (pL 9 r (lg Ca r) hs hu (pL 10 r (EO r r r r r r) hs hu ?_))))))))))
   obtain ⟨bL,ah,h9,ao⟩:=lV ao
   have hc:=(Ao fu) (a.pr [3,4,5,6,7,0] [1,2] [0,2,3,4,1] r) (a.le av) (a.le aw) (a.le ax) (a.le ay) a.rX.size h9
   refine hO 11 (oc r r (ec OD r) hc ?_)
   rintro _ w9 ⟨aJ,aK,aL,aM,aN,aO,rfl,hK⟩
   replace a:=a.cn [3,4,5,6,7,0] [1,2] hK
   have hs:=(a.ad [7] [])
   exact ⟨(sy 11 hs),(hD (g (s (mg r r (by omega) (by omega)) (s (mi r) (n (bv (j.b.length - (k7+1)) _ _ (by omega) ⟨k7+1,ah.b,aM,aN,aO,ah.a.a.a,ah.f,ah.c,ah.e,ah.a.a.b,ah.a.c,aJ,aK,aL,ah.a.b,r,by omega,⟨r,r,r,r,r,r,y⟩,(a.ad [5,6,7,0,1,2,3,4] [0,4,1,2,3,10,11]),ao⟩))))))⟩
  obtain rfl:k7=j.b.length:=by omega
  rw [lH,lq] at ao
  exact q (g (s (qL r r (by omega)) (n (q (jI r (uW (bu _ _ ⟨a6,U,W,X,a7,ae,af,ag,a8,a9,Y,a0,B,aa,⟨r,r,r,y⟩,a,sm ao⟩)))))))
 clear a
 rintro f w ⟨a6,U,W,X,a7,ae,af,ag,a8,a9,Y,a0,B,aa,hf,a,bw⟩
 obtain ⟨ci,rfl⟩:=gP _ _ hf
 clear hf
 subst bw
 replace hM:=gi hM
 replace hM:=pi (mf (mf hM))
 refine q (q (g (s (mp r) (s (xn r) (s (zL r) (s (CW r (a.bk 3 r) r) (s (kK r r) (n ?_))))))))
 rcases iv hM with ⟨b3,hM⟩|⟨b3,hM⟩
 ·refine jH (bt b3) (q (g (s (mp r) (s (Av r) (s (FV r (a.bk 2 r) r) ?_)))))
  obtain ⟨a1,b,bz,hM⟩:=lV hM
  have hc:=(JB fu) (a.pr [3,4,5,6,7,0] [1,2] [0,2,3,4,1,6] r) (a.le av) (a.le aw) (a.le ax) (a.le ay) a.rX.size bz
  refine sc (ec MU r) hc ?_
  rintro _ bW ⟨m,o,a4,aD,aE,aF,C,D,E,F,H,I,rfl,hK⟩
  have bA:=a.rX.size
  replace a:=a.cn [3,4,5,6,7,0] [1,2] hK
  replace a:=a.rb 0 w0.heap.size r bA
  refine s (Av r) (lu (lW a 8 [Z m a1 o] r yG r r) fun bX a=>n (q (g (s (zD r) (s (yF r (a.bk 8 r) r) (s (lg kL r) (s (mi r) (n ?_))))))))
  have bM:=(a.dl 11 r).bd
  obtain ⟨b7,J,hM⟩:=bs hM
  refine oC (fun f w=>∃ (K:List (List Gv)) (v:OA)(x:Nat)(p:List Rw),Has f [(3,Pt b1),(4,Pt b2)]∧Bx w0 w ch G [O w0.heap.size m o 111 Gs a4,.box ar 115 #[Z L b.a.a.a M,Z z b.a.a.b A,Z v K x,Z C b.a.b D,V b.f,Z F b.b H,V b.c,V b.e],O ai z A 82 Gn N,O al v x 60 (List Gv) (p.map Rw.hdr),.tN am 59 (sz Gv) p none,O an C D 65 Gi E,O w0.heap.size F H 3 Int I,.box b2 82 #[T be,V 0,sn,sn],.box b1 82 #[T j.a,V j.c,Z c j.b d,Z m a1 o]] [.els a4 a1,.l L M b.a.a.a,.els N b.a.a.b,.nN p K,.els E b.a.b,.els I b.b,.l c d j.b]∧Ld.go K=b7) (fun bY b8=>?_) ?_
  ·refine nZ (kH (fun cj f w=>∃ (aq:Nat)(K:List (List Gv)) (v:OA)(x:Nat)(p:List Rw),cj=j.b.length - aq∧aq≤j.b.length∧Has f [(53,V (aq:Int)),(0,Pt ar),(3,Pt b1),(4,Pt b2),(52,V (j.b.length:Int))]∧Bx w0 w ch G [O w0.heap.size m o 111 Gs a4,.box ar 115 #[Z L b.a.a.a M,Z z b.a.a.b A,Z v K x,Z C b.a.b D,V b.f,Z F b.b H,V b.c,V b.e],O ai z A 82 Gn N,O al v x 60 (List Gv) (p.map Rw.hdr),.tN am 59 (sz Gv) p none,O an C D 65 Gi E,O w0.heap.size F H 3 Int I,.box b2 82 #[T be,V 0,sn,sn],.box b1 82 #[T j.a,V j.c,Z c j.b d,Z m a1 o]] [.els a4 a1,.l L M b.a.a.a,.els N b.a.a.b,.nN p K,.els E b.a.b,.els I b.b,.l c d j.b]∧lM fu b (j.b.drop aq) aq K=some b7) (j.b.length) ⟨0,b.a.c,aD,aE,aF,r,Nat.zero_le _,⟨r,r,r,r,r,y⟩,(a.dp [0,1,2,3,4,5,11]),J⟩ ?_)
   clear a J
   rintro cj f w ⟨aq,K,v,x,p,rfl,bN,hf,a,J⟩ bZ b9
   obtain ⟨ci,rfl⟩:=gP _ _ hf
   clear hf
   rcases Nat.lt_or_ge aq j.b.length with aX | aX
   ·obtain ⟨c0,ba⟩:=lL (l:=j.b) aX
    rw [mQ ba,lM] at J
    refine q (g (s (qK r r (by omega)) (n (q (jH r (wk (q (nZ (q (g (s (mi r) (s (xi r) (n ?_)))))))))))))
    obtain ⟨bB,aR,J⟩:=bs J
    obtain ⟨b4,bb,aR⟩:=kG aR
    replace a:=a.arr [4,0,1,2,3,5,6,7,8] r
    try dsimp only [pick,nth,ca,na] at a
    obtain ⟨bc,bg,c1,aS,bh,a⟩:=a.Sd 3 rfl aR
    refine Fa a [1,3,5] [4] [0,1,3,5] [0,4] [21] (by kernel_rfl) ?_
    replace a:=a.drew
    have hs:=(a.ad [1,3,5] [4])
    have hu:=(a.ad [0,1,3,5] [0,4])
    refine pL 0 r (mp r) hs hu (pL 1 r (xn r) hs hu (pL 2 r (qU r) hs hu (pL 3 r (vV r) hs hu (tU 4 r (fun _ hS=>Ih r (hS.bk 1 r) r) (mH hs hu) (pL 5 r (mp r) hs hu (pL 6 r (xn r) hs hu (pL 7 r (AV r) hs hu (tU 8 r (fun _ hS=>l3 r (hS.bk 1 r) r) (mH hs hu) (pL 9 r (La Bd Br r r bb (a.bo 5 r) aS (a.d2 4 r).len) hs hu (tU 10 r (fun _ hS=>kz uZ r r (hS.hc 2 r aS bh 0 _ r)) (mH hs hu) (pL 11 r (mi r) hs hu (pL 12 r (mp r) hs hu (pL 13 r (xn r) hs hu (pL 14 r (qU r) hs hu (pL 15 r (zT r) hs hu (tU 16 r (fun _ hS=>MJ r (hS.bk 1 r) r) (mH hs hu) (pL 17 r (lg Ca r) hs hu (pL 18 r (xU r r) hs hu ?_))))))))))))))))))
    obtain ⟨ac,aG,J⟩:=bs J
    obtain ⟨bi,bj,aG⟩:=kG aG
    refine pL 19 r (kZ uZ wz r r bj (a.vw 0 0 r r) aG) hs hu (pL 20 r (IY r) hs hu ?_)
    obtain ⟨bC,aH,J⟩:=bs J
    obtain ⟨bD,bO,_,aH⟩:=A7 aH
    obtain rfl:bi=bD:=by omega
    obtain ⟨bE,bl,aT⟩:=(a.de 0 rfl).get aG
    replace aT:bE=[T ac.a,V ac.e,V ac.b,V ac.f,.bool ac.c,V ac.d,V ac.g]:=aT
    subst aT
    refine hO 21 (os r r (Hy a 0 0 bi 6 [V (wr ((b.a.b.length:Int) - 1))] r r bl pJ r r r r r (show _=[T ac.a,V ac.e,V ac.b,V ac.f,.bool ac.c,V ac.d,V (wr ((b.a.b.length:Int) - 1))] from r) r aH) ?_)
    rintro c2 ⟨bm,a⟩
    try dsimp only [List.set] at a
    have aY:bB.length=bC.length:=by rw [← aH,List.length_set]
    try dsimp only [Z] at a
    try rw [aY] at a
    try dsimp only [Z]
    try rw [aY]
    have hs:=(a.ad [1,3,5] [4])
    refine ⟨(sy 21 hs),(hD (g (s (mg r r (by omega) (by omega)) (s (mi r) (n ?_)))))⟩
    obtain ⟨bn,aI,J⟩:=bs J
    obtain ⟨bF,bP,_,aI⟩:=A7 aI
    obtain rfl:b4=bF:=by omega
    have bQ:=(a.de 0 r).len
    replace a:=a.hd 5 (H':=((p.set b4 ⟨bc,bg,bm⟩).map Rw.hdr)) r (Rv aS (by omega))
    try dsimp only [List.set] at a
    replace a:=a.arr [0,1,2,3,4,5,6,7,8,9] r
    try dsimp only [pick,nth,ca,na] at a
    replace a:=a.TD 4 0 r r
    try dsimp only [List.set] at a
    rw [aI] at a
    obtain ⟨bG,bp⟩:∃ R,(p.set b4 ⟨bc,bg,bm⟩)=R:=⟨_,rfl⟩
    rw [bp] at a
    have aZ:K.length=bn.length:=by rw [← aI,List.length_set]
    try dsimp only [Z] at a
    try rw [aZ] at a
    try dsimp only [Z]
    try rw [aZ]
    exact b9 (j.b.length - (aq+1)) _ _ (by omega) ⟨aq+1,bn,v,x,bG,r,by omega,⟨r,r,r,r,r,y⟩,(a.ad [1,2,3,4,0,5,6,7,8] [1,2,3,4,5,6,7]),J⟩
   obtain rfl:aq=j.b.length:=by omega
   rw [lH,lM] at J
   exact q (g (s (qL r r (by omega)) (n (q (jI r (uW (b8 _ _ ⟨K,v,x,p,⟨r,r,y⟩,a,sm J⟩)))))))
  clear a
  rintro f w ⟨K,v,x,p,hf,a,bq⟩
  obtain ⟨ci,rfl⟩:=gP _ _ hf
  clear hf
  subst bq
  replace hM:=gi hM
  refine q (g (s (mE [T j.a,V j.c,Z c j.b d,Z m a1 o] Bv mX r (a.bk 8 r)) (lu (nD a 7 [T j.a,V j.c,Z c j.b d,Z m a1 o] r mX r r) fun c3 a=>n (kP ?_))))
  replace a:=a.fz 0 0 r r
  replace a:=a.rb 5 aC r az
  obtain rfl:=sm hM
  exact jC r (uN r Bv r mX r (a.bk 6 r)) (lw (⟨c,d,m,o,v,x,p,C,D,E,F,H,I,r,(a.ad [0,1,2,3,4,5] [6,0,1,2,3,4,5])⟩))
 refine jI (bf b3) (wk (q (g (s (mE [T j.a,V j.c,Z c j.b d,Z t j.f u] Bv mX r (a.bk 2 r)) (lu (nD a 1 [T j.a,V j.c,Z c j.b d,Z t j.f u] r mX r r) fun c4 a=>n (kP ?_))))))
 replace a:=a.rb 0 aC r az
 obtain rfl:=sm hM
 exact jC r (uN r Bv r mX r (a.bk 1 r)) (lw (⟨c,d,t,u,Y,a0,B,Q,S,ab,U,W,X,r,(a.ad [3,4,5,6,7,0] [5,6,0,2,3,4,1])⟩))
def Km (m:jJ→Option (jW × Int × Int)):Prop:=∀ {x:World} {B:Nat→Prop} {u:jJ} {a:Option Addr} {b:Nat} {c:Option Addr} {d:Nat} {R:jW × Int × Int},Pre x B [] [.l a b u.a,.l c d u.b]→m u=some R→
 Calls Try.prog 36 #[.agg #[Z a u.a b,Z c u.b d]] x (rf fun v w=>iA R fun t R=>iA R fun z A=>∃ (e:OA)(f:Nat)(h:OA)(i:Nat)(j:OA)(k:Nat)(o:OA)(p:Nat),v=.tuple #[.agg #[Z e t.a.a f,Z h t.a.b i,Z j t.c k,Z o t.b p],V z,V A]∧Bx x w B (lT []) [] [.l e f t.a.a,.l h i t.a.b,.l j k t.c,.l o p t.b])
def oq (fu:Nat)(p:jJ):Nat→Int→(List Gr)→Int→Int→Int→(List Gn)→(List (List Gv))→(List Gi)→(List Int)→Option (Ld (Int × List Gr × Int × Int × Int × List Gn × List (List Gv) × List Gi × List Int) (jW × Int × Int))
 | 0,_,_,_,_,_,_,_,_,_=>none
 | t+1,b,d,m,h,c,i,j,k,l=>
 if b < (p.b.length:Int) then
  if c=0 then
   (app j [[]]).bind fun u=>
   (ix p.b b).bind fun v=>
   (tF fu (⟨(⟨(⟨d,i⟩:jJ),u,k⟩:jW),b,l,h,c⟩:Gt) v).bind fun z=>
   iA z fun o a=>
   (ix a.a.a.b b).bind fun x=>
   (st a.a.a.b b o).bind fun w=>
   oq fu p t (wr (b+1)) a.a.a.a a.f a.c a.e w a.a.c a.a.b a.b
  else
   some (.go (b,d,m,h,c,i,j,k,l))
 else
  some (.go (b,d,m,h,c,i,j,k,l))
def uO (fu:Nat)(k:jJ):Option (jW × Int × Int):=
 (app ([]:List Gn) k.b).bind fun t=>
 (xx fu (⟨(⟨(⟨k.a,t⟩:jJ),([]:List (List Gv)),([]:List Gi)⟩:jW),0,([]:List Int),0,0⟩:Gt)).bind fun a=>
 (oq fu k fu 0 a.a.a.a a.f a.c a.e a.a.a.b a.a.c a.a.b a.b).bind fun u=>u.el (fun u=>
 iA u fun l u=>iA u fun c u=>iA u fun m u=>iA u fun d u=>iA u fun b u=>iA u fun h u=>iA u fun i u=>iA u fun j p=>
 if b≠0 then
  some ((⟨(⟨([]:List Gr),([]:List Gn)⟩:jJ),([]:List (List Gv)),([]:List Gi)⟩:jW),d,b)
 else
  some ((⟨(⟨c,h⟩:jJ),i,j⟩:jW),0,0)
 ) (fun o=>some o)
theorem JV (fu:Nat):Km (uO fu):=by
 intro w0 bS x0 m o ab ac R hP hM
 unfold uO at hM
 have a:=hP.bx
 clear hP
 generalize hG:lT _=G at a ⊢
 refine cf Try.func36 r (ma [(0,.agg #[Z m x0.a o,Z ab x0.b ac])] ⟨r,y⟩ fun bT=>q (g (tL a (yI r) fun w1 b1 a=>tL a (ko zM) fun w2 b2 a=>s (xi r) (s (xi r) (n (q (oJ a [1] [] [] (by kernel_rfl) ?_)))))))
 replace a:=a.drew
 have hs:=(a.ad [1] [])
 refine pF 0 r (wE r) hs (uF 1 r (fun hS=>JP r (hS.bk 0 r) r) hs (pF 3 r (vS r) hs (uF 4 r (fun hS=>Iq r (hS.bk 0 r) r) hs (hO 2 (oo r r (jV a [] ([]:List Gn) (Ow) r r (by decide) y) ?_)))))
 rintro _ w3 ⟨b3,rfl,a⟩
 have hs:=(a.ad [2] [])
 refine ⟨(sF hs),?_⟩
 obtain ⟨r4,bd,hM⟩:=bs hM
 refine hO 5 (oo r r (kS a 0 0 r r yR mX r (by decide) (by decide) (Nat.le_refl _) r r (a.VH 2 r) bd) ?_)
 rintro _ w4 ⟨A4,C4,Q4,rfl,a⟩
 have hs:=(a.ad [2] [])
 refine ⟨(sF hs),(pF 6 r (Pm r r) hs (pF 7 r (Sk r) hs (pF 8 r (P6 r) hs (hO 9 (oo r r (rM a (yI r)) ?_)))))⟩
 rintro _ w6 ⟨b6,rfl,a⟩
 have hs:=(a.ad [3] [])
 refine ⟨(sF hs),(pF 10 r (PD r) hs (hD (q (g (s (mp r) ?_)))))⟩
 replace a:=a.UK Gv 60 59
 replace a:=a.BQ Gi 65
 replace a:=a.BQ Int 3
 obtain ⟨aa,bg,hM⟩:=bs hM
 have hc:=(Jm fu) (a.pr [4,5,2,3,1,0] [6,7] [4,3,2,1,0] r) a.rX.size a.rX.size a.rX.size a.rX.size a.rX.size bg
 refine sc (ec Ui r) hc ?_
 rintro _ bv ⟨rfl,hK⟩
 replace a:=a.cn [4,5,2,3,1,0] [6,7] hK
 refine n (q (q (g (s (xi r) (n ?_)))))
 obtain ⟨aV,j,hM⟩:=bs hM
 refine oC (fun f w=>∃ (W:Int)(J:List Gr) (a9:Int)(a7:Int)(a8:Int)(K:List Gn) (b:OA)(c:Nat)(a4:LV)(N:List (List Gv)) (v:OA)(x:Nat)(Q:List Rw) (L:List Gi) (p:OA)(t:Nat)(a5:LV)(X:List Int) (S:OA)(U:Nat)(a6:LV),Has f [(2,Pt b2),(5,Pt b6)]∧Bx w0 w bS G [.box b6 115 #[Z m J o,Z b K c,Z v N x,Z p L t,V a9,Z S X U,V a7,V a8],O w0.heap.size b c 82 Gn a4,O w0.heap.size v x 60 (List Gv) (Q.map Rw.hdr),.tN w0.heap.size 59 (sz Gv) Q none,O w0.heap.size p t 65 Gi a5,O w0.heap.size S U 3 Int a6,.box b2 30 #[sn,sn,sn,sn],.box b1 26 #[Z m x0.a o,Z ab x0.b ac]] [.l m o J,.els a4 K,.nN Q N,.els a5 L,.els a6 X,.l m o x0.a,.l ab ac x0.b]∧Ld.go (W,J,a9,a7,a8,K,N,L,X)=aV) (fun bw aw=>?_) ?_
 ·refine nZ (kH (fun bU f w=>∃ (W:Int)(J:List Gr) (a9:Int)(a7:Int)(a8:Int)(K:List Gn) (b:OA)(c:Nat)(a4:LV)(N:List (List Gv)) (v:OA)(x:Nat)(Q:List Rw) (L:List Gi) (p:OA)(t:Nat)(a5:LV)(X:List Int) (S:OA)(U:Nat)(a6:LV),Has f [(1,Pt b1),(2,Pt b2),(5,Pt b6),(6,V W)]∧Bx w0 w bS G [.box b6 115 #[Z m J o,Z b K c,Z v N x,Z p L t,V a9,Z S X U,V a7,V a8],O w0.heap.size b c 82 Gn a4,O w0.heap.size v x 60 (List Gv) (Q.map Rw.hdr),.tN w0.heap.size 59 (sz Gv) Q none,O w0.heap.size p t 65 Gi a5,O w0.heap.size S U 3 Int a6,.box b2 30 #[sn,sn,sn,sn],.box b1 26 #[Z m x0.a o,Z ab x0.b ac]] [.l m o J,.els a4 K,.nN Q N,.els a5 L,.els a6 X,.l m o x0.a,.l ab ac x0.b]∧oq fu x0 bU W J a9 a7 a8 K N L X=some aV) fu ⟨0,aa.a.a.a,aa.f,aa.c,aa.e,aa.a.a.b,A4,C4,Q4,aa.a.c,none,0,([]:List Rw),aa.a.b,none,0,[],aa.b,none,0,[],⟨r,r,r,r,y⟩,(a.dp [0,1,2,3,4,9,10]),j⟩ ?_)
  clear a j
  rintro ay f w ⟨W,J,a9,a7,a8,K,b,c,a4,N,v,x,Q,L,p,t,a5,X,S,U,a6,hf,a,j⟩ bz aW
  obtain ⟨bT,rfl⟩:=gP _ _ hf
  clear hf
  cases ay with
  | zero=>exact nn j
  | succ ay=>
   rw [oq] at j
   refine q (q (g (s (mi r) (s (vS r) (s (Iq r (a.bk 7 r) r) (s (lg yR r) (s (qB r r) (s (jZ r) ?_))))))))
   rcases iv j with ⟨az,j⟩|⟨az,j⟩
   ·rw [decide_eq_true az]
    refine jQ r (s (mp r) (jQ r (s (xn r) (jQ r (s (zL r) (jQ r (s (CW r (a.bk 0 r) r) (jQ r (s (kK r r) (s (jN r r) (n ?_)))))))))))
    rcases iv j with ⟨aA,j⟩|⟨aA,j⟩
    ·refine jH (bt aA) (wk (q (nZ (q (g (s (mp r) (s (mi r) (s (xn r) (s (AV r) (lu (lW a 0 [V W] r pJ r r) fun bA a=>n (q (g (s (mp r) (s (mp r) (s (xn r) (s (qU r) (s (vV r) (s (Ih r (a.bk 0 r) r) (qF (jV a [[sn]] ([([]:List Gv)]:List (List Gv)) (KG r) r r (by decide) ⟨⟨none,0,r,oP⟩,y⟩) ?_)))))))))))))))))))
     rintro _ bB ⟨bC,rfl,a⟩
     obtain ⟨aX,aY,j⟩:=bs j
     refine qF (Td 3 4 3 a r r (by decide) r Bd Br r (by decide) (Nat.le_refl _) r r (iy:=0) r aY) ?_
     rintro _ bD ⟨aZ,b0,bE,rfl,a⟩
     try dsimp only [List.set] at a
     refine s (xn r) (s (qU r) (s (vV r) (lu (lW a 1 [Z aZ aX b0] r Ry r r) fun bF a=>n ?_)))
     obtain ⟨an,al,j⟩:=bs j
     obtain ⟨bG,b4,al⟩:=kG al
     obtain ⟨bm,b5,a⟩:=a.nm 7 rfl al
     obtain ⟨ao,ap,aq,ar,rfl,aB,aC⟩:=kC.out b5
     replace a:=a.ku (d:=.l ao ap an.b) aB
     replace a:=a.ku (d:=.l aq ar an.f) aC
     obtain ⟨M,h,b7,j⟩:=lV j
     obtain ⟨av,af,j⟩:=bs j
     obtain ⟨aD,ax,af⟩:=kG af
     obtain ⟨au,ag,j⟩:=bs j
     obtain ⟨bh,bn,_,ag⟩:=A7 ag
     obtain rfl:aD=bh:=by omega
     refine oC (fun f w=>∃ (A:OA)(B:Nat)(C:OA)(D:Nat)(E:OA)(F:Nat)(ai:LV)(u:List Rw) (H:LV)(I:LV),Has f [(1,Pt b1),(2,Pt b2),(5,Pt b6),(6,V W)]∧Bx w0 w bS G [.box b6 115 #[Z m h.a.a.a o,Z b au c,Z A h.a.c B,Z C h.a.b D,V h.f,Z E h.b F,V h.c,V h.e],O w0.heap.size b c 82 Gn ai,O w0.heap.size A B 60 (List Gv) (u.map Rw.hdr),.tN w0.heap.size 59 (sz Gv) u none,O w0.heap.size C D 65 Gi H,O w0.heap.size E F 3 Int I,.box b2 30 #[sn,sn,sn,sn],.box b1 26 #[Z m x0.a o,Z ab x0.b ac]] [.els ai au,.nN u h.a.c,.els H h.a.b,.els I h.b,.l m o x0.a,.l ab ac x0.b,.l m o h.a.a.a]) (fun Jd hJd=>?_) ?_
     ·refine Fa a [8] [0,1,2,10] [1,8] [0,1,2,10] [13,15] (by kernel_rfl) ?_
      replace a:=a.drew
      have hs:=(a.ad [8] [0,1,2,10])
      have hu:=(a.ad [1,8] [0,1,2,10])
      refine pL 0 r (mp r) hs hu (pL 1 r (xn r) hs hu (pL 2 r (qU r) hs hu (pL 3 r (zU r) hs hu (pL 4 r (vS r) hs hu (pL 6 r (mi r) hs hu (pL 7 r (mp r) hs hu (pL 8 r (vS r) hs hu (tU 9 r (fun _ hS=>Iq r (hS.bk 0 r) r) (mH hs hu) (pL 10 r (mi r) hs hu (pL 11 r (kZ yR mX r r b4 (a.dl 10 r) al) hs hu (tU 12 r (fun _ hS=>oL [T an.a,V an.c,Z ao an.b ap,Z aq an.f ar] Bv r mX r r (hS.dc 2 r)) (mH hs hu) (nI 5 [13] (by kernel_rfl) (jS ?_ (jS ?_ lX))))))))))))))
      ·have hs:=(a.ad [8] [0,1,2,10])
       have hu:=(a.ad [1,8] [0,1,2,10])
       refine vI r r (Iq r (a.bk 1 r) r) (mH hs hu) ?_
       have hc:=(BM fu) (a.pr [1,2,3,4,5,6] [0,7,8] [4,5,6,7,8,1,0] r) a.rX.size a.rX.size a.rX.size a.rX.size a.rX.size b7
       refine hO 13 (oc r r (ec Ri r) hc ?_)
       rintro _ bi ⟨Y,a0,a1,a2,A,B,u,C,D,H,E,F,I,rfl,hK⟩
       replace a:=a.cn [1,2,3,4,5,6] [0,7,8] hK
       have hs:=(a.ad [8] [7,8,9,17])
       refine ⟨(sy 13 hs),?_⟩
       obtain ⟨bo,b8,b9⟩:=(a.de 3 rfl).get af
       obtain ⟨aE,aF,aG,aH,rfl,aI,aJ⟩:=kC.out b9
       replace a:=a.ku (d:=.l aE aF av.b) aI
       replace a:=a.ku (d:=.l aG aH av.f) aJ
       refine tP 14 r (fun _=>kZ yR mX (congrArg (fun z=>Value.slice b z c) ((a.de 14 r).len.symm.trans (a.de 5 r).len)) r ax (a.vw 1 5 r r) af) (sy 13 hs) (hO 15 (os r r (Hy a 1 5 aD 0 [T M.a,V M.c,Z Y M.b a0,Z a1 M.f a2] r r b8 mX r r r r r (show _=[T M.a,V M.c,Z Y M.b a0,Z a1 M.f a2] from r) (kC.tQ ⟨Y,a0,a1,a2,r,(a.dl 2 r),(a.dl 3 r)⟩) ag) ?_))
       rintro bj ⟨ai,a⟩
       try dsimp only [List.set] at a
       have aj:h.a.a.b.length=au.length:=by rw [← ag,List.length_set]
       try dsimp only [Z] at a
       try rw [aj] at a
       try dsimp only [Z]
       try rw [aj]
       have hs:=(a.ad [8] [9,10,11,19])
       exact ⟨(sy 13 hs),(hD (hJd _ _ ⟨A,B,C,D,E,F,ai,u,H,I,⟨r,r,r,r,y⟩,(a.ad [0,1,2,3,4,5,7,8] [5,6,7,8,18,19,4])⟩))⟩
      have hc:=(BM fu) (a.pr [1,2,3,4,5,6] [0,7,8] [4,5,6,7,8,1,0] r) a.rX.size a.rX.size a.rX.size a.rX.size a.rX.size b7
      refine oc r r (ec Ri r) hc ?_
      rintro _ bi ⟨Y,a0,a1,a2,A,B,u,C,D,H,E,F,I,rfl,hK⟩
      replace a:=a.cn [1,2,3,4,5,6] [0,7,8] hK
      have hs:=(a.ad [8] [7,8,9,17])
      refine ⟨(sy 13 hs),(hO 5 (vI r r (Iq r (a.bk 0 r) r) (sy 13 hs) ?_))⟩
      obtain ⟨bp,ba,bb⟩:=(a.de 3 rfl).get af
      obtain ⟨aK,aL,aM,aN,rfl,aO,aP⟩:=kC.out bb
      replace a:=a.ku (d:=.l aK aL av.b) aO
      replace a:=a.ku (d:=.l aM aN av.f) aP
      refine tP 14 r (fun _=>kZ yR mX r r ax (a.vw 1 5 r r) af) (sy 13 hs) (hO 15 (os r r (Hy a 1 5 aD 0 [T M.a,V M.c,Z Y M.b a0,Z a1 M.f a2] r r ba mX r r r r r (show _=[T M.a,V M.c,Z Y M.b a0,Z a1 M.f a2] from r) (kC.tQ ⟨Y,a0,a1,a2,r,(a.dl 2 r),(a.dl 3 r)⟩) ag) ?_))
      rintro bj ⟨ai,a⟩
      try dsimp only [List.set] at a
      have aj:h.a.a.b.length=au.length:=by rw [← ag,List.length_set]
      try dsimp only [Z] at a
      try rw [aj] at a
      try dsimp only [Z]
      try rw [aj]
      have hs:=(a.ad [8] [9,10,11,19])
      exact ⟨(sy 13 hs),(hD (hJd _ _ ⟨A,B,C,D,E,F,ai,u,H,I,⟨r,r,r,r,y⟩,(a.ad [0,1,2,3,4,5,7,8] [5,6,7,8,18,19,4])⟩))⟩
     clear a
     rintro f w ⟨A,B,C,D,E,F,ai,u,H,I,hf,a⟩
     obtain ⟨bT,rfl⟩:=gP _ _ hf
     clear hf
     exact g (s (mi r) (s (kN r r) (s (xi r) (n (aW ay _ _ (Nat.lt_succ_self _) ⟨(wr (W+1)),h.a.a.a,h.f,h.c,h.e,au,b,c,ai,h.a.c,A,B,u,h.a.b,C,D,H,h.b,E,F,I,⟨r,r,r,r,y⟩,(a.dp [6,0,1,2,3,4,5]),j⟩)))))
    exact jI (bf aA) (uW (aw _ _ ⟨W,J,a9,a7,a8,K,b,c,a4,N,v,x,Q,L,p,t,a5,X,S,U,a6,⟨r,r,y⟩,a,sm j⟩))
   rw [decide_eq_false az]
   exact jB r (jB r (jB r (jB r (jB r (s (jX r r) (n (jI r (uW (aw _ _ ⟨W,J,a9,a7,a8,K,b,c,a4,N,v,x,Q,L,p,t,a5,X,S,U,a6,⟨r,r,y⟩,a,sm j⟩)))))))))
 clear a
 rintro f w ⟨W,J,a9,a7,a8,K,b,c,a4,N,v,x,Q,L,p,t,a5,X,S,U,a6,hf,a,bc⟩
 obtain ⟨bT,rfl⟩:=gP _ _ hf
 clear hf
 subst bc
 replace hM:=gi hM
 replace hM:=Ak (mf (mf hM))
 refine q (q (g (s (mp r) (s (xn r) (s (zL r) (s (CW r (a.bk 0 r) r) (s (mI r r) (n ?_))))))))
 rcases iv hM with ⟨aQ,hM⟩|⟨aQ,hM⟩
 ·refine jH (bt aQ) (q (oJ a [0] [] [] (by kernel_rfl) ?_))
  replace a:=a.drew
  have hs:=(a.ad [0] [])
  refine pF 0 r (Q5) hs (pF 1 r (mp r) hs (pF 2 r (xn r) hs (pF 3 r (OY r) hs (uF 4 r (fun hS=>l3 r (hS.bk 0 r) r) hs (pF 5 r (mp r) hs (pF 6 r (xn r) hs (pF 7 r (zL r) hs (uF 8 r (fun hS=>CW r (hS.bk 0 r) r) hs (hO 9 (os r r (nD a 6 [sn,sn,sn,sn] r zM r r) fun bH a=>?_))))))))))
  have hs:=(a.ad [0] [])
  refine ⟨(sF hs),(pF 10 r (xi r) hs (pF 11 r (xi r) hs (hD (kP ?_))))⟩
  replace a:=a.ku (d:=.l none 0 ([]:List Gr)) oP
  replace a:=a.ku (d:=.l none 0 ([]:List Gn)) oP
  replace a:=a.ku (d:=.l none 0 ([]:List (List Gv))) oP
  replace a:=a.ku (d:=.l none 0 ([]:List Gi)) oP
  obtain rfl:=sm hM
  exact yJ r (uN r G6 r zM r (a.bk 6 r)) (kT r) (kT r) (lw (lw (⟨none,0,none,0,none,0,none,0,r,(a.ad [] [3,2,1,0])⟩)))
 refine jI (bf aQ) (wk (q (g (s (mp r) (s (xn r) (s (qU r) (s (mE [Z m J o,Z b K c,Z v N x,Z p L t] G6 zM r (a.bk 0 r)) (lu (nD a 6 [Z m J o,Z b K c,Z v N x,Z p L t] r zM r r) fun bI a=>s (xi r) (s (xi r) (n (kP ?_)))))))))))
 replace a:=a.fz 1 1 r r
 replace a:=a.arr [1,2,0,3,4,5,6] r
 try dsimp only [pick,nth,ca,na] at a
 replace a:=a.Vz 2 r
 try dsimp only [List.eraseIdx] at a
 replace a:=a.fz 1 3 r r
 obtain rfl:=sm hM
 exact yJ r (uN r G6 r zM r (a.bk 2 r)) (kT r) (kT r) (lw (lw (⟨m,o,b,c,v,x,p,t,r,(a.ad [] [3,2,1,0])⟩)))
end
end Go.Proofs.Ytfglbdkfnphjgaa
