/- Lemmas. -/
import Derived.Test.YtdkneekpdecjbaaGreatZ3
import Derived.Test.YtdkneekpdecjbaaGreatZ4
import Derived.Test.YtdkneekpdecjbaaGreatLf
import Derived.Test.YtdkneekpdecjbaaGreatLb
import Derived.Test.YtdkneekpdecjbaaGreatLc
import Derived.Test.YtdkneekpdecjbaaGreatLd
set_option linter.all false
set_option maxHeartbeats 12800000
set_option maxRecDepth 4000
namespace Go.Proofs.YtdkneekpdecjbaaGreat
open Go.RowKit Go.Fw Go.Proofs.Tryz
noncomputable section
abbrev qL:=fV->(List jC)->Option ((List jC) × fV)
abbrev sJ:=fV->jC->Option (jC × fV)
def y7 (m:fV->(List Gs)->Option ((List Gs) × fV)):Prop:=∀ {w0:World}{a4}{k:fV}{x1 a1 d h a b i o p t}{j:List Rw}{u x z A G B C D H E S U R},(fun n=>Pre w0 a4 n [.l d h k.a.a.a,.els i k.a.a.b,.nA j k.a.c,.els G k.a.b,.els H k.b,.l S U x1]->o<=w0.heap.size->u<=w0.heap.size->x<=w0.heap.size->B<=w0.heap.size->E<=w0.heap.size->m k x1=some R-> Calls prog 59 #[Pt a1,Z S x1 U] w0 (rV fun v w=>jB R fun r0 c=>∃ (W:OA)(X:Nat)(Y:LV)(I:OA)(J:Nat)(F:List Rw)(K:OA)(L:Nat)(M:LV)(N:OA)(P:Nat)(Q:LV),v=Z W r0 X/\Bx w0 w a4 (mD n) [O w0.heap.size W X 115 Gs Y,.box a1 103 #[Z d c.a.a.a h,Z a c.a.a.b b,Z I c.a.c J,Z K c.a.b L,V c.f,Z N c.b P,V c.c,V c.e],O o a b 61 Gn i,O u I J 53 (List Gv) (F.map Rw.hdr),.uH x 55 (sz Gv) F none,O B K L 78 Gi M,O E N P 3 Int Q] [.els Y r0,.l d h c.a.a.a,.els i c.a.a.b,.nA F c.a.c,.els M c.a.b,.els Q c.b])) [.box a1 103 #[Z d k.a.a.a h,Z a k.a.a.b b,Z p k.a.c t,Z z k.a.b A,V k.f,Z C k.b D,V k.c,V k.e],O o a b 61 Gn i,O u p t 53 (List Gv) (j.map Rw.hdr),.uH x 55 (sz Gv) j none,O B z A 78 Gi G,O E C D 3 Int H]
def Dv (m:fV->Gs->Option (Gs × fV)):Prop:=∀ {w0:World}{ag}{k:fV}{G:Gs}{ae d h a b i o p t}{j:List Rw}{u x z A I B C D J E W X Y a0 a1 a2 a3 a4 R},(fun n=>Pre w0 ag n [.l d h k.a.a.a,.els i k.a.a.b,.nA j k.a.c,.els I k.a.b,.els J k.b,.l W X G.e,.l Y a0 G.a,.l a1 a2 G.d,.l a3 a4 G.i]->o<=w0.heap.size->u<=w0.heap.size->x<=w0.heap.size->B<=w0.heap.size->E<=w0.heap.size->m k G=some R-> Calls prog 80 #[Pt ae,.agg #[V G.b,V G.g,V G.n,T G.c,T G.j,V G.m,V G.f,Z W G.e X,T G.k,V G.h,Z Y G.a a0,Z a1 G.d a2,Z a3 G.i a4]] w0 (rV fun v w=>jB R fun H c=>∃ (a5:OA)(a6:Nat)(a7:OA)(a8:Nat)(a9:OA)(aa:Nat)(ab:OA)(ac:Nat)(K:OA)(L:Nat)(F:List Rw)(M:OA)(N:Nat)(P:LV)(Q:OA)(S:Nat)(U:LV),v=.agg #[V H.b,V H.g,V H.n,T H.c,T H.j,V H.m,V H.f,Z a5 H.e a6,T H.k,V H.h,Z a7 H.a a8,Z a9 H.d aa,Z ab H.i ac]/\Bx w0 w ag (mD n) [.box ae 103 #[Z d c.a.a.a h,Z a c.a.a.b b,Z K c.a.c L,Z M c.a.b N,V c.f,Z Q c.b S,V c.c,V c.e],O o a b 61 Gn i,O u K L 53 (List Gv) (F.map Rw.hdr),.uH x 55 (sz Gv) F none,O B M N 78 Gi P,O E Q S 3 Int U] [.l a5 a6 H.e,.l a7 a8 H.a,.l a9 aa H.d,.l ab ac H.i,.l d h c.a.a.a,.els i c.a.a.b,.nA F c.a.c,.els P c.a.b,.els U c.b])) [.box ae 103 #[Z d k.a.a.a h,Z a k.a.a.b b,Z p k.a.c t,Z z k.a.b A,V k.f,Z C k.b D,V k.c,V k.e],O o a b 61 Gn i,O u p t 53 (List Gv) (j.map Rw.hdr),.uH x 55 (sz Gv) j none,O B z A 78 Gi I,O E C D 3 Int J]
def lJ (fu:Nat)(AG:qL)(AI:sJ):List Gs→Nat→(List Gs)→(List Gr)→Int→Int→Int→(List Gn)→(List (List Gv))→(List Gi)→(List Int)→Option (Ld (List Gs × List Gr × Int × Int × Int × List Gn × List (List Gv) × List Gi × List Int) ((List Gs) × fV))
 | [],_,c,d,h,i,b,j,k,l,m=>some (.go (c,d,h,i,b,j,k,l,m))
 | p :: t,u,c,d,h,i,b,j,k,l,m=>
 if b≠0 then
  some (.go (c,d,h,i,b,j,k,l,m))
 else
  (AI (⟨(⟨(⟨d,j⟩:jV),k,l⟩:jW),h,m,i,b⟩:fV) p).bind fun w=>
  jB w fun o a=>
  (app c ([o]:List Gs)).bind fun v=>
  lJ fu AG AI t (u+1) v a.a.a.a a.f a.c a.e a.a.a.b a.a.c a.a.b a.b
def mZ (fu:Nat)(AG:qL)(AI:sJ)(c:Int)(d:List Gi):List Int→Nat→(List (List Gv))→Option (Ld (List (List Gv)) ((List Gs) × fV))
 | [],_,a=>some (.go a)
 | e :: h,i,a=>
 (ix a c).bind fun f=>
 (ix f e).bind fun b=>
 (st f e (⟨b.c,b.b,b.f,b.a,b.g,b.e,wr ((d.length:Int) - 1)⟩:Gv)).bind fun j=>
 (st a c j).bind fun k=>
 mZ fu AG AI c d h (i+1) k
def oh (fu:Nat)(AG:qL)(AI:sJ)(b:fV)(w:(List Gs)):Option ((List Gs) × fV):=(lJ fu AG AI w 0 ([]:List Gs) b.a.a.a b.f b.c b.e b.a.a.b b.a.c b.a.b b.b).bind fun x=>x.el (fun x=>jB x fun i x=>jB x fun j x=>jB x fun c x=>jB x fun k x=>jB x fun l x=>jB x fun m x=>jB x fun p x=>jB x fun d a=>(sl a (b.b.length:Int) (a.length:Int)).bind fun t=>(mZ fu AG AI c d t 0 p).bind fun x=>x.el (fun h=>(sl a 0 (b.b.length:Int)).bind fun u=>(app ([]:List Int) u).bind fun v=>some (i,(⟨(⟨(⟨j,m⟩:jV),h,d⟩:jW),c,v,k,l⟩:fV))) (fun o=>some o)) (fun o=>some o)
def rM (fu:Nat)(AG:qL)(AI:sJ)(b:fV)(a:Gs)(j:List Gi):Option (Ld (Int × Int × Int) (Gs × fV)):=if 0 < a.m then some (.go (3,(-1),a.m)) else if ¬ a.j=(⟨#[]⟩:BA) then (zn fu (⟨(⟨b.a.a,b.a.c,j⟩:jW),b.f,b.b,b.c,b.e⟩:fV) a.j).bind fun k=>jB k fun c d=>if (!d)=true then (mO fu (⟨(⟨b.a.a,b.a.c,j⟩:jW),b.f,b.b,b.c,b.e⟩:fV) a.g 8).bind fun h=>some (.out ((⟨a.b,a.g,(b.a.b.length:Int),a.c,a.j,a.m,a.f,a.e,a.k,a.h,a.a,a.d,a.i⟩:Gs),h)) else (ix b.a.a.a c).bind fun i=>some (.go (2,c,(i.a.length:Int))) else some (.go (1,(-1),1))
def oD (fu:Nat)(AG:qL)(AI:sJ)(a:fV)(c:Gs)(l:List Gi):Option (Ld (List Gr × Int × Int × Int × List Gn × List (List Gv) × List Gi × List Int) (Gs × fV)):=if c.b=1 then (rM fu AG AI a c l).bind fun p=>p.el (fun p=>jB p fun d p=>jB p fun h i=>(nL fu (⟨(⟨a.a.a,a.a.c,l⟩:jW),a.f,a.b,a.c,a.e⟩:fV) c.g (⟨c.c,d,h,i,false,wr ((a.a.b.length:Int)+1),0⟩:Gv)).bind fun p=>jB p fun j k=>some (.out ((⟨c.b,c.g,(a.a.b.length:Int),c.c,c.j,c.m,j,c.e,c.k,c.h,c.a,c.d,c.i⟩:Gs),k))) (fun o=>some (.out o)) else if c.b=3 then if 0 < (c.e.length:Int) then (ix c.e 0).bind fun m=>if m.e≠1 then (mO fu (⟨(⟨a.a.a,a.a.c,l⟩:jW),a.f,a.b,a.c,a.e⟩:fV) c.g 10).bind fun b=>some (.go (b.a.a.a,b.f,b.c,b.e,b.a.a.b,b.a.c,b.a.b,b.b)) else some (.go (a.a.a.a,a.f,a.c,a.e,a.a.a.b,a.a.c,l,a.b)) else some (.go (a.a.a.a,a.f,a.c,a.e,a.a.a.b,a.a.c,l,a.b)) else some (.go (a.a.a.a,a.f,a.c,a.e,a.a.a.b,a.a.c,l,a.b))
def rO (fu:Nat)(AG:qL)(AI:sJ)(i:fV)(d:Gs)(h:(List Ge))(b:fV):Option (Ld (List Gr × Int × Int × Int × List Gn × List (List Gv) × List Gi × List Int × Int × Int × Int × BA × BA × Int × Int × List Ge × BA × Int × List Ge × List Gs × List Gs) (Gs × fV)):=if ¬ d.k=(⟨#[]⟩:BA) then (rE fu b (⟨d.b,d.g,(i.a.b.length:Int),d.c,d.j,d.m,d.f,h,d.k,d.h,d.a,d.d,d.i⟩:Gs)).bind fun j=>jB j fun c a=>some (.go (c.a.a.a,c.f,c.c,c.e,c.a.a.b,c.a.c,c.a.b,c.b,a.b,a.g,a.n,a.c,a.j,a.m,a.f,a.e,a.k,a.h,a.a,a.d,a.i)) else some (.go (b.a.a.a,b.f,b.c,b.e,b.a.a.b,b.a.c,b.a.b,b.b,d.b,d.g,(i.a.b.length:Int),d.c,d.j,d.m,d.f,h,d.k,d.h,d.a,d.d,d.i))
def pI (fu:Nat)(AG:qL)(AI:sJ)(c:Int)(a:fV):Option (Ld (List (List Gv)) (Gs × fV)):=if a.e=0 then (ix a.a.c a.f).bind fun d=>(ix d c).bind fun b=>(st d c (⟨b.c,b.b,b.f,b.a,b.g,b.e,wr ((a.a.b.length:Int) - 1)⟩:Gv)).bind fun h=>(st a.a.c a.f h).bind fun i=>some (.go i) else some (.go a.a.c)
def oG (fu:Nat)(AG:qL)(AI:sJ)(h c j:Int)(d k:BA)(l:Int)(m:List Ge)(p:BA)(t:Int)(u:List Gs)(v:(List Ge))(w:(List Gs))(b:fV):Option (Ld Unit (Gs × fV)):=if h=8 then if b.e=0 then (app ([]:List Int) b.b).bind fun B=>(nL fu b c (⟨d,1,(-1),1,false,(b.a.b.length:Int),0⟩:Gv)).bind fun C=>jB C fun i x=>(AG x u).bind fun C=>jB C fun z a=>(pI fu AG AI i a).bind fun C=>C.el (fun A=>some (.out ((⟨h,c,j,d,k,l,i,m,p,t,v,w,z⟩:Gs),(⟨(⟨a.a.a,A,a.a.b⟩:jW),a.f,B,a.c,a.e⟩:fV)))) (fun o=>some (.out o)) else some (.go ()) else some (.go ())
def sH (fu:Nat)(AG:qL)(AI:sJ)(z:fV)(a:Gs):Option (Gs × fV):=if 200<=(z.a.b.length:Int) then (mO fu z a.g 5).bind fun Y=>some ((⟨a.b,a.g,(z.a.b.length:Int),a.c,a.j,a.m,a.f,a.e,a.k,a.h,a.a,a.d,a.i⟩:Gs),Y) else (app z.a.b ([(⟨z.f,a.b,a.g⟩:Gi)]:List Gi)).bind fun r8=>(oD fu AG AI z a r8).bind fun a1=>a1.el (fun a1=>jB a1 fun A a1=>jB a1 fun B a1=>jB a1 fun C a1=>jB a1 fun D a1=>jB a1 fun E a1=>jB a1 fun F a1=>jB a1 fun G H=>(rP fu (⟨(⟨(⟨A,E⟩:jV),F,G⟩:jW),B,H,C,D⟩:fV) a.e a.g).bind fun a1=>jB a1 fun I J=>(rO fu AG AI z a I J).bind fun a1=>a1.el (fun a1=>jB a1 fun K a1=>jB a1 fun L a1=>jB a1 fun M a1=>jB a1 fun N a1=>jB a1 fun P a1=>jB a1 fun Q a1=>jB a1 fun R a1=>jB a1 fun S a1=>jB a1 fun m a1=>jB a1 fun b a1=>jB a1 fun c a1=>jB a1 fun d a1=>jB a1 fun e a1=>jB a1 fun h a1=>jB a1 fun v a1=>jB a1 fun i a1=>jB a1 fun j a1=>jB a1 fun k a1=>jB a1 fun w a1=>jB a1 fun x l=>(rP fu (⟨(⟨(⟨K,P⟩:jV),Q,R⟩:jW),L,S,M,N⟩:fV) w b).bind fun a1=>jB a1 fun p U=>(AG U x).bind fun a1=>jB a1 fun t u=>(oG fu AG AI m b c d e h i j k l p t u).bind fun a1=>a1.el (fun _=>(AG u l).bind fun a1=>jB a1 fun W X=>some ((⟨m,b,c,d,e,h,v,i,j,k,p,t,W⟩:Gs),X)) (fun o=>some o)) (fun o=>some o)) (fun o=>some o)
def vG:Nat→(fV→(List Gs)→Option ((List Gs) × fV)) × (fV→Gs→Option (Gs × fV))
 | 0=>((fun _ _=>none),(fun _ _=>none))
 | fu+1=>(oh fu ((vG fu).1) ((vG fu).2),sH fu ((vG fu).1) ((vG fu).2))
def qm (fu:Nat):=(vG fu).1
def vY (fu:Nat):=(vG fu).2
theorem PW (fu:Nat)(AG:qL)(AI:sJ)(H_r04_block:y7 AG)(H_r04_stmt:Dv AI):y7 (oh fu AG AI):=by
 intro w0 d6 x0 x1 ai W X M N a2 ac aH aI aJ ae af aK aL b7 ag aM aN b9 a8 am an R hP bj bl bm bn aP hM;unfold oh at hM;have a:=hP.bx;clear hP;generalize hG:mD _=G at a ⊢;refine cf func59 r (q (g (s (q9 r) (n (q (g (s (q9 r) (n (q (g (s (mp r) (s (xn r) (s (DL r) (s (l22 r (a.bk 0 r) r) (s (qG DX r) (s (xi r) (n (q (q (g (s (vR r) (s (qG DI r) (s (mi r) (n ?_))))))))))))))))))))))));replace a:=a.Gf Gs 115;have cE:=(a.dl 6 r).bd;obtain ⟨Y1,a6,hM⟩:=bs hM;refine qQ (fun f w=>∃ (Q p t u J a1 a3 a4 K a5 Y a0:_)(H:List Rw)(v m o x L b c F:_),Has f [(0,Pt ai),(5,Z p Q t),(6,V (x0.b.length:Int))]/\Bx w0 w d6 G [O w0.heap.size p t 115 Gs u,.box ai 103 #[Z W J X,Z M K N,Z Y a5 a0,Z m v o,V a1,Z b L c,V a3,V a4],O ac M N 61 Gn a2,O ae Y a0 53 (List Gv) (H.map Rw.hdr),.uH af 55 (sz Gv) H none,O ag m o 78 Gi x,O a8 b c 3 Int F] [.l W X J,.els u Q,.els a2 K,.nA H a5,.els x v,.els F L,.l am an x1]/\Ld.go (Q,J,a1,a3,a4,K,a5,v,L)=Y1) (fun J1 bH=>?_) ?_
 ·refine oN (kG (fun d8 f w=>∃ (k1 Q p t u J a1 a3 a4 K a5 Y a0:_)(H:List Rw)(v m o x L b c F:_),d8=x1.length - k1/\k1<=x1.length/\Has f [(18,V (k1:Int)),(0,Pt ai),(5,Z p Q t),(6,V (x0.b.length:Int)),(16,Z am x1 an),(17,V (x1.length:Int))]/\Bx w0 w d6 G [O w0.heap.size p t 115 Gs u,.box ai 103 #[Z W J X,Z M K N,Z Y a5 a0,Z m v o,V a1,Z b L c,V a3,V a4],O ac M N 61 Gn a2,O ae Y a0 53 (List Gv) (H.map Rw.hdr),.uH af 55 (sz Gv) H none,O ag m o 78 Gi x,O a8 b c 3 Int F] [.l W X J,.els u Q,.els a2 K,.nA H a5,.els x v,.els F L,.l am an x1]/\lJ fu AG AI (x1.drop k1) k1 Q J a1 a3 a4 K a5 v L=some Y1) x1.length ⟨0,lI,none,0,[],x0.a.a.a,x0.f,x0.c,x0.e,x0.a.a.b,x0.a.c,aH,aI,aJ,x0.a.b,aK,aL,b7,x0.b,aM,aN,b9,r,uL _,jA,a.dp [1,0,2,3,4,5,6],a6⟩ ?_);clear a a6;rintro d8 f w ⟨k1,Q,p,t,u,J,a1,a3,a4,K,a5,Y,a0,H,v,m,o,x,L,b,c,F,rfl,cF,hf,a,a6⟩ K1 cc;obtain ⟨d7,rfl⟩:=nS hf;obtain bI | bI:=xw k1 x1.length
  ·obtain ⟨E,bz⟩:=lZ (l:=x1) bI;rw [mV bz,lJ] at a6;obtain ⟨cG,cd,a⟩:=a.nm 6 rfl bz;obtain ⟨ap,aq,ar,au,av,aw,ax,ay,rfl,bJ,bK,bL,bM⟩:=jC.out cd;replace a:=a.ko (d:=.l ap aq E.e) bJ;replace a:=a.ko (d:=.l ar au E.a) bK;replace a:=a.ko (d:=.l av aw E.d) bL;replace a:=a.ko (d:=.l ax ay E.i) bM;refine q (g (s (vC r r) (n (q (jQ r (wk (q (oN (q (g (s (kR DI jY r r r (a.dl 11 r) bz) (s (lK [V E.b,V E.g,V E.n,T E.c,T E.j,V E.m,V E.f,Z ap E.e aq,T E.k,V E.h,Z ar E.a au,Z av E.d aw,Z ax E.i ay] lV r jY r r (a.dc 4 r)) (qZ a (jN jY) fun w4 b4 a=>kV (mQ a 0 [V E.b,V E.g,V E.n,T E.c,T E.j,V E.m,V E.f,Z ap E.e aq,T E.k,V E.h,Z ar E.a au,Z av E.d aw,Z ax E.i ay] r jY r r) fun w5 a=>n (q (q (g (s (mp r) (s (xn r) (s (BL r) (s (Gy r (a.bk 2 r) r) (s (rQ r r) (n ?_))))))))))))))))))))));obtain ⟨h6,a6⟩|⟨h6,a6⟩:=iv a6
   ·exact jQ (bt h6) (uw (bH _ _ ⟨Q,p,t,u,J,a1,a3,a4,K,a5,Y,a0,H,v,m,o,x,L,b,c,F,jA,a.ad [1,2,3,4,5,6,7] [5,6,7,8,9,10,11],sm a6⟩))
   refine jM (bf h6) ?_;refine go ?_;refine s (kZ [V E.b,V E.g,V E.n,T E.c,T E.j,V E.m,V E.f,Z ap E.e aq,T E.k,V E.h,Z ar E.a au,Z av E.d aw,Z ax E.i ay] lV jY r (a.bk 0 r)) ?_;obtain ⟨U,ab,h7,a6⟩:=mH a6;have hc:=H_r04_stmt (a.pr [2,3,4,5,6,7] [0,1] [5,7,8,9,10,3,2,1,0] r) (a.le bj) (a.le bl) (a.le bm) (a.le bn) (a.le aP) h7;refine sc (ec (vT func80) r) hc ?_;rintro _ w7 ⟨az,aA,aB,aC,aD,aE,aF,aG,aX,aY,aZ,b0,b1,b2,b3,b5,b6,rfl,hK⟩;replace a:=a.cn [2,3,4,5,6,7] [0,1] hK;refine o7 (jT a [[V U.b,V U.g,V U.n,T U.c,T U.j,V U.m,V U.f,Z az U.e aA,T U.k,V U.h,Z aB U.a aC,Z aD U.d aE,Z aF U.i aG]] ([U]:List Gs) (tK r) r r ⟨jC.inn ⟨az,aA,aB,aC,aD,aE,aF,aG,r,a.dl 0 r,a.dl 1 r,a.dl 2 r,a.dl 3 r⟩,y⟩) ?_;rintro _ w8 ⟨b8,rfl,a⟩;obtain ⟨r9,cg,a6⟩:=bs a6;refine o7 (kJ a 8 16 r r DI jY r (nD _) r r (a.Cj 0 0 r r) cg) ?_;rintro _ w9 ⟨A9,C9,Q9,rfl,a⟩;exact s (q9 r) (n (g (s (lT r r) (s (mi r) (n (cc (x1.length - (k1+1)) _ _ (by omega) ⟨k1+1,r9,A9,C9,Q9,ab.a.a.a,ab.f,ab.c,ab.e,ab.a.a.b,ab.a.c,aX,aY,aZ,ab.a.b,b0,b1,b2,ab.b,b3,b5,b6,r,by omega,jA,a.ad [8,1,2,3,4,5,6] [5,16,6,7,8,9,21],a6⟩))))))
  obtain rfl:k1=x1.length:=by omega
  rw [mF,lJ] at a6;exact q (g (s (u6 r r) (n (q (jM r (uw (bH _ _ ⟨Q,p,t,u,J,a1,a3,a4,K,a5,Y,a0,H,v,m,o,x,L,b,c,F,jA,a,sm a6⟩)))))))
 clear a;rintro f w ⟨Q,p,t,u,J,a1,a3,a4,K,a5,Y,a0,H,v,m,o,x,L,b,c,F,hf,a,ch⟩;obtain ⟨d7,rfl⟩:=nS hf;subst ch;replace hM:=gi hM;replace hM:=EU (nC (nC hM));refine q (q (g (s (mp r) (s (xn r) (s (DL r) (s (l22 r (a.bk 1 r) r) (s (mi r) ?_)))))));obtain ⟨a9,bN,hM⟩:=bs hM;obtain ⟨ao,ci,bO,cx,aO,ba,aQ⟩:=DU bN;have bA:a9.length=ci - ao:=by rw [<-aQ,zM,GV];omega
 obtain ⟨bB,aR⟩:∃ A,(if c=ao then b else b.map (·.add (ao * sz Int)))=A:=⟨_,rfl⟩;obtain ⟨bC,aS⟩:∃ C,(c - ao)=C:=⟨_,rfl⟩;have bP:Value.slice (if c=ao then b else b.map (·.add (ao * sz Int))) (L.length - ao) (c - ao)=Value.slice bB a9.length bC:=by rw [bA,<-aR,<-aS];simp;try omega
 refine s (show Yl _ _ _ _ _ _ _ _ _ (.slice bB a9.length bC) from bP ▸ afJ ao DX p9 r r bO (by omega)) (s (qG DX r) (s (mi r) (n ?_)));have cy:=(l5.Zd (a.vw 6 5 r r) aO ba aQ aR aS).bd;obtain ⟨bQ,S,hM⟩:=bs hM;refine qQ (fun f w=>∃ (I B D:_)(j:List Rw),Has f [(0,Pt ai),(5,Z p Q t),(6,V (x0.b.length:Int))]/\Bx w0 w d6 G [O w0.heap.size p t 115 Gs u,.box ai 103 #[Z W J X,Z M K N,Z B I D,Z m v o,V a1,Z b L c,V a3,V a4],O ac M N 61 Gn a2,O ae B D 53 (List Gv) (j.map Rw.hdr),.uH af 55 (sz Gv) j none,O ag m o 78 Gi x,O a8 b c 3 Int F] [.l W X J,.els u Q,.els a2 K,.nA j I,.els x v,.els F L]/\Ld.go I=bQ) (fun cN bR=>?_) ?_
 ·refine oN (kG (fun d8 f w=>∃ (aj I B D:_)(j:List Rw),d8=a9.length - aj/\aj<=a9.length/\Has f [(41,V (aj:Int)),(0,Pt ai),(5,Z p Q t),(6,V (x0.b.length:Int)),(39,Z bB a9 bC),(40,V (a9.length:Int))]/\Bx w0 w d6 G [O w0.heap.size p t 115 Gs u,.box ai 103 #[Z W J X,Z M K N,Z B I D,Z m v o,V a1,Z b L c,V a3,V a4],O ac M N 61 Gn a2,O ae B D 53 (List Gv) (j.map Rw.hdr),.uH af 55 (sz Gv) j none,O ag m o 78 Gi x,O a8 b c 3 Int F] [.l W X J,.els u Q,.els a2 K,.nA j I,.els x v,.els F L]/\mZ fu AG AI a1 v (a9.drop aj) aj I=some bQ) a9.length ⟨0,a5,Y,a0,H,r,uL _,jA,a.dp [0,1,2,3,4,5],S⟩ ?_);clear a S;rintro d8 f w ⟨aj,I,B,D,j,rfl,cz,hf,a,S⟩ cO bS;obtain ⟨d7,rfl⟩:=nS hf;obtain bq | bq:=xw aj a9.length
  ·obtain ⟨cj,bb⟩:=lZ (l:=a9) bq;rw [mV bb,mZ] at S;refine q (g (s (vC r r) (n (q (jQ r (wk (q (oN (q (g (s (kR DX p9 r r r (l5.Zd (a.vw 6 5 r r) aO ba aQ aR aS) bb) (s (kH Qs r r ((uY (ds:=[V cj]) (l5.Zd (a.vw 6 5 r r) aO ba aQ aR aS) bb (fun _ h=>h)) 0 _ r)) (s (xi r) (n ?_))))))))))))));obtain ⟨ck,bc,S⟩:=bs S;obtain ⟨bD,bT,bc⟩:=kU bc;replace a:=a.arr [4,0,1,2,3,5,6] r;try dsimp only [pick,nth,ca,na] at a
   obtain ⟨bU,bV,cP,bg,bW,a⟩:=a.foc 3 rfl bc;refine Sj a [1,3,5] [4] [0,1,3,5] [0,4] [21] (by kernel_rfl) ?_;replace a:=a.drew;have hs:=a.ad [1,3,5] [4];have hu:=a.ad [0,1,3,5] [0,4];refine pL 0 r (mp r) hs hu (pL 1 r (xn r) hs hu (pL 2 r (uD r) hs hu (pL 3 r (I7 r) hs hu (tU 4 r (fun _ hS=>l27 r (hS.bk 1 r) r) (nT hs hu) (pL 5 r (mp r) hs hu (pL 6 r (xn r) hs hu (pL 7 r (Hz r) hs hu (tU 8 r (fun _ hS=>l3 r (hS.bk 1 r) r) (nT hs hu) (pL 9 r (Sg Kz Gj r r bT (a.bo 5 r) bg (a.d2 4 r).len) hs hu (tU 10 r (fun _ hS=>kH Gq r r (hS.hc 2 r bg bW 0 _ r)) (nT hs hu) (pL 11 r (mi r) hs hu (pL 12 r (mp r) hs hu (pL 13 r (xn r) hs hu (pL 14 r (uD r) hs hu (pL 15 r (Kq r) hs hu (tU 16 r (fun _ hS=>l28 r (hS.bk 1 r) r) (nT hs hu) (pL 17 r (qG Rx r) hs hu (pL 18 r (ER r r) hs hu ?_))))))))))))))))));obtain ⟨aa,aT,S⟩:=bs S;obtain ⟨bX,bY,aT⟩:=kU aT;refine pL 19 r (kR Gq vE r r bY (a.vw 0 0 r r) aT) hs hu (pL 20 r (U8 r) hs hu ?_);obtain ⟨cm,aU,S⟩:=bs S;obtain ⟨cn,cA,_,aU⟩:=sQ aU;obtain rfl:bX=cn:=by omega
   obtain ⟨co,bZ,bh⟩:=(a.de 0 rfl).get aT;replace bh:co=[T aa.c,V aa.b,V aa.f,V aa.a,.bool aa.g,V aa.e,V aa.d]:=bh;subst bh;refine hO 21 (os r r (Nk a 0 0 bX 6 [V (wr ((v.length:Int) - 1))] r r bZ p9 r r r r r (show _=[T aa.c,V aa.b,V aa.f,V aa.a,.bool aa.g,V aa.e,V (wr ((v.length:Int) - 1))] from r) r aU) ?_);rintro cQ ⟨c0,a⟩;try dsimp only [List.set] at a
   have br:ck.length=cm.length:=by rw [<-aU,wR]
   try dsimp only [Z] at a
   try rw [br] at a
   try dsimp only [Z]
   try rw [br]
   have hs:=a.ad [1,3,5] [4];refine ⟨sy 21 hs,hD (g (s (lT r r) (s (mi r) (n ?_))))⟩;obtain ⟨c1,aV,S⟩:=bs S;obtain ⟨cp,cB,_,aV⟩:=sQ aV;obtain rfl:bD=cp:=by omega
   have cC:=(a.de 0 r).len;replace a:=a.hd 5 (H':=((j.set bD ⟨bU,bV,c0⟩).map Rw.hdr)) r (acy bg (by omega));try dsimp only [List.set] at a
   replace a:=a.arr [0,1,2,3,4,5,6,7] r;try dsimp only [pick,nth,ca,na] at a
   replace a:=a.unf 4 0 r r;try dsimp only [List.set] at a
   rw [aV] at a;obtain ⟨cq,c2⟩:∃ R,(j.set bD ⟨bU,bV,c0⟩)=R:=⟨_,rfl⟩;rw [c2] at a;have bu:I.length=c1.length:=by rw [<-aV,wR]
   try dsimp only [Z] at a
   try rw [bu] at a
   try dsimp only [Z]
   try rw [bu]
   exact bS (a9.length - (aj+1)) _ _ (by omega) ⟨aj+1,c1,B,D,cq,r,by omega,jA,a.ad [1,2,3,4,0,5,6] [1,2,3,4,5,6],S⟩
  obtain rfl:aj=a9.length:=by omega
  rw [mF,mZ] at S;exact q (g (s (u6 r r) (n (q (jM r (uw (bR _ _ ⟨I,B,D,j,jA,a,sm S⟩)))))))
 clear a;rintro f w ⟨I,B,D,j,hf,a,c3⟩;obtain ⟨d7,rfl⟩:=nS hf;subst c3;replace hM:=gi hM;refine go ?_;refine o7 (jT a [] KI Ra r r y) ?_;rintro _ cR ⟨cS,rfl,a⟩;refine s (mp r) (s (xn r) (s (DL r) (s (l22 r (a.bk 2 r) r) (s (mi r) ?_))));obtain ⟨c4,c5,hM⟩:=bs hM;obtain ⟨cr,c6,cD,c7,ct,bv,bw⟩:=DU c5;obtain rfl:cr=0:=by omega
 have bE:c4.length=c6:=by rw [<-bw,zM,GV];omega
 refine s (show Yl _ _ _ _ _ _ _ _ _ (.slice b c4.length c) from (congrArg (fun z=>Value.slice b z c) bE).symm ▸ BJ c6 DX p9 r r c7 (sO bv (a.vw 7 6 r r).cap)) ?_;obtain ⟨c8,c9,hM⟩:=bs hM;refine o7 (kJ a 0 0 r r DX p9 r (nD _) r r (a.Dq 7 6 r r bv bw) c9) ?_;rintro _ cT ⟨bF,bG,cu,rfl,a⟩;refine s (xn r) (s (DL r) (kV (t_n a 2 [Z bF c8 bG] r JF r r) fun cU a=>?_));refine go ?_;refine lG ?_;replace a:=a.rb 0 a8 r aP;obtain rfl:=sm hM;exact jK r (mI r) (nH ⟨p,t,u,B,D,j,m,o,x,bF,bG,cu,r,a.ad [1,2,3,4,5,6,0] [2,1,3,4,5,0]⟩)
theorem Rb (fu:Nat)(AG:qL)(AI:sJ)(H_r04_block:y7 AG)(H_r04_stmt:Dv AI):Dv (sH fu AG AI):=by
 intro w0 eW U b aU ac ae a9 aa am aP an ao af aQ aR bF bG c9 aS ap aq au aF Q S D E B C u v R hP a3 a4 a5 X Y x;unfold sH at x;have a:=hP.bx;clear hP;generalize hG:mD _=G at a ⊢;refine cf func80 r (q (g (qZ a (rD r) fun w1 b1 a=>qZ a (jN jY) fun w2 b2 a=>n (q (g (s (mp r) (s (xn r) (s (uD r) (s (Kq r) (s (l28 r (a.bk 2 r) r) (s (qG Rx r) (s (Xj r) (kV (t_n a 1 [V (U.a.b.length:Int)] r p9 r r) fun w3 a=>n (q (q (g (s (Xj r) (s (l3 r (a.bk 1 r) r) (s (FI r r) (n ?_))))))))))))))))))));obtain ⟨h4,x⟩|⟨h4,x⟩:=iv x
 ·refine jQ (bt h4) (q (g (s (mp r) (s (Ep r) (s (l3 r (a.bk 1 r) r) ?_)))));obtain ⟨dY,h5,x⟩:=bs x;have hc:=(nP fu) (a.pr [2,3,4,5,6,7] [0,1] [0,1,2,3,4] r) (a.le a3) (a.le a4) (a.le a5) (a.le X) (a.le Y) h5;refine sc (ec BP r) hc ?_;rintro _ w5 ⟨rfl,hK⟩;replace a:=a.cn [2,3,4,5,6,7] [0,1] hK;refine n (q (g (s (kZ [V b.b,V b.g,V (U.a.b.length:Int),T b.c,T b.j,V b.m,V b.f,Z Q b.e S,T b.k,V b.h,Z D b.a E,Z B b.d C,Z u b.i v] lV jY r (a.bk 7 r)) (kV (mQ a 6 [V b.b,V b.g,V (U.a.b.length:Int),T b.c,T b.j,V b.m,V b.f,Z Q b.e S,T b.k,V b.h,Z D b.a E,Z B b.d C,Z u b.i v] r jY r r) fun w6 a=>n (lG ?_)))));obtain rfl:=sm x;exact jK r (uS r lV r jY r (a.bk 6 r)) (nH ⟨Q,S,D,E,B,C,u,v,an,ao,af,bF,bG,c9,ap,aq,au,r,a.ad [0,1,2,3,4,5] [10,11,12,13,0,1,2,3,4]⟩)
 refine jM (bf h4) (wk (q (Sj a [1] [] [1,2] [] [20] (by kernel_rfl) ?_)));replace a:=a.drew;have A:=a.ad [1] [];have hu:=a.ad [1,2] [];refine pL 0 r (mp r) A hu (pL 1 r (mp r) A hu (pL 2 r (xn r) A hu (pL 3 r (uD r) A hu (pL 4 r (Kq r) A hu (tS 1 5 r (fun _ hS=>l28 r (hS.bk 1 r) r) (nT A hu) (pL 6 r (mp r) A hu (pL 7 r (xn r) A hu (pL 8 r (Hz r) A hu (tS 1 9 r (fun _ hS=>l3 r (hS.bk 1 r) r) (nT A hu) (pL 10 r (zX r) A hu (tU 11 r (fun _ hS=>l3 r (hS.bk 0 r) r) (nT A hu) (pL 12 r (Ep r) A hu (tU 13 r (fun _ hS=>l3 r (hS.bk 0 r) r) (nT A hu) (pL 14 r (Uq r r r) A hu (hO 15 (oo r r (jT a [[V U.f,V b.b,V b.g]] ([(⟨U.f,b.b,b.g⟩:Gi)]:List Gi) (WV r) r r ⟨r,y⟩) ?_))))))))))))))));rintro _ w7 ⟨b7,rfl,a⟩;have A:=a.ad [2] [];have hu:=a.ad [2,3] [];refine ⟨nT A hu,?_⟩;obtain ⟨r8,dt,x⟩:=bs x;refine hO 16 (oo r r (kJ a 7 4 r r Rx ag3 r X r r (a.Cj 0 0 r r) dt) ?_);rintro _ w8 ⟨A8,C8,Q8,rfl,a⟩;have A:=a.ad [2] [];have hu:=a.ad [2,3] [];refine ⟨nT A hu,pL 17 r (xn r) A hu (pL 18 r (uD r) A hu (pL 19 r (Kq r) A hu (hO 20 (os r r (t_n a 3 [Z A8 r8 C8] r afh r r) fun e5 a=>?_))))⟩;have A:=a.ad [2] [];refine ⟨sy 20 A,hD (q (q (g (s (zX r) (s (l3 r (a.bk 2 r) r) (n ?_))))))⟩;obtain ⟨du,t,x⟩:=bs x
 refine qQ (fun f w=>∃ bj bH bI bJ bl bm bn bp,Has f [(0,Pt aU),(3,Pt b1),(4,Pt b2)]/\Bx w0 w eW G [.box b2 115 #[V 0,V 0,V 0,T be,T be,V 0,V 0,sn,T be,V 0,sn,sn,sn],.box b1 115 #[V b.b,V b.g,V (U.a.b.length:Int),T b.c,T b.j,V b.m,V b.f,Z Q b.e S,T b.k,V b.h,Z D b.a E,Z B b.d C,Z u b.i v],.box aU 103 #[Z ac bj ae,Z a9 bl aa,Z an bm ao,Z A8 bn C8,V bH,Z ap bp aq,V bI,V bJ],O aP a9 aa 61 Gn am,O aQ an ao 53 (List Gv) (af.map Rw.hdr),.uH aR 55 (sz Gv) af none,O aS A8 C8 78 Gi Q8,O aF ap aq 3 Int au] [.l ac ae bj,.els am bl,.nA af bm,.els Q8 bn,.els au bp,.l Q S b.e,.l D E b.a,.l B C b.d,.l u v b.i]/\Ld.go (bj,bH,bI,bJ,bl,bm,bn,bp)=du) (fun e6 c3=>?_) ?_
 ·unfold oD at t;refine oN (q (g (s (kI r r) (s (lM r) (n ?_)))));obtain ⟨cz,t⟩|⟨cz,t⟩:=iv t
  ·refine jQ (bt cz) ?_;refine goC a ?_;refine s (FV r r r r r) (qZ a (jN vE) fun e7 d0 a=>kV (mQ a 0 [T b.c,V 1,V (-1),V 1,.bool false,V (wr ((U.a.b.length:Int)+1)),V 0] r vE r r) fun e8 a=>n (q ?_));obtain ⟨dv,a0,t⟩:=bs t;refine qQ (fun f w=>∃ bq br bu,Has f [(0,Pt aU),(3,Pt b1),(4,Pt b2),(5,Pt d0)]/\Bx w0 w eW G [.box d0 55 #[T b.c,V bq,V br,V bu,.bool false,V (wr ((U.a.b.length:Int)+1)),V 0],.box b2 115 #[V 0,V 0,V 0,T be,T be,V 0,V 0,sn,T be,V 0,sn,sn,sn],.box b1 115 #[V b.b,V b.g,V (U.a.b.length:Int),T b.c,T b.j,V b.m,V b.f,Z Q b.e S,T b.k,V b.h,Z D b.a E,Z B b.d C,Z u b.i v],.box aU 103 #[Z ac U.a.a.a ae,Z a9 U.a.a.b aa,Z an U.a.c ao,Z A8 r8 C8,V U.f,Z ap U.b aq,V U.c,V U.e],O aP a9 aa 61 Gn am,O aQ an ao 53 (List Gv) (af.map Rw.hdr),.uH aR 55 (sz Gv) af none,O aS A8 C8 78 Gi Q8,O aF ap aq 3 Int au] [.l ac ae U.a.a.a,.els am U.a.a.b,.nA af U.a.c,.els Q8 r8,.els au U.b,.l Q S b.e,.l D E b.a,.l B C b.d,.l u v b.i]/\Ld.go (bq,br,bu)=dv) (fun e9 cc=>?_) ?_
   ·unfold rM at a0;refine q (g (s (Jt r) (s (l3 r (a.bk 3 r) r) (s (xH r r) (n ?_)))));obtain ⟨cA,a0⟩|⟨cA,a0⟩:=iv a0
    ·refine jQ (bt cA) (rz a [3] [] [] (by kernel_rfl) ?_);replace a:=a.drew;have A:=a.ad [3] [];refine pF 0 r (Jt r) A (uF 1 r (fun hS=>l3 r (hS.bk 0 r) r) A (pF 2 r (Yh r) A (hO 3 (os r r (t_n a 0 [V 3] r p9 r r) fun ea a=>?_))));have A:=a.ad [3] [];refine ⟨sF A,pF 4 r (abq r) A (hO 5 (os r r (t_n a 0 [V b.m] r p9 r r) fun eb a=>?_))⟩;have A:=a.ad [3] [];exact ⟨sF A,hD (cc _ _ ⟨3,(-1),b.m,jA,a.ad [0,2,3,4,5,6,7,8,9] [1,2,3,4,5,6,7,8,9],sm a0⟩)⟩
    refine jM (bf cA) ?_;refine goC a ?_;refine s (Qc r r) (n ?_);obtain ⟨cB,a0⟩|⟨cB,a0⟩:=iv a0
    ·refine jQ (bt cB) (q (g (s (mp r) (s (Pp r) (s (l9 r (a.bk 3 r) r) ?_)))));obtain ⟨bv,dw,dx,a0⟩:=mH a0;have hc:=(Nu fu) (a.pr [4,5,6,7,8,9] [0,1,2,3] [1,2,3,4,5] r) (a.le a3) (a.le a4) (a.le a5) (a.le X) (a.le Y) dx;refine sc (ec (vT func133) r) hc ?_;rintro _ ed ⟨rfl,hK⟩;replace a:=a.cn [4,5,6,7,8,9] [0,1,2,3] hK;refine s wY (s (kL r r) (s (kL r r) (s (xi r) (s (lM r) (n (q (q (g (s (mh r) (s (EY r) (n ?_)))))))))));obtain ⟨cd,a0⟩|⟨cd,a0⟩:=iv a0
     ·refine jQ (cb cd) (q (g (s (mp r) (s (Ep r) (s (l3 r (a.bk 9 r) r) ?_)))));obtain ⟨dy,dz,a0⟩:=bs a0;have hc:=(nP fu) (a.pr [0,1,2,3,4,5] [6,7,8,9] [6,1,2,3,4] r) (a.le a3) (a.le a4) (a.le a5) (a.le X) (a.le Y) dz;refine sc (ec BP r) hc ?_;rintro _ ee ⟨rfl,hK⟩;replace a:=a.cn [0,1,2,3,4,5] [6,7,8,9] hK;refine n (q (g (s (kZ [V b.b,V b.g,V (U.a.b.length:Int),T b.c,T b.j,V b.m,V b.f,Z Q b.e S,T b.k,V b.h,Z D b.a E,Z B b.d C,Z u b.i v] lV jY r (a.bk 9 r)) (kV (mQ a 8 [V b.b,V b.g,V (U.a.b.length:Int),T b.c,T b.j,V b.m,V b.f,Z Q b.e S,T b.k,V b.h,Z D b.a E,Z B b.d C,Z u b.i v] r jY r r) fun ef a=>n (lG ?_)))));obtain rfl:=sm a0;replace t:=oi t;obtain rfl:=sm t;replace x:=oi x;obtain rfl:=sm x;exact jK r (uS r lV r jY r (a.bk 8 r)) (nH ⟨Q,S,D,E,B,C,u,v,an,ao,af,A8,C8,Q8,ap,aq,au,r,a.ad [0,1,2,3,4,5] [16,17,18,19,0,1,2,3,4]⟩)
     refine jM (yM cd) (wk ?_);obtain ⟨cp,c4,a0⟩:=bs a0;obtain ⟨eg,d1,c4⟩:=kU c4;obtain ⟨dZ,d3,a⟩:=a.nm 6 rfl c4;obtain ⟨cC,cD,rfl,cE⟩:=jX.out d3;replace a:=a.ko (d:=.l cC cD cp.a) cE;refine rz a [0] [0,1,8] [] (by kernel_rfl) ?_;replace a:=a.drew;have A:=a.ad [0] [0,1,8];refine pF 0 r (mi r) A (pF 1 r (mp r) A (pF 2 r (xn r) A (pF 3 r (uD r) A (pF 4 r (Rq r) A (pF 5 r (R6 r) A (uF 6 r (fun hS=>l23 r (hS.bk 0 r) r) A (pF 7 r (mi r) A (pF 8 r (kR KO zw r r d1 (a.dl 8 r) c4) A (pF 9 r (Qf r) A (uF 10 r (fun hS=>kH lH r r ((hS.dc 1 r) 1 _ r)) A (pF 11 r (qG lH r) A (pF 12 r (Yh r) A (hO 13 (os r r (t_n a 6 [V 2] r p9 r r) fun eh a=>?_))))))))))))));have A:=a.ad [0] [0,1,8];refine ⟨sF A,pF 14 r (af4 r) A (hO 15 (os r r (t_n a 6 [V bv] r p9 r r) fun ei a=>?_))⟩;have A:=a.ad [0] [0,1,8];refine ⟨sF A,pF 16 r (abq r) A (hO 17 (os r r (t_n a 6 [V (cp.a.length:Int)] r p9 r r) fun ej a=>?_))⟩;have A:=a.ad [0] [0,1,8];exact ⟨sF A,hD (cc _ _ ⟨2,bv,(cp.a.length:Int),jA,a.ad [6,8,9,0,1,2,3,4,5] [8,3,4,5,6,13,14,15,16],sm a0⟩)⟩
    exact jM (bf cB) (wk (cc _ _ ⟨1,(-1),1,jA,a.ad [0,2,3,4,5,6,7,8,9] [1,2,3,4,5,6,7,8,9],sm a0⟩))
   clear a;rintro f w ⟨bq,br,bu,hf,a,d4⟩;obtain ⟨eX,rfl⟩:=nS hf;subst d4;replace t:=gi t;replace t:=EU t;refine goC a ?_;refine s (kZ [T b.c,V bq,V br,V bu,.bool false,V (wr ((U.a.b.length:Int)+1)),V 0] NV vE r (a.bk 0 r)) ?_;obtain ⟨aX,dA,dB,t⟩:=mH t;have hc:=(CU fu) (a.pr [3,4,5,6,7,8] [0,1,2] [0,1,2,3,4] r) (a.le a3) (a.le a4) (a.le a5) (a.le X) (a.le Y) dB;refine sc (ec (vT func58) r) hc ?_;rintro _ ek ⟨bK,bL,bM,bN,bO,bP,rfl,hK⟩;replace a:=a.cn [3,4,5,6,7,8] [0,1,2] hK;refine s (Un r) (kV (t_n a 8 [V aX] r p9 r r) fun em a=>n (q (g (s (kZ [V b.b,V b.g,V (U.a.b.length:Int),T b.c,T b.j,V b.m,V aX,Z Q b.e S,T b.k,V b.h,Z D b.a E,Z B b.d C,Z u b.i v] lV jY r (a.bk 8 r)) (kV (mQ a 7 [V b.b,V b.g,V (U.a.b.length:Int),T b.c,T b.j,V b.m,V aX,Z Q b.e S,T b.k,V b.h,Z D b.a E,Z B b.d C,Z u b.i v] r jY r r) fun en a=>n (lG ?_))))));obtain rfl:=sm t;replace x:=oi x;obtain rfl:=sm x;exact jK r (uS r lV r jY r (a.bk 7 r)) (nH ⟨Q,S,D,E,B,C,u,v,bK,bL,bM,A8,C8,Q8,bN,bO,bP,r,a.ad [0,1,2,3,4,5] [10,11,12,13,0,1,2,3,4]⟩)
  refine jM (bf cz) (q (g (s (kI r r) (s (lM r) (n ?_)))));obtain ⟨cF,t⟩|⟨cF,t⟩:=iv t
  ·refine jQ (bt cF) (q (g (s (Fu r) (s (NM r (a.bk 2 r) r) (s (qG xg r) (s (xH r r) (s (mh r) ?_)))))));obtain ⟨cG,t⟩|⟨cG,t⟩:=iv t
   ·rw [wu cG];refine kY r (s (Fu r) (kY r (s (NM r (a.bk 2 r) r) ?_)));obtain ⟨dC,c5,t⟩:=bs t;obtain ⟨eo,d5,c5⟩:=kU c5;obtain ⟨e0,d6,a⟩:=a.nm 6 rfl c5;obtain ⟨cH,cI,rfl,cJ⟩:=jD.out d6;replace a:=a.ko (d:=.l cH cI dC.a) cJ;refine kY r (s (kR xg jZ r r d5 (a.dl 8 r) c5) (kY r (s (Fj r) (kY r (s (kH Qs r r ((a.dc 1 r) 0 _ r)) (kY r (s (rQ r r) (s (mK r r) (n ?_)))))))));obtain ⟨cK,t⟩|⟨cK,t⟩:=iv t
    ·refine jQ (bt cK) (g (s (mp r) (s (Ep r) (s (l3 r (a.bk 2 r) r) ?_))));obtain ⟨ax,dD,t⟩:=bs t;have hc:=(nP fu) (a.pr [3,4,5,6,7,8] [0,1,2] [3,4,5,6,7] r) (a.le a3) (a.le a4) (a.le a5) (a.le X) (a.le Y) dD;refine sc (ec BP r) hc ?_;rintro _ ep ⟨rfl,hK⟩;replace a:=a.cn [3,4,5,6,7,8] [0,1,2] hK;exact n (c3 _ _ ⟨ax.a.a.a,ax.f,ax.c,ax.e,ax.a.a.b,ax.a.c,ax.a.b,ax.b,jA,a.ad [7,8,0,1,2,3,4,5] [0,1,2,3,4,13,14,15,16],sm t⟩)
    exact jM (bf cK) (wk (c3 _ _ ⟨U.a.a.a,U.f,U.c,U.e,U.a.a.b,U.a.c,r8,U.b,jA,a.ad [1,2,3,4,5,6,7,8] [3,4,5,6,7,8,9,10,11],sm t⟩))
   rw [wZ cG];exact kX r (kX r (kX r (kX r (kX r (kX r (s (lu r r) (n (jM r (wk (c3 _ _ ⟨U.a.a.a,U.f,U.c,U.e,U.a.a.b,U.a.c,r8,U.b,jA,a.ad [1,2,3,4,5,6,7,8] [1,2,3,4,5,6,7,8,9],sm t⟩))))))))))
  exact jM (bf cF) (wk (c3 _ _ ⟨U.a.a.a,U.f,U.c,U.e,U.a.a.b,U.a.c,r8,U.b,jA,a.ad [1,2,3,4,5,6,7,8] [1,2,3,4,5,6,7,8,9],sm t⟩))
 clear a;rintro f w ⟨bj,bH,bI,bJ,bl,bm,bn,bp,hf,a,d7⟩;obtain ⟨eX,rfl⟩:=nS hf;subst d7;replace x:=gi x;replace x:=pi (nC (nC x));refine q (g (s (mp r) (s (Fu r) (s (NM r (a.bk 1 r) r) (s (Ep r) (s (l3 r (a.bk 1 r) r) ?_))))));obtain ⟨bQ,ay,dE,x⟩:=mH x;have hc:=(Io fu) (a.pr [2,3,4,5,6,7] [0,1] [0,1,2,3,4,5] r) (a.le a3) (a.le a4) (a.le a5) (a.le X) (a.le Y) dE;refine sc (ec (vT func134) r) hc ?_;rintro _ eq ⟨aA,aB,cX,rfl,hK⟩;have bw:=a.uo.size;replace a:=a.cn [2,3,4,5,6,7] [0,1] hK;replace a:=a.rb 0 w0.heap.size r bw;refine s (Fu r) (kV (t_n a 8 [Z aA bQ aB] r xu r r) fun er a=>n (q ?_));obtain ⟨dF,aE,x⟩:=bs x;refine qQ (fun f w=>∃ bz bR bS bT bA bB bC bD a1 H I J K L ai z j m M N aV aL aj,Has f [(0,Pt aU),(3,Pt b1),(4,Pt b2)]/\Bx w0 w eW G [.box aU 103 #[Z ac bz ae,Z a9 bA aa,Z an bB ao,Z A8 bC C8,V bR,Z ap bD aq,V bS,V bT],O aP a9 aa 61 Gn am,O aQ an ao 53 (List Gv) (af.map Rw.hdr),.uH aR 55 (sz Gv) af none,O aS A8 C8 78 Gi Q8,O aF ap aq 3 Int au,.box b2 115 #[V 0,V 0,V 0,T be,T be,V 0,V 0,sn,T be,V 0,sn,sn,sn],.box b1 115 #[V a1,V H,V I,T J,T K,V L,V ai,Z j z m,T M,V N,Z D aV E,Z B aL C,Z u aj v]] [.l ac ae bz,.l j m z,.l D E aV,.l B C aL,.l u v aj,.els am bA,.nA af bB,.els Q8 bC,.els au bD]/\Ld.go (bz,bR,bS,bT,bA,bB,bC,bD,a1,H,I,J,K,L,ai,z,M,N,aV,aL,aj)=dF) (fun et ct=>?_) ?_
 ·unfold rO at aE;refine goC a ?_;refine s (Qc r r) (n ?_);obtain ⟨cL,aE⟩|⟨cL,aE⟩:=iv aE
  ·refine jQ (bt cL) (g (s (mp r) ?_));replace a:=a.fz 0 0 r r;obtain ⟨az,ag,dG,aE⟩:=mH aE;have hc:=(NN fu) (a.pr [0,1,2,3,4,5,7] [6] [1,2,3,4,5,0,12,13,14] r) (a.le a3) (a.le a4) (a.le a5) (a.le X) (a.le Y) dG;refine sc (ec (vT func135) r) hc ?_;rintro _ eu ⟨rfl,hK⟩;replace a:=a.cn [0,1,2,3,4,5,7] [6] hK;exact n (ct _ _ ⟨az.a.a.a,az.f,az.c,az.e,az.a.a.b,az.a.c,az.a.b,az.b,ag.b,ag.g,ag.n,ag.c,ag.j,ag.m,ag.f,ag.e,aA,aB,ag.k,ag.h,ag.a,ag.d,ag.i,jA,a.ad [0,1,2,3,4,5,7,6] [0,5,6,7,8,1,2,3,4],sm aE⟩)
  refine jM (bf cL) (wk ?_);replace a:=a.fz 0 0 r r;exact ct _ _ ⟨ay.a.a.a,ay.f,ay.c,ay.e,ay.a.a.b,ay.a.c,ay.a.b,ay.b,b.b,b.g,(U.a.b.length:Int),b.c,b.j,b.m,b.f,bQ,aA,aB,b.k,b.h,b.a,b.d,b.i,jA,a.dp [1,0,12,13,14,2,3,4,5],sm aE⟩
 clear a;rintro f w ⟨bz,bR,bS,bT,bA,bB,bC,bD,a1,H,I,J,K,L,ai,z,j,m,M,N,aV,aL,aj,hf,a,d8⟩;obtain ⟨eX,rfl⟩:=nS hf;subst d8;replace x:=gi x;replace x:=EU (nC (nC (nC (nC (nC (nC x))))));refine q (g (s (mp r) (s (zB r) (s (NM r (a.bk 7 r) r) (s (Ep r) (s (l3 r (a.bk 7 r) r) ?_))))));obtain ⟨a2,dH,dI,x⟩:=mH x;have hc:=(Io fu) (a.pr [0,1,2,3,4,5] [6,7] [0,5,6,7,8,2] r) (a.le a3) (a.le a4) (a.le a5) (a.le X) (a.le Y) dI;refine sc (ec (vT func134) r) hc ?_;rintro _ ev ⟨c,h,aC,rfl,hK⟩;have bw:=a.uo.size;replace a:=a.cn [0,1,2,3,4,5] [6,7] hK;replace a:=a.rb 0 w0.heap.size r bw;refine s (zB r) (kV (t_n a 8 [Z c a2 h] r xu r r) fun ew a=>n (q (g (s (mp r) (s (Dm r) (s (l59 r (a.bk 8 r) r) ?_))))));obtain ⟨a6,ah,dJ,x⟩:=mH x;have hc:=H_r04_block (a.pr [1,2,3,4,5,6] [0,7,8] [1,2,3,4,5,9] r) (a.le a3) (a.le a4) (a.le a5) (a.le X) (a.le Y) dJ;refine sc (ec Vo r) hc ?_;rintro _ ex ⟨o,p,aD,aY,aZ,aG,b0,b3,b4,b5,b6,b8,rfl,hK⟩;have bw:=a.uo.size;replace a:=a.cn [1,2,3,4,5,6] [0,7,8] hK;replace a:=a.rb 0 w0.heap.size r bw;refine s (Dm r) (kV (t_n a 9 [Z o a6 p] r DT r r) fun ey a=>n (q ?_));obtain ⟨dK,W,x⟩:=bs x;refine qQ (fun f w=>Has f [(0,Pt aU),(3,Pt b1),(4,Pt b2)]/\Bx w0 w eW G [O w0.heap.size o p 115 Gs aD,.box aU 103 #[Z ac ah.a.a.a ae,Z a9 ah.a.a.b aa,Z aY ah.a.c aZ,Z b0 ah.a.b b3,V ah.f,Z b5 ah.b b6,V ah.c,V ah.e],O aP a9 aa 61 Gn am,O aQ aY aZ 53 (List Gv) (aG.map Rw.hdr),.uH aR 55 (sz Gv) aG none,O aS b0 b3 78 Gi b4,O aF b5 b6 3 Int b8,O w0.heap.size c h 166 Ge aC,.box b2 115 #[V 0,V 0,V 0,T be,T be,V 0,V 0,sn,T be,V 0,sn,sn,sn],.box b1 115 #[V a1,V H,V I,T J,T K,V L,V ai,Z j z m,T M,V N,Z c a2 h,Z o a6 p,Z u aj v]] [.els aD a6,.l ac ae ah.a.a.a,.els am ah.a.a.b,.nA aG ah.a.c,.els b4 ah.a.b,.els b8 ah.b,.els aC a2,.l j m z,.l u v aj]/\Ld.go ()=dK) (fun ez cu=>?_) ?_
 ·unfold oG at W;refine q (g (s (zX r) (s (l3 r (a.bk 9 r) r) (s (kI r r) (s (mh r) ?_)))));obtain ⟨cM,W⟩|⟨cM,W⟩:=iv W
  ·rw [wu cM];refine kY r (s (mp r) (kY r (s (xn r) (kY r (s (BL r) (kY r (s (Gy r (a.bk 1 r) r) (kY r (s (kI r r) (s (mK r r) (n ?_)))))))))));obtain ⟨cN,W⟩|⟨cN,W⟩:=iv W
   ·refine jQ (bt cN) (q (g (o7 (jT a [] KI Ra r r y) ?_)));rintro _ eA ⟨eB,rfl,a⟩;refine s (mp r) (s (xn r) (s (DL r) (s (l22 r (a.bk 2 r) r) ?_)));obtain ⟨cq,d9,W⟩:=bs W;refine o7 (kJ a 0 0 r r DX p9 r (nD _) r r (a.Cj 7 6 r r) d9) ?_;rintro _ eC ⟨ce,cg,cO,rfl,a⟩;refine s (q9 r) (n (q (Sj a [] [] [2,10] [] [12,14] (by kernel_rfl) ?_)));replace a:=a.drew;have A:=a.ad [] [];have hu:=a.ad [2,10] [];refine pL 0 r (mp r) A hu (pL 1 r (Ep r) A hu (tS 1 2 r (fun _ hS=>l3 r (hS.bk 1 r) r) (nT A hu) (pL 3 r (Eu r) A hu (tS 2 4 r (fun _ hS=>l9 r (hS.bk 1 r) r) (nT A hu) (pL 5 r (mp r) A hu (pL 6 r (xn r) A hu (pL 7 r (uD r) A hu (pL 8 r (Kq r) A hu (tS 3 9 r (fun _ hS=>l28 r (hS.bk 0 r) r) (nT A hu) (pL 10 r (qG Rx r) A hu (pL 11 r (FV r r r r r) A hu ?_)))))))))));obtain ⟨aH,dL,dM,W⟩:=mH W;have hc:=(CU fu) (a.pr [2,3,4,5,6,7] [0,1,8,9,10] [2,3,4,5,6] r) (a.le a3) (a.le a4) (a.le a5) (a.le X) (a.le Y) dM;refine hO 12 (oc r r (ec (vT func58) r) hc ?_);rintro _ eD ⟨cP,cQ,cR,cS,cT,cU,rfl,hK⟩;replace a:=a.cn [2,3,4,5,6,7] [0,1,8,9,10] hK;have A:=a.ad [] [];refine ⟨sy 12 A,tP 13 r (fun _=>Un r) (sy 12 A) (hO 14 (os r r (t_n a 10 [V aH] r p9 r r) fun eE a=>?_))⟩;have A:=a.ad [] [];refine ⟨sy 12 A,hD (q (g (s (mp r) (s (Aq r) (s (l59 r (a.bk 10 r) r) ?_)))))⟩;obtain ⟨aI,F,dN,W⟩:=mH W;have hc:=H_r04_block (a.pr [0,1,2,3,4,5] [6,7,8,9,10] [0,1,2,3,4,22] r) (a.le a3) (a.le a4) (a.le a5) (a.le X) (a.le Y) dN;refine sc (ec Vo r) hc ?_;rintro _ eF ⟨a7,a8,bi,b9,ba,aJ,av,aw,aK,bb,bc,bd,rfl,hK⟩;have bw:=a.uo.size;replace a:=a.cn [0,1,2,3,4,5] [6,7,8,9,10] hK;replace a:=a.rb 0 w0.heap.size r bw;refine s (Aq r) (kV (t_n a 11 [Z a7 aI a8] r DT r r) fun eG a=>n (q ?_));obtain ⟨dO,ar,W⟩:=bs W
    refine qQ (fun f w=>∃ (bg aM aN:_)(aO:List Rw),Has f [(0,Pt aU),(3,Pt b1),(4,Pt b2),(8,Z ce cq cg)]/\Bx w0 w eW G [O w0.heap.size a7 a8 115 Gs bi,.box aU 103 #[Z ac F.a.a.a ae,Z a9 F.a.a.b aa,Z aM bg aN,Z av F.a.b aw,V F.f,Z bb F.b bc,V F.c,V F.e],O aP a9 aa 61 Gn am,O aQ aM aN 53 (List Gv) (aO.map Rw.hdr),.uH aR 55 (sz Gv) aO none,O aS av aw 78 Gi aK,O aF bb bc 3 Int bd,O w0.heap.size ce cg 3 Int cO,O w0.heap.size o p 115 Gs aD,O w0.heap.size c h 166 Ge aC,.box b2 115 #[V 0,V 0,V 0,T be,T be,V 0,V 0,sn,T be,V 0,sn,sn,sn],.box b1 115 #[V a1,V H,V I,T J,T K,V L,V aH,Z j z m,T M,V N,Z c a2 h,Z o a6 p,Z a7 aI a8]] [.els bi aI,.l ac ae F.a.a.a,.els am F.a.a.b,.nA aO bg,.els aK F.a.b,.els bd F.b,.els cO cq,.els aD a6,.els aC a2,.l j m z]/\Ld.go bg=dO) (fun eH cv=>?_) ?_
    ·unfold pI at ar;refine q (g (s (mp r) (s (xn r) (s (BL r) (s (Gy r (a.bk 1 r) r) (s (kI r r) (n ?_)))))));obtain ⟨cV,ar⟩|⟨cV,ar⟩:=iv ar
     ·refine jQ (bt cV) ?_;obtain ⟨dP,ch,ar⟩:=bs ar;obtain ⟨cW,da,ch⟩:=kU ch;replace a:=a.arr [4,0,1,2,3,5,6,7,8,9,10,11] r;try dsimp only [pick,nth,ca,na] at a
      obtain ⟨db,dd,eI,ci,df,a⟩:=a.foc 3 rfl ch;refine Sj a [1,3,5,12] [4] [0,1,3,5,12] [0,4] [22] (by kernel_rfl) ?_;replace a:=a.drew;have A:=a.ad [1,3,5,12] [4];have hu:=a.ad [0,1,3,5,12] [0,4];refine pL 0 r (mp r) A hu (pL 1 r (xn r) A hu (pL 2 r (uD r) A hu (pL 3 r (I7 r) A hu (tU 4 r (fun _ hS=>l27 r (hS.bk 1 r) r) (nT A hu) (pL 5 r (mp r) A hu (pL 6 r (xn r) A hu (pL 7 r (Hz r) A hu (tU 8 r (fun _ hS=>l3 r (hS.bk 1 r) r) (nT A hu) (pL 9 r (Sg Kz Gj r r da (a.bo 5 r) ci (a.d2 4 r).len) A hu (tU 10 r (fun _ hS=>kH Gq r r (hS.hc 2 r ci df 0 _ r)) (nT A hu) (pL 11 r (Un r) A hu (tU 12 r (fun _ hS=>l3 r (hS.bk 3 r) r) (nT A hu) (pL 13 r (mp r) A hu (pL 14 r (xn r) A hu (pL 15 r (uD r) A hu (pL 16 r (Kq r) A hu (tU 17 r (fun _ hS=>l28 r (hS.bk 1 r) r) (nT A hu) (pL 18 r (qG Rx r) A hu (pL 19 r (ER r r) A hu ?_)))))))))))))))))));obtain ⟨aT,c6,ar⟩:=bs ar;obtain ⟨dg,dh,c6⟩:=kU c6;refine pL 20 r (kR Gq vE r r dh (a.vw 0 0 r r) c6) A hu (pL 21 r (U8 r) A hu ?_);obtain ⟨dQ,c7,ar⟩:=bs ar;obtain ⟨dR,e1,_,c7⟩:=sQ c7;obtain rfl:dg=dR:=by omega
      obtain ⟨dS,di,cj⟩:=(a.de 0 rfl).get c6;replace cj:dS=[T aT.c,V aT.b,V aT.f,V aT.a,.bool aT.g,V aT.e,V aT.d]:=cj;subst cj;refine hO 22 (os r r (Nk a 0 0 dg 6 [V (wr ((F.a.b.length:Int) - 1))] r r di p9 r r r r r (show _=[T aT.c,V aT.b,V aT.f,V aT.a,.bool aT.g,V aT.e,V (wr ((F.a.b.length:Int) - 1))] from r) r c7) ?_);rintro Tp ⟨dj,a⟩;try dsimp only [List.set] at a
      have cw:dP.length=dQ.length:=by rw [<-c7,wR]
      try dsimp only [Z] at a
      try rw [cw] at a
      try dsimp only [Z]
      try rw [cw]
      have A:=a.ad [1,3,5,12] [4];refine ⟨sy 22 A,hD ?_⟩;obtain ⟨dk,c8,ar⟩:=bs ar;obtain ⟨dT,e2,_,c8⟩:=sQ c8;obtain rfl:cW=dT:=by omega
      have e3:=(a.de 0 r).len;replace a:=a.hd 5 (H':=((aJ.set cW ⟨db,dd,dj⟩).map Rw.hdr)) r (acy ci (by omega));try dsimp only [List.set] at a
      replace a:=a.arr [0,1,2,3,4,5,6,7,8,9,10,11,12] r;try dsimp only [pick,nth,ca,na] at a
      replace a:=a.unf 4 0 r r;try dsimp only [List.set] at a
      rw [c8] at a;obtain ⟨dU,dm⟩:∃ R,(aJ.set cW ⟨db,dd,dj⟩)=R:=⟨_,rfl⟩;rw [dm] at a;have cx:F.a.c.length=dk.length:=by rw [<-c8,wR]
      try dsimp only [Z] at a
      try rw [cx] at a
      try dsimp only [Z]
      try rw [cx]
      exact cv _ _ ⟨dk,b9,ba,dU,jA,a.ad [1,2,3,4,0,5,6,7,8,9,10,11] [1,2,3,4,5,6,12,13,19,26],sm ar⟩
     exact jM (bf cV) (wk (cv _ _ ⟨F.a.c,b9,ba,aJ,jA,a.dp [0,1,2,3,4,5,11,12,18,25],sm ar⟩))
    clear a;rintro f w ⟨bg,aM,aN,aO,hf,a,dn⟩;obtain ⟨eX,rfl⟩:=nS hf;subst dn;replace W:=gi W;refine q (g (s (mp r) (s (vR r) (s (xn r) (s (DL r) (kV (t_n a 1 [Z ce cq cg] r JF r r) fun eJ a=>n (q (g (s (kZ [V a1,V H,V I,T J,T K,V L,V aH,Z j z m,T M,V N,Z c a2 h,Z o a6 p,Z a7 aI a8] lV jY r (a.bk 11 r)) (kV (mQ a 10 [V a1,V H,V I,T J,T K,V L,V aH,Z j z m,T M,V N,Z c a2 h,Z o a6 p,Z a7 aI a8] r jY r r) fun eK a=>n (lG ?_)))))))))));replace a:=a.fz 9 8 r r;replace a:=a.fz 8 8 r r;replace a:=a.fz 0 2 r r;replace a:=a.rb 6 aF r Y;obtain rfl:=sm W;replace x:=oi x;obtain rfl:=sm x;exact jK r (uS r lV r jY r (a.bk 7 r)) (nH ⟨j,m,c,h,o,p,a7,a8,aM,aN,aO,av,aw,aK,ce,cg,cO,r,a.ad [0,1,2,3,4,6] [9,2,1,0,3,4,5,6,8]⟩)
   exact jM (bf cN) (wk (cu _ _ ⟨jA,a.dp [0,1,2,3,4,5,6,13,16],sm W⟩))
  rw [wZ cM];exact kX r (kX r (kX r (kX r (kX r (s (lu r r) (n (jM r (wk (cu _ _ ⟨jA,a.dp [0,1,2,3,4,5,6,13,16],sm W⟩)))))))))
 clear a;rintro f w ⟨hf,a,dq⟩;obtain ⟨eX,rfl⟩:=nS hf;subst dq;replace x:=gi x;refine q (g (s (mp r) (s (Aq r) (s (l59 r (a.bk 9 r) r) ?_))));obtain ⟨bh,dV,dW,x⟩:=mH x;have hc:=H_r04_block (a.pr [1,2,3,4,5,6] [0,7,8,9] [1,2,3,4,5,8] r) (a.le a3) (a.le a4) (a.le a5) (a.le X) (a.le Y) dW;refine sc (ec Vo r) hc ?_;rintro _ eL ⟨ak,al,cY,bU,bV,bW,bX,bY,bZ,c0,c1,c2,rfl,hK⟩;have bw:=a.uo.size;replace a:=a.cn [1,2,3,4,5,6] [0,7,8,9] hK;replace a:=a.rb 0 w0.heap.size r bw;refine s (Aq r) (kV (t_n a 10 [Z ak bh al] r DT r r) fun eM a=>n (q (g (s (kZ [V a1,V H,V I,T J,T K,V L,V ai,Z j z m,T M,V N,Z c a2 h,Z o a6 p,Z ak bh al] lV jY r (a.bk 10 r)) (kV (mQ a 9 [V a1,V H,V I,T J,T K,V L,V ai,Z j z m,T M,V N,Z c a2 h,Z o a6 p,Z ak bh al] r jY r r) fun eN a=>n (lG ?_))))));replace a:=a.fz 8 12 r r;replace a:=a.fz 7 7 r r;replace a:=a.fz 0 2 r r;obtain rfl:=sm x;exact jK r (uS r lV r jY r (a.bk 6 r)) (nH ⟨j,m,c,h,o,p,ak,al,bU,bV,bW,bX,bY,bZ,c0,c1,c2,r,a.ad [0,1,2,3,4,5] [13,2,1,0,3,4,5,6,7]⟩)
theorem Nl (fu:Nat):y7 (qm fu)/\Dv (vY fu):=by
 induction fu with
 | zero=>exact ⟨by intro a b;intros;(try intro _);intros;exact nn (by assumption),by intro a b;intros;(try intro _);intros;exact nn (by assumption)⟩
 | succ fu ih=>exact ⟨PW fu (qm fu) (vY fu) ih.1 ih.2,Rb fu (qm fu) (vY fu) ih.1 ih.2⟩
theorem O7 (fu:Nat):y7 (qm fu):=(Nl fu).1
def KA (m:fV->Gn->Option (Gn × fV)):Prop:=∀ {w0:World}{a7}{k:fV}{x1:Gn}{a3 d h a b i o p t}{j:List Rw}{u x z A G B C D H E S U W X R},(fun n=>Pre w0 a7 n [.l d h k.a.a.a,.els i k.a.a.b,.nA j k.a.c,.els G k.a.b,.els H k.b,.l S U x1.a,.l W X x1.d]->o<=w0.heap.size->u<=w0.heap.size->x<=w0.heap.size->B<=w0.heap.size->E<=w0.heap.size->m k x1=some R-> Calls prog 30 #[Pt a3,.agg #[T x1.c,V x1.g,Z S x1.a U,Z W x1.d X]] w0 (rV fun v w=>jB R fun r0 c=>∃ (Y:OA)(a0:Nat)(a1:OA)(a2:Nat)(I:OA)(J:Nat)(F:List Rw)(K:OA)(L:Nat)(M:LV)(N:OA)(P:Nat)(Q:LV),v=.agg #[T r0.c,V r0.g,Z Y r0.a a0,Z a1 r0.d a2]/\Bx w0 w a7 (mD n) [.box a3 103 #[Z d c.a.a.a h,Z a c.a.a.b b,Z I c.a.c J,Z K c.a.b L,V c.f,Z N c.b P,V c.c,V c.e],O o a b 61 Gn i,O u I J 53 (List Gv) (F.map Rw.hdr),.uH x 55 (sz Gv) F none,O B K L 78 Gi M,O E N P 3 Int Q] [.l Y a0 r0.a,.l a1 a2 r0.d,.l d h c.a.a.a,.els i c.a.a.b,.nA F c.a.c,.els M c.a.b,.els Q c.b])) [.box a3 103 #[Z d k.a.a.a h,Z a k.a.a.b b,Z p k.a.c t,Z z k.a.b A,V k.f,Z C k.b D,V k.c,V k.e],O o a b 61 Gn i,O u p t 53 (List Gv) (j.map Rw.hdr),.uH x 55 (sz Gv) j none,O B z A 78 Gi G,O E C D 3 Int H]
def kT (fu:Nat)(m:Gn):List BA→Nat→(List Int)→(List Gr)→Int→Int→Int→(List Gn)→(List (List Gv))→(List Gi)→Option (Ld (List Int × List Gr × Int × Int × Int × List Gn × List (List Gv) × List Gi) (Gn × fV))
 | [],_,c,d,h,i,j,k,l,b=>some (.go (c,d,h,i,j,k,l,b))
 | p :: t,u,c,d,h,i,j,k,l,b=>
 (nL fu (⟨(⟨(⟨d,k⟩:jV),l,b⟩:jW),h,c,i,j⟩:fV) m.g (⟨p,1,(-1),1,true,(b.length:Int),0⟩:Gv)).bind fun v=>
 jB v fun o a=>
 kT fu m t (u+1) a.b a.a.a.a a.f a.c a.e a.a.a.b a.a.c a.a.b
def l6 (fu:Nat)(a:fV):List BA→Nat→(List (List Gv))→Option (Ld (List (List Gv)) (Gn × fV))
 | [],_,b=>some (.go b)
 | k :: h,d,b=>
 (ix b a.f).bind fun e=>
 (ix e (d:Int)).bind fun c=>
 (st e (d:Int) (⟨c.c,c.b,c.f,c.a,c.g,c.e,wr ((a.a.b.length:Int) - 1)⟩:Gv)).bind fun i=>
 (st b a.f i).bind fun j=>
 l6 fu a h (d+1) j
def og (fu:Nat)(d:fV)(b:Gn):Option (Gn × fV):=if 4 < (b.a.length:Int) then (mO fu d b.g 5).bind fun v=>some (b,v) else (kT fu b b.a 0 ([]:List Int) d.a.a.a d.f d.c d.e d.a.a.b d.a.c d.a.b).bind fun w=>w.el (fun w=>jB w fun h w=>jB w fun i w=>jB w fun j w=>jB w fun k w=>jB w fun c w=>jB w fun l w=>jB w fun m p=>if c=0 then (qm fu (⟨(⟨(⟨i,l⟩:jV),m,p⟩:jW),j,h,k,c⟩:fV) b.d).bind fun w=>jB w fun t a=>(l6 fu a b.a 0 a.a.c).bind fun w=>w.el (fun u=>some ((⟨b.c,b.g,b.a,t⟩:Gn),(⟨(⟨a.a.a,u,a.a.b⟩:jW),a.f,a.b,a.c,a.e⟩:fV))) (fun o=>some o) else some (b,(⟨(⟨(⟨i,l⟩:jV),m,p⟩:jW),j,h,k,c⟩:fV))) (fun o=>some o)
theorem EJ (fu:Nat):KA (og fu):=by
 intro w0 ch x0 j ar L M z A N ai aj ak au al am Q S ab an aA aB aQ aC c d t u R hP av aw ax ay az hM;unfold og at hM;have a:=hP.bx;clear hP;generalize hG:mD _=G at a ⊢;refine cf func30 r (q (g (qZ a (rD r) fun w1 b1 a=>qZ a (jN oU) fun w2 b2 a=>n (q (q (g (s (RZ r) (s (Na r (a.bk 1 r) r) (s (qG lH r) (s (xH r r) (n ?_)))))))))));obtain ⟨h3,hM⟩|⟨h3,hM⟩:=iv hM
 ·refine jQ (bt h3) (q (g (s (mp r) (s (Vu r) (s (l3 r (a.bk 1 r) r) ?_)))));obtain ⟨bI,h4,hM⟩:=bs hM;have hc:=(nP fu) (a.pr [2,3,4,5,6,7] [0,1] [0,1,2,3,4] r) (a.le av) (a.le aw) (a.le ax) (a.le ay) (a.le az) h4;refine sc (ec BP r) hc ?_;rintro _ w4 ⟨rfl,hK⟩;replace a:=a.cn [2,3,4,5,6,7] [0,1] hK;refine n (q (g (s (kZ [T j.c,V j.g,Z c j.a d,Z t j.d u] Gg oU r (a.bk 7 r)) (kV (mQ a 6 [T j.c,V j.g,Z c j.a d,Z t j.d u] r oU r r) fun w5 a=>n (lG ?_)))));obtain rfl:=sm hM;exact jK r (uS r Gg r oU r (a.bk 6 r)) (nH ⟨c,d,t,u,aj,ak,au,Q,S,ab,aA,aB,aQ,r,a.ad [0,1,2,3,4,5] [10,11,0,1,2,3,4]⟩)
 refine jM (bf h3) (wk (q (g (s (mp r) (s (xn r) (s (DL r) (kV (t_n a 2 [sn] r JF r r) fun w6 a=>n (q (q (g (s (RZ r) (s (Na r (a.bk 1 r) r) (s (qG lH r) (s (mi r) (n ?_)))))))))))))));replace a:=a.Gf Int 3;have bS:=(a.dl 6 r).bd;obtain ⟨Y7,ao,hM⟩:=bs hM;refine qQ (fun f w=>∃ (a6 U W X a7 ae af ag a8 a9 Y a0:_)(B:List Rw)(aa:_),Has f [(0,Pt ar),(3,Pt b1),(4,Pt b2)]/\Bx w0 w ch G [O w0.heap.size U W 3 Int X,.box b2 61 #[T be,V 0,sn,sn],.box b1 61 #[T j.c,V j.g,Z c j.a d,Z t j.d u],.box ar 103 #[Z L a7 M,Z z a8 A,Z Y a9 a0,Z Q aa S,V ae,Z U a6 W,V af,V ag],O ai z A 61 Gn N,O al Y a0 53 (List Gv) (B.map Rw.hdr),.uH am 55 (sz Gv) B none,O an Q S 78 Gi ab] [.l L M a7,.els X a6,.els N a8,.nA B a9,.els ab aa,.l c d j.a,.l t u j.d]/\Ld.go (a6,a7,ae,af,ag,a8,a9,aa)=Y7) (fun J7 bu=>?_) ?_
 ·refine oN (kG (fun cj f w=>∃ (k7 a6 U W X a7 ae af ag a8 a9 Y a0:_)(B:List Rw)(aa:_),cj=j.a.length - k7/\k7<=j.a.length/\Has f [(23,V (k7:Int)),(0,Pt ar),(3,Pt b1),(4,Pt b2),(21,Z c j.a d),(22,V (j.a.length:Int))]/\Bx w0 w ch G [O w0.heap.size U W 3 Int X,.box b2 61 #[T be,V 0,sn,sn],.box b1 61 #[T j.c,V j.g,Z c j.a d,Z t j.d u],.box ar 103 #[Z L a7 M,Z z a8 A,Z Y a9 a0,Z Q aa S,V ae,Z U a6 W,V af,V ag],O ai z A 61 Gn N,O al Y a0 53 (List Gv) (B.map Rw.hdr),.uH am 55 (sz Gv) B none,O an Q S 78 Gi ab] [.l L M a7,.els X a6,.els N a8,.nA B a9,.els ab aa,.l c d j.a,.l t u j.d]/\kT fu j (j.a.drop k7) k7 a6 a7 ae af ag a8 a9 aa=some Y7) j.a.length ⟨0,KI,none,0,[],x0.a.a.a,x0.f,x0.c,x0.e,x0.a.a.b,x0.a.c,aj,ak,au,x0.a.b,r,uL _,jA,a.ad [0,1,2,3,4,5,6,7] [1,0,2,3,4,6,7],ao⟩ ?_);clear a ao;rintro cj f w ⟨k7,a6,U,W,X,a7,ae,af,ag,a8,a9,Y,a0,B,aa,rfl,bT,hf,a,ao⟩ K7 bv;obtain ⟨ci,rfl⟩:=nS hf;obtain b6 | b6:=xw k7 j.a.length
  ·obtain ⟨u7,b0⟩:=lZ (l:=j.a) b6;rw [mV b0,kT] at ao;refine q (g (s (vC r r) (n (q (jQ r (wk (q (oN (q (g (s (kR lH qx r r r (a.dl 5 r) b0) (s (kH vU r r ((uY (ds:=[T u7]) (a.dl 5 r) b0 (fun _ h=>h)) 0 _ r)) (s (pz r) (n (Sj a [2] [] [2,3] [] [11] (by kernel_rfl) ?_)))))))))))))));replace a:=a.drew;have hs:=a.ad [2] [];have hu:=a.ad [2,3] [];refine pL 0 r (mp r) hs hu (pL 1 r (Vu r) hs hu (tU 2 r (fun _ hS=>l3 r (hS.bk 0 r) r) (nT hs hu) (pL 3 r (nW r) hs hu (pL 4 r (mp r) hs hu (pL 5 r (xn r) hs hu (pL 6 r (uD r) hs hu (pL 7 r (Kq r) hs hu (tS 3 8 r (fun _ hS=>l28 r (hS.bk 1 r) r) (nT hs hu) (pL 9 r (qG Rx r) hs hu (pL 10 r (Jk r r r r r r) hs hu ?_))))))))));obtain ⟨bL,ah,h9,ao⟩:=mH ao;have hc:=(CU fu) (a.pr [3,4,5,6,7,0] [1,2] [0,2,3,4,1] r) (a.le av) (a.le aw) (a.le ax) (a.le ay) a.uo.size h9;refine hO 11 (oc r r (ec (vT func58) r) hc ?_);rintro _ w9 ⟨aJ,aK,aL,aM,aN,aO,rfl,hK⟩;replace a:=a.cn [3,4,5,6,7,0] [1,2] hK;have hs:=a.ad [7] [];exact ⟨sy 11 hs,hD (g (s (lT r r) (s (mi r) (n (bv (j.a.length - (k7+1)) _ _ (by omega) ⟨k7+1,ah.b,aM,aN,aO,ah.a.a.a,ah.f,ah.c,ah.e,ah.a.a.b,ah.a.c,aJ,aK,aL,ah.a.b,r,by omega,jA,a.ad [5,6,7,0,1,2,3,4] [0,4,1,2,3,10,11],ao⟩)))))⟩
  obtain rfl:k7=j.a.length:=by omega
  rw [mF,kT] at ao;exact q (g (s (u6 r r) (n (q (jM r (uw (bu _ _ ⟨a6,U,W,X,a7,ae,af,ag,a8,a9,Y,a0,B,aa,jA,a,sm ao⟩)))))))
 clear a;rintro f w ⟨a6,U,W,X,a7,ae,af,ag,a8,a9,Y,a0,B,aa,hf,a,bw⟩;obtain ⟨ci,rfl⟩:=nS hf;subst bw;replace hM:=gi hM;replace hM:=pi (nC (nC hM));refine q (q (g (s (mp r) (s (xn r) (s (BL r) (s (Gy r (a.bk 3 r) r) (s (kI r r) (n ?_))))))));obtain ⟨b3,hM⟩|⟨b3,hM⟩:=iv hM
 ·refine jQ (bt b3) (q (g (s (mp r) (s (KZ r) (s (l59 r (a.bk 2 r) r) ?_)))));obtain ⟨a1,b,bz,hM⟩:=mH hM;have hc:=(O7 fu) (a.pr [3,4,5,6,7,0] [1,2] [0,2,3,4,1,6] r) (a.le av) (a.le aw) (a.le ax) (a.le ay) a.uo.size bz;refine sc (ec Vo r) hc ?_;rintro _ bW ⟨m,o,a4,aD,aE,aF,C,D,E,F,H,I,rfl,hK⟩;have bA:=a.uo.size;replace a:=a.cn [3,4,5,6,7,0] [1,2] hK;replace a:=a.rb 0 w0.heap.size r bA;refine s (KZ r) (kV (t_n a 8 [Z m a1 o] r DT r r) fun bX a=>n (q (g (s (RZ r) (s (Na r (a.bk 8 r) r) (s (qG lH r) (s (mi r) (n ?_))))))));have bM:=(a.dl 11 r).bd;obtain ⟨b7,J,hM⟩:=bs hM;refine qQ (fun f w=>∃ (K v x:_)(p:List Rw),Has f [(3,Pt b1),(4,Pt b2)]/\Bx w0 w ch G [O w0.heap.size m o 115 Gs a4,.box ar 103 #[Z L b.a.a.a M,Z z b.a.a.b A,Z v K x,Z C b.a.b D,V b.f,Z F b.b H,V b.c,V b.e],O ai z A 61 Gn N,O al v x 53 (List Gv) (p.map Rw.hdr),.uH am 55 (sz Gv) p none,O an C D 78 Gi E,O w0.heap.size F H 3 Int I,.box b2 61 #[T be,V 0,sn,sn],.box b1 61 #[T j.c,V j.g,Z c j.a d,Z m a1 o]] [.els a4 a1,.l L M b.a.a.a,.els N b.a.a.b,.nA p K,.els E b.a.b,.els I b.b,.l c d j.a]/\Ld.go K=b7) (fun bY b8=>?_) ?_
  ·refine oN (kG (fun cj f w=>∃ (aq K v x:_)(p:List Rw),cj=j.a.length - aq/\aq<=j.a.length/\Has f [(53,V (aq:Int)),(0,Pt ar),(3,Pt b1),(4,Pt b2),(52,V (j.a.length:Int))]/\Bx w0 w ch G [O w0.heap.size m o 115 Gs a4,.box ar 103 #[Z L b.a.a.a M,Z z b.a.a.b A,Z v K x,Z C b.a.b D,V b.f,Z F b.b H,V b.c,V b.e],O ai z A 61 Gn N,O al v x 53 (List Gv) (p.map Rw.hdr),.uH am 55 (sz Gv) p none,O an C D 78 Gi E,O w0.heap.size F H 3 Int I,.box b2 61 #[T be,V 0,sn,sn],.box b1 61 #[T j.c,V j.g,Z c j.a d,Z m a1 o]] [.els a4 a1,.l L M b.a.a.a,.els N b.a.a.b,.nA p K,.els E b.a.b,.els I b.b,.l c d j.a]/\l6 fu b (j.a.drop aq) aq K=some b7) j.a.length ⟨0,b.a.c,aD,aE,aF,r,uL _,jA,a.dp [0,1,2,3,4,5,11],J⟩ ?_);clear a J;rintro cj f w ⟨aq,K,v,x,p,rfl,bN,hf,a,J⟩ bZ b9;obtain ⟨ci,rfl⟩:=nS hf;obtain aX | aX:=xw aq j.a.length
   ·obtain ⟨c0,ba⟩:=lZ (l:=j.a) aX;rw [mV ba,l6] at J;refine q (g (s (vC r r) (n (q (jQ r (wk (q (oN (q (g (s (mi r) (s (xi r) (n ?_)))))))))))));obtain ⟨bB,aR,J⟩:=bs J;obtain ⟨b4,bb,aR⟩:=kU aR;replace a:=a.arr [4,0,1,2,3,5,6,7,8] r;try dsimp only [pick,nth,ca,na] at a
    obtain ⟨bc,bg,c1,aS,bh,a⟩:=a.foc 3 rfl aR;refine Sj a [1,3,5] [4] [0,1,3,5] [0,4] [21] (by kernel_rfl) ?_;replace a:=a.drew;have hs:=a.ad [1,3,5] [4];have hu:=a.ad [0,1,3,5] [0,4];refine pL 0 r (mp r) hs hu (pL 1 r (xn r) hs hu (pL 2 r (uD r) hs hu (pL 3 r (I7 r) hs hu (tU 4 r (fun _ hS=>l27 r (hS.bk 1 r) r) (nT hs hu) (pL 5 r (mp r) hs hu (pL 6 r (xn r) hs hu (pL 7 r (Hz r) hs hu (tU 8 r (fun _ hS=>l3 r (hS.bk 1 r) r) (nT hs hu) (pL 9 r (Sg Kz Gj r r bb (a.bo 5 r) aS (a.d2 4 r).len) hs hu (tU 10 r (fun _ hS=>kH Gq r r (hS.hc 2 r aS bh 0 _ r)) (nT hs hu) (pL 11 r (mi r) hs hu (pL 12 r (mp r) hs hu (pL 13 r (xn r) hs hu (pL 14 r (uD r) hs hu (pL 15 r (Kq r) hs hu (tU 16 r (fun _ hS=>l28 r (hS.bk 1 r) r) (nT hs hu) (pL 17 r (qG Rx r) hs hu (pL 18 r (ER r r) hs hu ?_))))))))))))))))));obtain ⟨ac,aG,J⟩:=bs J;obtain ⟨bi,bj,aG⟩:=kU aG;refine pL 19 r (kR Gq vE r r bj (a.vw 0 0 r r) aG) hs hu (pL 20 r (U8 r) hs hu ?_);obtain ⟨bC,aH,J⟩:=bs J;obtain ⟨bD,bO,_,aH⟩:=sQ aH;obtain rfl:bi=bD:=by omega
    obtain ⟨bE,bl,aT⟩:=(a.de 0 rfl).get aG;replace aT:bE=[T ac.c,V ac.b,V ac.f,V ac.a,.bool ac.g,V ac.e,V ac.d]:=aT;subst aT;refine hO 21 (os r r (Nk a 0 0 bi 6 [V (wr ((b.a.b.length:Int) - 1))] r r bl p9 r r r r r (show _=[T ac.c,V ac.b,V ac.f,V ac.a,.bool ac.g,V ac.e,V (wr ((b.a.b.length:Int) - 1))] from r) r aH) ?_);rintro c2 ⟨bm,a⟩;try dsimp only [List.set] at a
    have aY:bB.length=bC.length:=by rw [<-aH,wR]
    try dsimp only [Z] at a
    try rw [aY] at a
    try dsimp only [Z]
    try rw [aY]
    have hs:=a.ad [1,3,5] [4];refine ⟨sy 21 hs,hD (g (s (lT r r) (s (mi r) (n ?_))))⟩;obtain ⟨bn,aI,J⟩:=bs J;obtain ⟨bF,bP,_,aI⟩:=sQ aI;obtain rfl:b4=bF:=by omega
    have bQ:=(a.de 0 r).len;replace a:=a.hd 5 (H':=((p.set b4 ⟨bc,bg,bm⟩).map Rw.hdr)) r (acy aS (by omega));try dsimp only [List.set] at a
    replace a:=a.arr [0,1,2,3,4,5,6,7,8,9] r;try dsimp only [pick,nth,ca,na] at a
    replace a:=a.unf 4 0 r r;try dsimp only [List.set] at a
    rw [aI] at a;obtain ⟨bG,bp⟩:∃ R,(p.set b4 ⟨bc,bg,bm⟩)=R:=⟨_,rfl⟩;rw [bp] at a;have aZ:K.length=bn.length:=by rw [<-aI,wR]
    try dsimp only [Z] at a
    try rw [aZ] at a
    try dsimp only [Z]
    try rw [aZ]
    exact b9 (j.a.length - (aq+1)) _ _ (by omega) ⟨aq+1,bn,v,x,bG,r,by omega,jA,a.ad [1,2,3,4,0,5,6,7,8] [1,2,3,4,5,6,7],J⟩
   obtain rfl:aq=j.a.length:=by omega
   rw [mF,l6] at J;exact q (g (s (u6 r r) (n (q (jM r (uw (b8 _ _ ⟨K,v,x,p,jA,a,sm J⟩)))))))
  clear a;rintro f w ⟨K,v,x,p,hf,a,bq⟩;obtain ⟨ci,rfl⟩:=nS hf;subst bq;replace hM:=gi hM;refine q (g (s (kZ [T j.c,V j.g,Z c j.a d,Z m a1 o] Gg oU r (a.bk 8 r)) (kV (mQ a 7 [T j.c,V j.g,Z c j.a d,Z m a1 o] r oU r r) fun c3 a=>n (lG ?_))));replace a:=a.fz 0 0 r r;replace a:=a.rb 5 aC r az;obtain rfl:=sm hM;exact jK r (uS r Gg r oU r (a.bk 6 r)) (nH ⟨c,d,m,o,v,x,p,C,D,E,F,H,I,r,a.ad [0,1,2,3,4,5] [6,0,1,2,3,4,5]⟩)
 refine jM (bf b3) (wk (q (g (s (kZ [T j.c,V j.g,Z c j.a d,Z t j.d u] Gg oU r (a.bk 2 r)) (kV (mQ a 1 [T j.c,V j.g,Z c j.a d,Z t j.d u] r oU r r) fun c4 a=>n (lG ?_))))));replace a:=a.rb 0 aC r az;obtain rfl:=sm hM;exact jK r (uS r Gg r oU r (a.bk 1 r)) (nH ⟨c,d,t,u,Y,a0,B,Q,S,ab,U,W,X,r,a.ad [3,4,5,6,7,0] [5,6,0,2,3,4,1]⟩)
def Px (m:jV->Option (jW × Int × Int)):Prop:=∀ {x B}{u:jV}{a b c d R},Pre x B [] [.l a b u.a,.l c d u.b]->m u=some R-> Calls prog 15 #[.agg #[Z a u.a b,Z c u.b d]] x (rV fun v w=>jB R fun t R=>jB R fun z A=>∃ (e:OA)(f:Nat)(h:OA)(i:Nat)(j:OA)(k:Nat)(o:OA)(p:Nat),v=.tuple #[.agg #[Z e t.a.a f,Z h t.a.b i,Z j t.c k,Z o t.b p],V z,V A]/\Bx x w B (mD []) [] [.l e f t.a.a,.l h i t.a.b,.l j k t.c,.l o p t.b])
def mo (fu:Nat)(p:jV):Nat→Int→(List Gr)→Int→Int→Int→(List Gn)→(List (List Gv))→(List Gi)→(List Int)→Option (Ld (Int × List Gr × Int × Int × Int × List Gn × List (List Gv) × List Gi × List Int) (jW × Int × Int))
 | 0,_,_,_,_,_,_,_,_,_=>none
 | t+1,b,d,m,h,c,i,j,k,l=>
 if b < (p.b.length:Int) then
  if c=0 then
   (app j [[]]).bind fun u=>
   (ix p.b b).bind fun v=>
   (og fu (⟨(⟨(⟨d,i⟩:jV),u,k⟩:jW),b,l,h,c⟩:fV) v).bind fun z=>
   jB z fun o a=>
   (ix a.a.a.b b).bind fun x=>
   (st a.a.a.b b o).bind fun w=>
   mo fu p t (wr (b+1)) a.a.a.a a.f a.c a.e w a.a.c a.a.b a.b
  else
   some (.go (b,d,m,h,c,i,j,k,l))
 else
  some (.go (b,d,m,h,c,i,j,k,l))
def qj (fu:Nat)(k:jV):Option (jW × Int × Int):=(app ([]:List Gn) k.b).bind fun t=>(tF fu (⟨(⟨(⟨k.a,t⟩:jV),([]:List (List Gv)),([]:List Gi)⟩:jW),0,([]:List Int),0,0⟩:fV)).bind fun a=>(mo fu k fu 0 a.a.a.a a.f a.c a.e a.a.a.b a.a.c a.a.b a.b).bind fun u=>u.el (fun u=>jB u fun l u=>jB u fun c u=>jB u fun m u=>jB u fun d u=>jB u fun b u=>jB u fun h u=>jB u fun i u=>jB u fun j p=>if b≠0 then some ((⟨(⟨([]:List Gr),([]:List Gn)⟩:jV),([]:List (List Gv)),([]:List Gi)⟩:jW),d,b) else some ((⟨(⟨c,h⟩:jV),i,j⟩:jW),0,0)) (fun o=>some o)
theorem Ii (fu:Nat):Px (qj fu):=by
 intro w0 bS x0 m o ab ac R hP hM;unfold qj at hM;have a:=hP.bx;clear hP;generalize hG:mD _=G at a ⊢;refine cf func15 r (q (g (qZ a (rD r) fun w1 b1 a=>qZ a (jN zR) fun w2 b2 a=>s (xi r) (s (xi r) (n (q (rz a [1] [] [] (by kernel_rfl) ?_)))))));replace a:=a.drew;have hs:=a.ad [1] [];refine Ke hs ?_;refine hO 2 (oo r r (jT a [] GK YB r r y) ?_);rintro _ w3 ⟨b3,rfl,a⟩;have hs:=a.ad [2] [];refine ⟨sF hs,?_⟩;obtain ⟨r4,bd,hM⟩:=bs hM;refine hO 5 (oo r r (kJ a 0 0 r r Gl oU r (nD _) r r (a.ysD 2 r) bd) ?_);rintro _ w4 ⟨A4,C4,Q4,rfl,a⟩;have hs:=a.ad [2] [];refine ⟨sF hs,pF 6 r (YI r r) hs (pF 7 r (acs r) hs (pF 8 r (aaI r) hs (hO 9 (oo r r (ql a (rD r)) ?_))))⟩;rintro _ w6 ⟨b6,rfl,a⟩;have hs:=a.ad [3] [];refine ⟨sF hs,pF 10 r (WA r) hs (hD (q (g (s (mp r) ?_))))⟩;replace a:=a.afu Gv 53 55;replace a:=a.Gf Gi 78;replace a:=a.Gf Int 3;obtain ⟨aa,bg,hM⟩:=bs hM;have hc:=(Pq fu) (a.pr [4,5,2,3,1,0] [6,7] [4,3,2,1,0] r) a.uo.size a.uo.size a.uo.size a.uo.size a.uo.size bg;refine sc (ec (vT func29) r) hc ?_;rintro _ bv ⟨rfl,hK⟩;replace a:=a.cn [4,5,2,3,1,0] [6,7] hK;refine n (q (q (g (s (xi r) (n ?_)))));obtain ⟨aV,j,hM⟩:=bs hM;refine qQ (fun f w=>∃ (W J a9 a7 a8 K b c a4 N v x:_)(Q:List Rw)(L p t a5 X S U a6:_),Has f [(2,Pt b2),(5,Pt b6)]/\Bx w0 w bS G [.box b6 103 #[Z m J o,Z b K c,Z v N x,Z p L t,V a9,Z S X U,V a7,V a8],O w0.heap.size b c 61 Gn a4,O w0.heap.size v x 53 (List Gv) (Q.map Rw.hdr),.uH w0.heap.size 55 (sz Gv) Q none,O w0.heap.size p t 78 Gi a5,O w0.heap.size S U 3 Int a6,.box b2 30 #[sn,sn,sn,sn],.box b1 26 #[Z m x0.a o,Z ab x0.b ac]] [.l m o J,.els a4 K,.nA Q N,.els a5 L,.els a6 X,.l m o x0.a,.l ab ac x0.b]/\Ld.go (W,J,a9,a7,a8,K,N,L,X)=aV) (fun bw aw=>?_) ?_
 ·refine oN (kG (fun bU f w=>∃ (W J a9 a7 a8 K b c a4 N v x:_)(Q:List Rw)(L p t a5 X S U a6:_),Has f [(1,Pt b1),(2,Pt b2),(5,Pt b6),(6,V W)]/\Bx w0 w bS G [.box b6 103 #[Z m J o,Z b K c,Z v N x,Z p L t,V a9,Z S X U,V a7,V a8],O w0.heap.size b c 61 Gn a4,O w0.heap.size v x 53 (List Gv) (Q.map Rw.hdr),.uH w0.heap.size 55 (sz Gv) Q none,O w0.heap.size p t 78 Gi a5,O w0.heap.size S U 3 Int a6,.box b2 30 #[sn,sn,sn,sn],.box b1 26 #[Z m x0.a o,Z ab x0.b ac]] [.l m o J,.els a4 K,.nA Q N,.els a5 L,.els a6 X,.l m o x0.a,.l ab ac x0.b]/\mo fu x0 bU W J a9 a7 a8 K N L X=some aV) fu ⟨0,aa.a.a.a,aa.f,aa.c,aa.e,aa.a.a.b,A4,C4,Q4,aa.a.c,none,0,([]:List Rw),aa.a.b,none,0,[],aa.b,none,0,[],jA,a.dp [0,1,2,3,4,9,10],j⟩ ?_);clear a j;rintro ay f w ⟨W,J,a9,a7,a8,K,b,c,a4,N,v,x,Q,L,p,t,a5,X,S,U,a6,hf,a,j⟩ bz aW;obtain ⟨bT,rfl⟩:=nS hf;cases ay with
  | zero=>exact nn j
  | succ ay=>
   rw [mo] at j;refine q (q (g (s (mi r) (s (JR r) (s (l24 r (a.bk 7 r) r) (s (qG Gl r) (s (sU r r) (s (mh r) ?_))))))));obtain ⟨az,j⟩|⟨az,j⟩:=iv j
   ·rw [wu az];refine kY r (s (mp r) (kY r (s (xn r) (kY r (s (BL r) (kY r (s (Gy r (a.bk 0 r) r) (kY r (s (kI r r) (s (mK r r) (n ?_)))))))))));obtain ⟨aA,j⟩|⟨aA,j⟩:=iv j
    ·refine jQ (bt aA) (wk (q (oN (q (g (s (mp r) (s (mi r) (s (xn r) (s (Hz r) (kV (t_n a 0 [V W] r p9 r r) fun bA a=>n (q (g (s (mp r) (s (mp r) (s (xn r) (s (uD r) (s (I7 r) (s (l27 r (a.bk 0 r) r) (o7 (jT a [[sn]] ([([]:List Gv)]:List (List Gv)) (Xd r) r r ⟨⟨none,0,r,pW⟩,y⟩) ?_)))))))))))))))))));rintro _ bB ⟨bC,rfl,a⟩;obtain ⟨aX,aY,j⟩:=bs j;refine o7 (adg 3 4 3 a r r (by decide) r Kz Gj r (by decide) (nD _) r r (iy:=0) r aY) ?_;rintro _ bD ⟨aZ,b0,bE,rfl,a⟩;try dsimp only [List.set] at a
     refine s (xn r) (s (uD r) (s (I7 r) (kV (t_n a 1 [Z aZ aX b0] r aeA r r) fun bF a=>n ?_)));obtain ⟨an,al,j⟩:=bs j;obtain ⟨bG,b4,al⟩:=kU al;obtain ⟨bm,b5,a⟩:=a.nm 7 rfl al;obtain ⟨ao,ap,aq,ar,rfl,aB,aC⟩:=kC.out b5;replace a:=a.ko (d:=.l ao ap an.a) aB;replace a:=a.ko (d:=.l aq ar an.d) aC;obtain ⟨M,h,b7,j⟩:=mH j;obtain ⟨av,af,j⟩:=bs j;obtain ⟨aD,ax,af⟩:=kU af;obtain ⟨au,ag,j⟩:=bs j;obtain ⟨bh,bn,_,ag⟩:=sQ ag;obtain rfl:aD=bh:=by omega
     refine qQ (fun f w=>∃ (A B C D E F ai:_)(u:List Rw)(H I:_),Has f [(1,Pt b1),(2,Pt b2),(5,Pt b6),(6,V W)]/\Bx w0 w bS G [.box b6 103 #[Z m h.a.a.a o,Z b au c,Z A h.a.c B,Z C h.a.b D,V h.f,Z E h.b F,V h.c,V h.e],O w0.heap.size b c 61 Gn ai,O w0.heap.size A B 53 (List Gv) (u.map Rw.hdr),.uH w0.heap.size 55 (sz Gv) u none,O w0.heap.size C D 78 Gi H,O w0.heap.size E F 3 Int I,.box b2 30 #[sn,sn,sn,sn],.box b1 26 #[Z m x0.a o,Z ab x0.b ac]] [.els ai au,.nA u h.a.c,.els H h.a.b,.els I h.b,.l m o x0.a,.l ab ac x0.b,.l m o h.a.a.a]) (fun Jd hJd=>?_) ?_
     ·refine Sj a [8] [0,1,2,10] [1,8] [0,1,2,10] [13,15] (by kernel_rfl) ?_;replace a:=a.drew;have hs:=a.ad [8] [0,1,2,10];have hu:=a.ad [1,8] [0,1,2,10];refine pL 0 r (mp r) hs hu (pL 1 r (xn r) hs hu (pL 2 r (uD r) hs hu (pL 3 r (Rq r) hs hu (pL 4 r (JR r) hs hu (pL 6 r (mi r) hs hu (pL 7 r (mp r) hs hu (pL 8 r (JR r) hs hu (tU 9 r (fun _ hS=>l24 r (hS.bk 0 r) r) (nT hs hu) (pL 10 r (mi r) hs hu (pL 11 r (kR Gl oU r r b4 (a.dl 10 r) al) hs hu (tU 12 r (fun _ hS=>lK [T an.c,V an.g,Z ao an.a ap,Z aq an.d ar] Gg r oU r r (hS.dc 2 r)) (nT hs hu) (nQ 5 [13] (by kernel_rfl) (jU ?_ (jU ?_ mM))))))))))))))
      ·have hs:=a.ad [8] [0,1,2,10];have hu:=a.ad [1,8] [0,1,2,10];refine vg r r (l24 r (a.bk 1 r) r) (nT hs hu) ?_;have hc:=(EJ fu) (a.pr [1,2,3,4,5,6] [0,7,8] [4,5,6,7,8,1,0] r) a.uo.size a.uo.size a.uo.size a.uo.size a.uo.size b7;refine hO 13 (oc r r (ec (vT func30) r) hc ?_);rintro _ bi ⟨Y,a0,a1,a2,A,B,u,C,D,H,E,F,I,rfl,hK⟩;replace a:=a.cn [1,2,3,4,5,6] [0,7,8] hK;have hs:=a.ad [8] [7,8,9,17];refine ⟨sy 13 hs,?_⟩;obtain ⟨bo,b8,b9⟩:=(a.de 3 rfl).get af;obtain ⟨aE,aF,aG,aH,rfl,aI,aJ⟩:=kC.out b9;replace a:=a.ko (d:=.l aE aF av.a) aI;replace a:=a.ko (d:=.l aG aH av.d) aJ;refine tP 14 r (fun _=>kR Gl oU (congrArg (fun z=>Value.slice b z c) ((a.de 14 r).len.symm.trans (a.de 5 r).len)) r ax (a.vw 1 5 r r) af) (sy 13 hs) (hO 15 (os r r (Nk a 1 5 aD 0 [T M.c,V M.g,Z Y M.a a0,Z a1 M.d a2] r r b8 oU r r r r r (show _=[T M.c,V M.g,Z Y M.a a0,Z a1 M.d a2] from r) (kC.inn ⟨Y,a0,a1,a2,r,a.dl 2 r,a.dl 3 r⟩) ag) ?_));rintro bj ⟨ai,a⟩;try dsimp only [List.set] at a
       have aj:h.a.a.b.length=au.length:=by rw [<-ag,wR]
       try dsimp only [Z] at a
       try rw [aj] at a
       try dsimp only [Z]
       try rw [aj]
       have hs:=a.ad [8] [9,10,11,19];exact ⟨sy 13 hs,hD (hJd _ _ ⟨A,B,C,D,E,F,ai,u,H,I,jA,a.ad [0,1,2,3,4,5,7,8] [5,6,7,8,18,19,4]⟩)⟩
      have hc:=(EJ fu) (a.pr [1,2,3,4,5,6] [0,7,8] [4,5,6,7,8,1,0] r) a.uo.size a.uo.size a.uo.size a.uo.size a.uo.size b7;refine oc r r (ec (vT func30) r) hc ?_;rintro _ bi ⟨Y,a0,a1,a2,A,B,u,C,D,H,E,F,I,rfl,hK⟩;replace a:=a.cn [1,2,3,4,5,6] [0,7,8] hK;have hs:=a.ad [8] [7,8,9,17];refine ⟨sy 13 hs,hO 5 (vg r r (l24 r (a.bk 0 r) r) (sy 13 hs) ?_)⟩;obtain ⟨bp,ba,bb⟩:=(a.de 3 rfl).get af;obtain ⟨aK,aL,aM,aN,rfl,aO,aP⟩:=kC.out bb;replace a:=a.ko (d:=.l aK aL av.a) aO;replace a:=a.ko (d:=.l aM aN av.d) aP;refine tP 14 r (fun _=>kR Gl oU r r ax (a.vw 1 5 r r) af) (sy 13 hs) (hO 15 (os r r (Nk a 1 5 aD 0 [T M.c,V M.g,Z Y M.a a0,Z a1 M.d a2] r r ba oU r r r r r (show _=[T M.c,V M.g,Z Y M.a a0,Z a1 M.d a2] from r) (kC.inn ⟨Y,a0,a1,a2,r,a.dl 2 r,a.dl 3 r⟩) ag) ?_));rintro bj ⟨ai,a⟩;try dsimp only [List.set] at a
      have aj:h.a.a.b.length=au.length:=by rw [<-ag,wR]
      try dsimp only [Z] at a
      try rw [aj] at a
      try dsimp only [Z]
      try rw [aj]
      have hs:=a.ad [8] [9,10,11,19];exact ⟨sy 13 hs,hD (hJd _ _ ⟨A,B,C,D,E,F,ai,u,H,I,jA,a.ad [0,1,2,3,4,5,7,8] [5,6,7,8,18,19,4]⟩)⟩
     clear a;rintro f w ⟨A,B,C,D,E,F,ai,u,H,I,hf,a⟩;obtain ⟨bT,rfl⟩:=nS hf;exact g (s (mi r) (s (mg r r) (s (xi r) (n (aW ay _ _ (FP _) ⟨wr (W+1),h.a.a.a,h.f,h.c,h.e,au,b,c,ai,h.a.c,A,B,u,h.a.b,C,D,H,h.b,E,F,I,jA,a.dp [6,0,1,2,3,4,5],j⟩)))))
    exact jM (bf aA) (uw (aw _ _ ⟨W,J,a9,a7,a8,K,b,c,a4,N,v,x,Q,L,p,t,a5,X,S,U,a6,jA,a,sm j⟩))
   rw [wZ az];exact kX r (kX r (kX r (kX r (kX r (s (lu r r) (n (jM r (uw (aw _ _ ⟨W,J,a9,a7,a8,K,b,c,a4,N,v,x,Q,L,p,t,a5,X,S,U,a6,jA,a,sm j⟩)))))))))
 clear a;rintro f w ⟨W,J,a9,a7,a8,K,b,c,a4,N,v,x,Q,L,p,t,a5,X,S,U,a6,hf,a,bc⟩;obtain ⟨bT,rfl⟩:=nS hf;subst bc;replace hM:=gi hM;replace hM:=EU (nC (nC hM));refine q (q (g (s (mp r) (s (xn r) (s (BL r) (s (Gy r (a.bk 0 r) r) (s (rQ r r) (n ?_))))))));obtain ⟨aQ,hM⟩|⟨aQ,hM⟩:=iv hM
 ·refine jQ (bt aQ) (q (rz a [0] [] [] (by kernel_rfl) ?_));replace a:=a.drew;have hs:=a.ad [0] [];refine pF 0 r abk hs (pF 1 r (mp r) hs (pF 2 r (xn r) hs (pF 3 r (Yu r) hs (uF 4 r (fun hS=>l3 r (hS.bk 0 r) r) hs (pF 5 r (mp r) hs (pF 6 r (xn r) hs (pF 7 r (BL r) hs (uF 8 r (fun hS=>Gy r (hS.bk 0 r) r) hs (hO 9 (os r r (mQ a 6 [sn,sn,sn,sn] r zR r r) fun bH a=>?_))))))))));have hs:=a.ad [0] [];refine ⟨sF hs,pF 10 r (xi r) hs (pF 11 r (xi r) hs (hD (lG ?_)))⟩;replace a:=a.ko (d:=.l none 0 ME) pW;replace a:=a.ko (d:=.l none 0 GK) pW;replace a:=a.ko (d:=.l none 0 ([]:List (List Gv))) pW;replace a:=a.ko (d:=.l none 0 ([]:List Gi)) pW;obtain rfl:=sm hM;exact BS r (uS r Kt r zR r (a.bk 6 r)) (mI r) (mI r) (nH (nH ⟨none,0,none,0,none,0,none,0,r,a.ad [] [3,2,1,0]⟩))
 refine jM (bf aQ) (wk (q (g (s (mp r) (s (xn r) (s (uD r) (s (kZ [Z m J o,Z b K c,Z v N x,Z p L t] Kt zR r (a.bk 0 r)) (kV (mQ a 6 [Z m J o,Z b K c,Z v N x,Z p L t] r zR r r) fun bI a=>s (xi r) (s (xi r) (n (lG ?_)))))))))));replace a:=a.fz 1 1 r r;replace a:=a.arr [1,2,0,3,4,5,6] r;try dsimp only [pick,nth,ca,na] at a
 replace a:=a.ahf 2 r;try dsimp only [List.eraseIdx] at a
 replace a:=a.fz 1 3 r r;obtain rfl:=sm hM;exact BS r (uS r Kt r zR r (a.bk 2 r)) (mI r) (mI r) (nH (nH ⟨m,o,b,c,v,x,p,t,r,a.ad [] [3,2,1,0]⟩))
end
noncomputable section
def Sk (m:(List Int)->Option BA):Prop:=∀ {c f d a b e},Pre c f [] [.l a b d]->m d=some e-> Calls prog 20 #[Z a d b] c (rV fun v w=>v=T e/\Bx c w f (mD []) [] [])
def CR (fu:Nat)(c:(List Int)):Option BA:=(xM fu c).bind fun a=>(Bz fu a).bind fun b=>some b
theorem QJ (fu:Nat):Sk (CR fu):=by intro u A o b c v k d;unfold CR at d;have a:=k.bx;clear k;generalize w:mD _=G at a ⊢;refine cf func20 r (q (g (s (pz r) (n (q (g (s (vR r) ?_)))))));obtain ⟨l,p,d⟩:=bs d;refine sc (ec (vT func34) r) (KV fu (a.pr [] [] [0] r) p) ?_;rintro _ x ⟨e,f,h,i,rfl,j⟩;replace a:=a.cn [] [] j;obtain ⟨m,t,d⟩:=bs d;refine sc (ec (vT func33) r) (Pn fu (a.pr [] [] [0,1] r) t) ?_;rintro _ z ⟨rfl,j⟩;replace a:=a.cn [] [] j;refine s (pz r) (n (lG ?_));obtain rfl:=sm d;exact jK r (mI r) ⟨r,a.dp []⟩
def MH (m:(List Int)->Option (jW × Bool)):Prop:=∀ {p x t a b R},Pre p x [] [.l a b t]->m t=some R-> Calls prog 9 #[Z a t b] p (rV fun v w=>jB R fun o u=>∃ (c:OA)(d:Nat)(e:OA)(f:Nat)(h:OA)(i:Nat)(j:OA)(k:Nat),v=.tuple #[.agg #[Z c o.a.a d,Z e o.a.b f,Z h o.c i,Z j o.b k],.bool u]/\Bx p w x (mD []) [] [.l c d o.a.a,.l e f o.a.b,.l h i o.c,.l j k o.b])
def xG (fu:Nat)(j:(List Int)):Option (jW × Bool):=(BK fu j).bind fun c=>(CR fu c).bind fun d=>(yx fu d).bind fun k=>jB k fun e k=>jB k fun i f=>if f≠0 then some ((⟨(⟨([]:List Gr),([]:List Gn)⟩:jV),([]:List (List Gv)),([]:List Gi)⟩:jW),false) else (qj fu e).bind fun k=>jB k fun a k=>jB k fun h b=>some (a,decide (b=0))
theorem LG (fu:Nat):MH (xG fu):=by
 intro w0 ae N x z R I v;unfold xG at v;have b:=I.bx;clear I;generalize hG:mD _=G at b ⊢;refine cf func9 r (q (g (qZ b (jN zR) fun w1 b1 b=>s (lM r) (n (q (g (s (vR r) ?_)))))));obtain ⟨J,Q,v⟩:=bs v;refine sc (ec (vT func21) r) (O9 fu (b.pr [] [0] [0] r) Q) ?_;rintro _ w2 ⟨B,C,rfl,A⟩;replace b:=b.cn [] [0] A;obtain ⟨K,S,v⟩:=bs v;refine sc (ec (vT func20) r) (QJ fu (b.pr [] [0] [0] r) S) ?_;rintro _ w3 ⟨rfl,A⟩;replace b:=b.cn [] [0] A;obtain ⟨w,L,M,U,v⟩:=vO v;refine sc (ec (vT func14) r) (Iy fu (b.pr [] [0] [] r) U) ?_;rintro _ w4 ⟨o,p,t,u,rfl,A⟩;replace b:=b.cn [] [0] A;refine s wY (s (kL r r) (s (kL r r) (s (kL r r) (qZ b (jN vN) fun w5 b5 b=>kV (mQ b 0 [Z o w.a p,Z t w.b u] r vN r r) fun w6 b=>s (xi r) (s (xi r) (n (q (q (g (s (mi r) (s (rQ r r) (n ?_))))))))))));obtain ⟨D,v⟩|⟨D,v⟩:=iv v
 ·refine jQ (bt D) (q (g (s abk (kV (mQ b 1 [sn,sn,sn,sn] r zR r r) fun w8 b=>s (lM r) (n (lG ?_))))));replace b:=b.ko (d:=.l none 0 ME) pW;replace b:=b.ko (d:=.l none 0 GK) pW;replace b:=b.ko (d:=.l none 0 ([]:List (List Gv))) pW;replace b:=b.ko (d:=.l none 0 ([]:List Gi)) pW;obtain rfl:=sm v;exact Dp r (uS r Kt r zR r (b.bk 1 r)) (mI r) (nH ⟨none,0,none,0,none,0,none,0,r,b.ad [] [3,2,1,0]⟩)
 refine jM (bf D) (wk (q (g (s (kZ [Z o w.a p,Z t w.b u] E5 vN r (b.bk 0 r)) ?_))));obtain ⟨a,E,F,H,v⟩:=vO v;refine sc (ec (vT func15) r) (Ii fu (b.pr [] [0,1] [0,1] r) H) ?_;rintro _ X ⟨c,e,f,h,i,j,k,m,rfl,A⟩;replace b:=b.cn [] [0,1] A;refine s wY (s (kL r r) (s (kL r r) (s (kL r r) (qZ b (jN zR) fun Y a0 b=>kV (mQ b 0 [Z c a.a.a e,Z f a.a.b h,Z i a.c j,Z k a.b m] r zR r r) fun a1 b=>s (xi r) (s (xi r) (n (q (g (s (kZ [Z c a.a.a e,Z f a.a.b h,Z i a.c j,Z k a.b m] Kt zR r (b.bk 0 r)) (s (mi r) (s (kI r r) (kV (mQ b 2 [Z c a.a.a e,Z f a.a.b h,Z i a.c j,Z k a.b m] r zR r r) fun a2 b=>s (lM r) (n (lG ?_))))))))))))));obtain rfl:=sm v;exact Dp r (uS r Kt r zR r (b.bk 2 r)) (mI r) (nH ⟨c,e,f,h,i,j,k,m,r,b.ad [] [0,1,2,3]⟩)
def ND (m:BA->Option jW):Prop:=∀ {k p o}{j:jW},Pre k p [] []->m o=some j-> Calls prog 22 #[T o] k (rV fun v w=>∃ (a:OA)(b:Nat)(c:OA)(d:Nat)(e:OA)(f:Nat)(h:OA)(i:Nat),v=.agg #[Z a j.a.a b,Z c j.a.b d,Z e j.c f,Z h j.b i]/\Bx k w p (mD []) [] [.l a b j.a.a,.l c d j.a.b,.l e f j.c,.l h i j.b])
def EI (fu:Nat)(h:BA):Option jW:=(yx fu h).bind fun i=>jB i fun a i=>jB i fun c d=>(qj fu a).bind fun i=>jB i fun b i=>jB i fun e f=>some b
theorem Ni (fu:Nat):ND (EI fu):=by intro H Y C I w u;unfold EI at u;have k:=w.bx;clear w;generalize J:mD _=G at k ⊢;refine cf func22 r (q (g (qZ k (jN zR) fun K L k=>n (q (g (s (nW r) ?_))))));obtain ⟨t,x,z,D,u⟩:=vO u;refine sc (ec (vT func14) r) (Iy fu (k.pr [] [0] [] r) D) ?_;rintro _ M ⟨l,m,o,p,rfl,v⟩;replace k:=k.cn [] [0] v;refine s wY (s (kL r r) (s (kL r r) (s (kL r r) (qZ k (jN vN) fun N Q k=>kV (mQ k 0 [Z l t.a m,Z o t.b p] r vN r r) fun R k=>s (xi r) (s (xi r) (n (q (g (s (kZ [Z l t.a m,Z o t.b p] E5 vN r (k.bk 0 r)) ?_)))))))));obtain ⟨a,A,B,F,u⟩:=vO u;refine sc (ec (vT func15) r) (Ii fu (k.pr [] [0,1] [0,1] r) F) ?_;rintro _ S ⟨b,c,d,e,f,h,i,j,rfl,v⟩;replace k:=k.cn [] [0,1] v;refine s wY (s (kL r r) (s (kL r r) (s (kL r r) (qZ k (jN zR) fun U W k=>kV (mQ k 0 [Z b a.a.a c,Z d a.a.b e,Z f a.c h,Z i a.b j] r zR r r) fun X k=>s (xi r) (s (xi r) (n (q (g (s (kZ [Z b a.a.a c,Z d a.a.b e,Z f a.c h,Z i a.b j] Kt zR r (k.bk 0 r)) (kV (mQ k 2 [Z b a.a.a c,Z d a.a.b e,Z f a.c h,Z i a.b j] r zR r r) fun w8 k=>n (lG ?_)))))))))));obtain rfl:=sm u;exact jK r (uS r Kt r zR r (k.bk 2 r)) ⟨b,c,d,e,f,h,i,j,r,k.ad [] [0,1,2,3]⟩
end
end Go.Proofs.YtdkneekpdecjbaaGreat
namespace Go.Fw
open Go.RowKit
section
variable {w0 w w':World}{Z Z' G:Nat->Prop}{L:List It}{D:List Da}
theorem Bx.wid (h:Bx w0 w Z G L D)(hz:∀ b,Z b->Z' b):Bx w0 w Z' G L D:=
 ⟨h.uo,h.it,h.pw,fun d hd=>d.mv (h.da d hd) (.same fun b hf _=>⟨fun h0=>hz b (hf.1 h0),hf.2⟩)⟩
theorem Bx.Oy {Lc Lr L1:List It}{D1:List Da}(h:Bx w0 w Z G (Lc ++ Lr) D)(hZ:∀ b,G b->Z b)(k:Bx w w' (fun b=>IU w0 Z (Lc ++ Lr) b\/mD Lc b) (mD Lc) L1 D1):Bx w0 w' Z G (L1 ++ Lr) (D1 ++ D):=by
 have hpw:=List.pairwise_append.1 h.pw;have hb:Bx w0 w' Z G (L1 ++ Lr) ([] ++ D):=h.call ⟨k.uo,k.it,k.pw,Js⟩;refine ⟨hb.uo,hb.it,hb.pw,fun d hd=>?_⟩;obtain hd | hd:=qg.1 hd
 · refine d.mv (k.da d hd) (.same fun b hf hl=>⟨fun h0=>?_,fun it hi hb'=>?_⟩)
   · obtain h1 | ⟨x,hx,hxb⟩:=hf.1 (Nat.lt_of_lt_of_le h0 h.uo.size)
     · exact h1.1 h0
     · exact hZ b ((h.it x (List.mem_append_left _ hx)).2 b hxb h0)
   · obtain hi | hi:=qg.1 hi
     · exact hf.2 it hi hb'
     · have h1:=it.bd w (h.it it (List.mem_append_right _ hi)).1 b hb';obtain h2 | ⟨x,hx,hxb⟩:=hf.1 h1
       · exact h2.2 it (List.mem_append_right _ hi) hb'
       · exact hpw.2.2 x hx it hi b hxb hb'
 · exact hb.da d (List.mem_append_right _ hd)
theorem Bx.KS (h:Bx w0 w Z G L D)(hZ:∀ b,G b->Z b)(i j:Nat){α:Type}[Rp α]{base:Nat}{e:TypeId}{A:Option Addr}{c:Nat}{cs:List (List Value)}{l:List α}(hi:L[i]?=some (.own base A c e (Rp.sz α) cs))(hj:D[j]?=some (.els cs l)) :Bx w0 w Z G (L.eraseIdx i) (.l A c l :: D.eraseIdx j):=by
 have h1:Bx w0 w Z G (L.eraseIdx i) (D.eraseIdx j):=(h.er i).Bl fun d hd=>(List.eraseIdx_sublist D j).subset hd;have h2:=(h.er i).de j hj;refine h1.ko (d:=.l A c l) ((h.bo i hi).WO h2 fun b hb=>⟨fun hl=>?_,fun it hit hb'=>?_⟩)
 · exact hZ b ((h.it _ (vS hi)).2 b hb hl)
 · have hp:=(Es hi).pairwise_iff (R:=Ap) (fun {a c} r b hb hc=>r b hc hb);exact (Cr.1 (hp.1 h.pw)).1 it hit b hb hb'
end
def Da.wp (d:Da)(p:Prop):Da:=⟨fun F w=>d.ok F w/\p,fun h k=>⟨d.mv h.1 k,h.2⟩⟩
def KQ (w:World)(t:TypeId):List Nat→List (List Value)→Prop
 | b :: B,c :: C=>yA w b t c.toArray/\KQ w t B C
 | [],[]=>True
 | _,_=>False
section
variable {w w':World}{t:TypeId}
theorem KQ.len:∀ {B:List Nat}{C:List (List Value)},KQ w t B C→B.length=C.length
 | [],[],_=>rfl
 | _ :: _,_ :: _,h=>congrArg (·+1) (KQ.len h.2)
 | [],_ :: _,h=>h.elim
 | _ :: _,[],h=>h.elim
theorem KQ.get:∀ {B:List Nat}{C:List (List Value)}{k:Nat}{c:List Value},KQ w t B C→C[k]?=some c→∃ b,B[k]?=some b∧yA w b t c.toArray
 | b :: _,_ :: _,0,c,h,hx=>by simp only [EC,Dk] at hx;subst hx;exact ⟨b,rfl,h.1⟩
 | _ :: _,_ :: _,k+1,c,h,hx=>KQ.get (k:=k) h.2 (by simpa using hx)
 | [],[],_,_,_,hx=>by simp at hx
 | [],_ :: _,_,_,h,_=>h.elim
 | _ :: _,[],_,_,h,_=>h.elim
theorem KQ.mem:∀ {B:List Nat}{C:List (List Value)}{b:Nat},KQ w t B C→b ∈ B→b < w.heap.size
 | _ :: _,_ :: _,b,h,hb=>by
  obtain rfl | hb:=nM.1 hb
  · exact h.1.lt
  · exact KQ.mem h.2 hb
 | [],[],_,_,hb=>by cases hb
 | [],_ :: _,_,h,_=>h.elim
 | _ :: _,[],_,h,_=>h.elim
theorem KQ.st:∀ {B:List Nat}{C:List (List Value)},KQ w t B C→(∀ b ∈ B,w'.heap[b]?=w.heap[b]?)→KQ w' t B C
 | _ :: _,_ :: _,h,k=>⟨by have:=h.1;unfold yA at this ⊢;rw [k _ (Ca ..)];exact this,KQ.st h.2 fun b hb=>k b (yO _ hb)⟩
 | [],[],_,_=>trivial
 | [],_ :: _,h,_=>h.elim
 | _ :: _,[],h,_=>h.elim
theorem KQ.app:∀ {B:List Nat}{C:List (List Value)}{b:Nat}{c:List Value},KQ w t B C→yA w b t c.toArray→KQ w t (B ++ [b]) (C ++ [c])
 | _ :: _,_ :: _,_,_,h,k=>⟨h.1,KQ.app h.2 k⟩
 | [],[],_,_,_,k=>⟨k,trivial⟩
 | [],_ :: _,_,_,h,_=>h.elim
 | _ :: _,[],_,_,h,_=>h.elim
theorem KQ.set:∀ {B:List Nat}{C:List (List Value)}{k b:Nat}{c:List Value},KQ w t B C→B.Nodup→B[k]?=some b→yA w' b t c.toArray→(∀ x ∈ B,x≠b→w'.heap[x]?=w.heap[x]?)→KQ w' t B (C.set k c)
 | x :: B,y :: C,0,b,c,h,hn,hb,hc,hs=>by simp only [EC,Dk] at hb;subst hb;exact ⟨hc,h.2.st fun z hz=>hs z (yO _ hz) (fun e=>(List.nodup_cons.1 hn).1 (by rw [<-e];exact hz))⟩
 | x :: B,y :: C,k+1,b,c,h,hn,hb,hc,hs=>by
  have hb':B[k]?=some b:=by simpa using hb
  refine ⟨?_,KQ.set h.2 (List.nodup_cons.1 hn).2 hb' hc fun z hz=>hs z (yO _ hz)⟩;have:=h.1;unfold yA at this ⊢;rw [hs x (Ca ..) (fun e=>(List.nodup_cons.1 hn).1 (by rw [e];exact vS hb'))];exact this
 | [],[],_,_,_,_,_,hb,_,_=>by simp at hb
 | [],_ :: _,_,_,_,h,_,_,_,_=>h.elim
 | _ :: _,[],_,_,_,h,_,_,_,_=>h.elim
end
def It.Qr (t:TypeId)(B:List Nat)(C:List (List Value)):It where
 F k:=k ∈ B
 p w:=KQ w t B C/\B.Nodup
 bd w h k hk:=h.1.mem hk
 st w w' h k _:=⟨h.1.st k,h.2⟩
def It.PX {κ ν:Type}(ek:κ->Value)(ev:ν->Value)(b:Option Nat)(l:Option (List (κ × ν))):It where
 F k:=b=some k
 p w:=match b,l with
  | some b,some l=>Mp ek ev w b l
  | none,none=>True
  | _,_=>False
 bd w h k hk:=by subst hk;cases l with
  | none=>exact h.elim
  | some l=>exact Mp.lt h
 st w w' h k _:=by
  cases b with
  | none=>cases l with
   | none=>trivial
   | some l=>exact h.elim
  | some b=>cases l with
   | none=>exact h.elim
   | some l=>exact Mp.same h (k b rfl)
section
variable {P:Program}{w0 w w':World}{Z G:Nat->Prop}{L:List It}{D:List Da}
theorem Bx.ZL (h:Bx w0 w Z G L D)(i j:Nat){t:TypeId}{B:List Nat}{C:List (List Value)}{b:Nat}{c:List Value}(hij:i≠j)(hi:L[i]?=some (.Qr t B C))(hj:L[j]?=some (.box b t c.toArray)) :Bx w0 w Z G ((L.set i (.Qr t (B ++ [b]) (C ++ [c]))).eraseIdx j) D:=by
 have h1:=h.at i hi;have h2:=h.bk j hj;have hnb:b ∉ B:=fun hb=>h.apart hij hi hj b hb rfl;have hp:(It.Qr t (B ++ [b]) (C ++ [c])).p w:=⟨h1.1.app h2,by
   rw [List.nodup_append];exact ⟨h1.2,by simp,fun a ha x hx e=>by rw [List.mem_singleton] at hx;subst hx;exact hnb (e ▸ ha)⟩⟩
 have hcase:∀ x ∈ (L.set i (.Qr t (B ++ [b]) (C ++ [c]))).eraseIdx j,x=.Qr t (B ++ [b]) (C ++ [c])\/∃ q,q≠i/\q≠j/\L[q]?=some x:=fun x hx=>by
   obtain ⟨q,hq⟩:=QK hx;rw [List.getElem?_eraseIdx] at hq;have key:∀ q:Nat,q≠j->(L.set i (.Qr t (B ++ [b]) (C ++ [c])))[q]?=some x->x=.Qr t (B ++ [b]) (C ++ [c])\/∃ q,q≠i/\q≠j/\L[q]?=some x:=fun q hqj hq=>by
     by_cases hqi:q=i
     · subst hqi;rw [DJ (List.getElem?_eq_some_iff.1 hi).1] at hq;cases hq;exact .inl rfl
     · rw [zV (Ne.symm hqi)] at hq;exact .inr ⟨q,hqi,hqj,hq⟩
   split at hq
   · exact key q (by omega) hq
   · exact key (q+1) (by omega) hq
 refine h.step (X:=fun _=>False) ((Ext.refl w).Hf _) (fun _ hx=>hx.elim) (fun x hx=>?_) (fun x hx k hk hl=>?_) ?_
 · obtain rfl | ⟨q,_,_,hq⟩:=hcase x hx
   · exact hp
   · exact h.at q hq
 · obtain rfl | ⟨q,_,_,hq⟩:=hcase x hx
   · obtain hk | hk:=qg.1 (show k ∈ B ++ [b] from hk)
     · exact ⟨_,vS hi,hk⟩
     · exact ⟨_,vS hj,List.mem_singleton.1 hk⟩
   · exact ⟨x,vS hq,hk⟩
 · -- apart
   have hs:((L.set i (.Qr t (B ++ [b]) (C ++ [c]))).eraseIdx j).Pairwise Ap:=by
     have e1:(L.set i (.Qr t (B ++ [b]) (C ++ [c]))).eraseIdx j=(L.eraseIdx j).set (if i < j then i else i - 1) (.Qr t (B ++ [b]) (C ++ [c])):=by apply List.ext_getElem?;intro n;simp only [List.getElem?_eraseIdx,List.getElem?_set,List.length_eraseIdx];have hl1:=(List.getElem?_eq_some_iff.1 hi).1;have hl2:=(List.getElem?_eq_some_iff.1 hj).1;split <;> split <;> split <;> simp_all <;> omega
     rw [e1];refine TM (h.pw.sublist (List.eraseIdx_sublist L j)) fun q x hq hx=>?_;obtain ⟨q',hq',hqj,hx'⟩:∃ q',q'≠i/\q'≠j/\L[q']?=some x:=by
       rw [List.getElem?_eraseIdx] at hx;split at hx
       · rename_i hlt;exact ⟨q,by split at hq <;> omega,by omega,hx⟩
       · rename_i hlt;exact ⟨q+1,by split at hq <;> omega,by omega,hx⟩
     have key:∀ k,x.F k->¬ (It.Qr t (B ++ [b]) (C ++ [c])).F k:=fun k hk hk2=>by
       obtain h3 | h3:=qg.1 (show k ∈ B ++ [b] from hk2)
       · exact h.apart hq' hx' hi k hk h3
       · exact h.apart hqj hx' hj k hk (List.mem_singleton.1 h3)
     exact ⟨key,fun k h1 h2=>key k h2 h1⟩
   exact hs
end
end Go.Fw
