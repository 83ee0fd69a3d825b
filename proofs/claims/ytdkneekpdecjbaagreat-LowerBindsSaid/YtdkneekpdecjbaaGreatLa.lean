/- Contracts, printed by gen3.py. -/
import Derived.Test.YtdkneekpdecjbaaGreatZ5
import Derived.Test.YtdkneekpdecjbaaGreatZ4
set_option linter.unusedVariables false
set_option maxHeartbeats 12800000
set_option linter.unusedSimpArgs false
set_option maxRecDepth 4000
namespace Go.Proofs.YtdkneekpdecjbaaGreat
open Go.RowKit Go.Fw Go.Proofs.Tryz
noncomputable section
def Sj (m:Int->Int->Option Int):Prop:=∀ {a e b c d},Pre a e [] []->m b c=some d-> Calls prog 93 #[V b,V c] a (tV fun v w=>v=V d/\Bx a w e (mW []) [] [])
def DC (fu:Nat)(b a:Int):Option Int:=if a=0 then none else if (b.tmod a) < 0 then some (wr ((b.tmod a)+a)) else some (b.tmod a)
theorem RG (fu:Nat):Sj (DC fu):=by
 intro i l e f j d a;unfold DC at a;have b:=d.bx;clear d;generalize k:mW _=G at b ⊢;refine cf func93 r (lK [(0,V e),(1,V f)] ⟨r,r,y⟩ fun m=>q (g (s (xi r) (n (q (g (s (mi r) (s (mi r) ?_))))))));rcases iv a with ⟨_,a⟩|⟨h,a⟩
 · exact nn a
 refine s (Z7 r r h) (s (xi r) (n (q (q (g (s (mi r) (s (qV r r) (n ?_))))))));rcases iv a with ⟨c,a⟩|⟨c,a⟩
 ·refine jM (bt c) (g (s (mi r) (s (mi r) (s (kP r r) (s (xi r) (n (q (g (s (mi r) (s (xi r) (n (lX ?_))))))))))));obtain rfl:=sm a;exact jN r (nH r) ⟨r,b⟩
 refine jD (bf c) (wk (q (g (s (mi r) (s (xi r) (n (lX ?_)))))));obtain rfl:=sm a;exact jN r (nH r) ⟨r,b⟩
def Qo (m:jP->Int->Option (Int × jP)):Prop:=∀ {f j}{e:jP}{h c a b R},(fun L=>Pre f j L [.l a b e.l]->m e h=some R-> Calls prog 65 #[Pt c,V h] f (tV fun v w=>jy R fun i d=>v=V i/\Bx f w j (mW L) [.box c 159 #[Z a d.l b,V d.a]] [.l a b d.l])) [.box c 159 #[Z a e.l b,V e.a]]
def kF (fu:Nat)(a:jP)(c:Int):Option (Int × jP):=if (a.l.length:Int)<=a.a then some (0,a) else (ix a.l (wr ((wr (a.a+1)) - 1))).bind fun d=>(DC fu d c).bind fun b=>some (b,(⟨a.l,wr (a.a+1)⟩:jP))
theorem jW (fu:Nat):Qo (kF fu):=by
 intro A F j v m c d R t e;unfold kF at e;have b:=t.bx;clear t;generalize B:mW _=G at b ⊢;refine cf func65 r (lK [(0,Pt m),(1,V v)] ⟨r,r,y⟩ fun H=>q (g (s (xi r) (n (q (q (qJ b [0] [] [] (by kernel_rfl) ?_)))))));replace b:=b.drew;have a:=b.dp [];refine pF 0 r (mp r) a (pF 1 r (xn r) a (pF 2 r (Le r) a (uF 3 r (fun hS=>l3 r (hS.bk 0 r) r) a (pF 4 r (mp r) a (pF 5 r (xn r) a (pF 6 r (Sw r) a (uF 7 r (fun hS=>Yf r (hS.bk 0 r) r) a (pF 8 r (mV BJ r) a (pF 9 r (GI r r) a (hD ?_))))))))));rcases iv e with ⟨o,e⟩|⟨o,e⟩
 ·refine jM (bt o) (q (g (s (xi r) (n (lX ?_)))));obtain rfl:=sm e;exact jN r (nH r) (nD ⟨r,b⟩)
 refine jD (bf o) (wk (q (g (s (mp r) (s (xn r) (s (Le r) (s (l3 r (b.bk 0 r) r) (s (kP r r) (s (xn r) (s (Le r) (lg (t_n b 0 [V (wr (j.a+1))] r oW r r) fun C b=>n (q (qJ b [0] [0] [] (by kernel_rfl) ?_)))))))))))));replace b:=b.drew;have a:=b;refine pF 0 r (mp r) a (pF 1 r (xn r) a (pF 2 r (Sw r) a (uF 3 r (fun hS=>Yf r (hS.bk 0 r) r) a (pF 4 r (mp r) a (pF 5 r (xn r) a (pF 6 r (Le r) a (uF 7 r (fun hS=>l3 r (hS.bk 0 r) r) a (pF 8 r (zy r r) a ?_))))))));obtain ⟨w,f,e⟩:=bs e;obtain ⟨D,p,f⟩:=kW f;refine pF 9 r (kZ BJ oW r r p (b.dl 0 r) f) a (tU 10 r (fun _ hS=>kC M7 r r ((vD (ds:=[V w]) (hS.dl 0 r) f (fun _ h=>h)) 0 _ r)) (sF a) (pF 11 r (mi r) a ?_));obtain ⟨u,x,e⟩:=bs e;refine hO 12 (oc r r (ec adt r) (RG fu (b.pr [] [0] [] r) x) ?_);rintro _ E ⟨rfl,z⟩;replace b:=b.cn [] [0] z;have a:=b;refine ⟨sF a,pF 13 r (xi r) a (hD (lX ?_))⟩;obtain rfl:=sm e;exact jN r (nH r) (nD ⟨r,b⟩)
def Qp (m:jP->Option Bool):Prop:=∀ {e h}{c:jP}{d a b f},(fun L=>Pre e h L [.l a b c.l]->m c=some f-> Calls prog 94 #[Pt d] e (tV fun v w=>v=.bool f/\Bx e w h (mW L) L [.l a b c.l])) [.box d 159 #[Z a c.l b,V c.a]]
def D8 (fu:Nat)(a:jP):Option Bool:=some (decide (a.a < (a.l.length:Int)))
theorem Qq (fu:Nat):Qp (D8 fu):=by intro m t f e b c o h j;unfold D8 at j;have d:=h.bx;clear h;generalize p:mW _=G at d ⊢;refine cf func94 r (lK [(0,Pt e)] ⟨r,y⟩ fun u=>q (g (s (kH r) (n (q (qJ d [0] [] [] (by kernel_rfl) ?_))))));replace d:=d.drew;have a:=d.dp [];refine pF 0 r (mp r) a (pF 1 r (xn r) a (pF 2 r (Le r) a (uF 3 r (fun hS=>l3 r (hS.bk 0 r) r) a (pF 4 r (mp r) a (pF 5 r (xn r) a (pF 6 r (Sw r) a (uF 7 r (fun hS=>Yf r (hS.bk 0 r) r) a (pF 8 r (mV BJ r) a (pF 9 r (qV r r) a (pF 10 r (kH r) a (hD (lX ?_))))))))))));obtain rfl:=sm j;exact jN r (nH r) ⟨r,d⟩
def MB (m:jP->Option (Int × jP)):Prop:=∀ {f i}{e:jP}{c a b R},(fun L=>Pre f i L [.l a b e.l]->m e=some R-> Calls prog 139 #[Pt c] f (tV fun v w=>jy R fun h d=>v=V h/\Bx f w i (mW L) [.box c 159 #[Z a d.l b,V d.a]] [.l a b d.l])) [.box c 159 #[Z a e.l b,V e.a]]
def y9 (fu:Nat)(c:jP):Option (Int × jP):=(kF fu c ((([0,1,2,3,5,7,4,10,100,1048576,2147483648,1099511627776,999999999999999999,6,8,9]:List Int).length:Nat):Int)).bind fun e=>jy e fun a b=>(ix ([0,1,2,3,5,7,4,10,100,1048576,2147483648,1099511627776,999999999999999999,6,8,9]:List Int) a).bind fun d=>some (d,b)
theorem Me (fu:Nat):MB (y9 fu):=by intro v C j f d e R k c;unfold y9 at c;have a:=k.bx;clear k;generalize w:mW _=G at a ⊢;refine cf func139 r (lK [(0,Pt f)] ⟨r,y⟩ fun D=>q (g (s (xi r) (n (q (g (qd (jL a [[V 0],[V 1],[V 2],[V 3],[V 5],[V 7],[V 4],[V 10],[V 100],[V 1048576],[V 2147483648],[V 1099511627776],[V 999999999999999999],[V 6],[V 8],[V 9]] ([0,1,2,3,5,7,4,10,100,1048576,2147483648,1099511627776,999999999999999999,6,8,9]:List Int) (Va r r r r r r r r r r r r r r r r) r r (by decide) ⟨r,⟨r,⟨r,⟨r,⟨r,⟨r,⟨r,⟨r,⟨r,⟨r,⟨r,⟨r,⟨r,⟨r,⟨r,⟨r,y⟩⟩⟩⟩⟩⟩⟩⟩⟩⟩⟩⟩⟩⟩⟩⟩) ?_)))))));rintro _ x ⟨z,rfl,a⟩;refine s (nA r) (n (q (g (s (oF r) (s (mp r) (s (oF r) (s (mV BJ r) ?_)))))));obtain ⟨m,o,p,c⟩:=mq c;refine sc (ec oU r) (jW fu (a.pr [1] [0] [1] r) p) ?_;rintro _ A ⟨rfl,t⟩;replace a:=a.cn [1] [0] t;obtain ⟨u,b,c⟩:=bs c;obtain ⟨B,i,b⟩:=kW b;refine s (kZ BJ oW r r i (a.vw 1 1 r r) b) (s (kC M7 r r ((vD (ds:=[V u]) (a.vw 1 1 r r) b (fun _ h=>h)) 0 _ r)) (s (xi r) (n (lX ?_))));obtain rfl:=sm c;exact jN r (nH r) (nD ⟨r,a.ad [0] [0]⟩)
def Mw (m:Int->Option Bool):Prop:=∀ {a d b c},Pre a d [] []->m b=some c-> Calls prog 73 #[.int .u8 b] a (tV fun v w=>v=.bool c/\Bx a w d (mW []) [] [])
def sS (fu:Nat)(a:Int):Option Bool:=if 97<=a then if a<=122 then some true else if 65<=a then if a<=90 then some true else some (decide (a=95)) else some (decide (a=95)) else if 65<=a then if a<=90 then some true else some (decide (a=95)) else some (decide (a=95))
theorem CZ (fu:Nat):Mw (sS fu):=by
 intro l p k m j a;unfold sS at a;have b:=j.bx;clear j;generalize o:mW _=G at b ⊢;refine cf func73 r (lK [(0,.int .u8 k)] ⟨r,y⟩ fun t=>q (g (s (kH r) (n (q (g (s (mi r) (s (GI r r) (s (lJ r) ?_)))))))));rcases iv a with ⟨c,a⟩|⟨c,a⟩
 ·rw [vF c];refine kI r (s (mi r) (kI r (s (O7 r r) (s (kT r r) (s (lJ r) ?_)))));rcases iv a with ⟨d,a⟩|⟨d,a⟩
  ·rw [vF d];refine jZ r (jZ r (jZ r (jZ r (jZ r (jZ r (s (kT r r) (s (lJ r) (jZ r (jZ r (s (kT r r) (s (kH r) (n (lX ?_)))))))))))));obtain rfl:=sm a;exact jN r (nH r) ⟨r,b⟩
  rw [wm d];refine kI r (s (mi r) (kI r (s (GI r r) (kI r (s (lJ r) ?_)))));rcases iv a with ⟨e,a⟩|⟨e,a⟩
  ·rw [vF e];refine kI r (s (mi r) (kI r (s (O7 r r) (kI r (s (kT r r) (s (kK r r) (s (lJ r) ?_)))))));rcases iv a with ⟨f,a⟩|⟨f,a⟩
   ·rw [vF f];refine jZ r (jZ r (s (kT r r) (s (kH r) (n (lX ?_)))));obtain rfl:=sm a;exact jN r (nH r) ⟨r,b⟩
   rw [wm f];refine kI r (s (mi r) (kI r (s (kM r r) (s (kK r r) (s (kH r) (n (lX ?_)))))));obtain rfl:=sm a;exact jN r (nH r) ⟨r,b⟩
  rw [wm e];refine jZ r (jZ r (kI r (s (kK r r) (s (kK r r) (s (lJ r) (kI r (s (mi r) (kI r (s (kM r r) (s (kK r r) (s (kH r) (n (lX ?_)))))))))))));obtain rfl:=sm a;exact jN r (nH r) ⟨r,b⟩
 rw [wm c];refine jZ r (jZ r (s (kK r r) (s (lJ r) (kI r (s (mi r) (kI r (s (GI r r) (kI r (s (lJ r) ?_)))))))));rcases iv a with ⟨h,a⟩|⟨h,a⟩
 ·rw [vF h];refine kI r (s (mi r) (kI r (s (O7 r r) (kI r (s (kT r r) (s (kK r r) (s (lJ r) ?_)))))));rcases iv a with ⟨i,a⟩|⟨i,a⟩
  ·rw [vF i];refine jZ r (jZ r (s (kT r r) (s (kH r) (n (lX ?_)))));obtain rfl:=sm a;exact jN r (nH r) ⟨r,b⟩
  rw [wm i];refine kI r (s (mi r) (kI r (s (kM r r) (s (kK r r) (s (kH r) (n (lX ?_)))))));obtain rfl:=sm a;exact jN r (nH r) ⟨r,b⟩
 rw [wm h];refine jZ r (jZ r (kI r (s (kK r r) (s (kK r r) (s (lJ r) (kI r (s (mi r) (kI r (s (kM r r) (s (kK r r) (s (kH r) (n (lX ?_)))))))))))));obtain rfl:=sm a;exact jN r (nH r) ⟨r,b⟩
def Om (m:Int->Option Bool):Prop:=∀ {a d b c},Pre a d [] []->m b=some c-> Calls prog 74 #[.int .u8 b] a (tV fun v w=>v=.bool c/\Bx a w d (mW []) [] [])
def vQ (fu:Nat)(a:Int):Option Bool:=if 48<=a then some (decide (a<=57)) else some false
theorem DW (fu:Nat):Om (vQ fu):=by
 intro f j e h d a;unfold vQ at a;have b:=d.bx;clear d;generalize i:mW _=G at b ⊢;refine cf func74 r (lK [(0,.int .u8 e)] ⟨r,y⟩ fun k=>q (g (s (kH r) (n (q (g (s (mi r) (s (GI r r) (s (lJ r) ?_)))))))));rcases iv a with ⟨c,a⟩|⟨c,a⟩
 ·rw [vF c];refine kI r (s (mi r) (kI r (s (O7 r r) (s (kT r r) (s (kH r) (n (lX ?_)))))));obtain rfl:=sm a;exact jN r (nH r) ⟨r,b⟩
 rw [wm c];refine jZ r (jZ r (s (kK r r) (s (kH r) (n (lX ?_)))));obtain rfl:=sm a;exact jN r (nH r) ⟨r,b⟩
def JB (m:BA->Option Bool):Prop:=∀ {a d b c},Pre a d [] []->m b=some c-> Calls prog 75 #[T b] a (tV fun v w=>v=.bool c/\Bx a w d (mW []) [] [])
def pK (fu:Nat)(a:BA):List BA→Nat→Option (Ld (Unit) (Bool))
 | [],_=>some (.go ())
 | b :: c,d=>
 if b=a then
  some (.out true)
 else
  pK fu a c (d+1)
def vL (fu:Nat)(a:BA):Option Bool:=(pK fu a ([(⟨#[114,101,99,111,114,100]⟩:BA),(⟨#[102,117,110,99]⟩:BA),(⟨#[118,97,114]⟩:BA),(⟨#[105,110,116]⟩:BA),(⟨#[105,102]⟩:BA),(⟨#[101,108,115,101]⟩:BA),(⟨#[119,104,105,108,101]⟩:BA),(⟨#[114,101,116,117,114,110]⟩:BA),(⟨#[116,104,114,111,119]⟩:BA),(⟨#[116,114,121]⟩:BA),(⟨#[99,97,116,99,104]⟩:BA),(⟨#[112,114,105,110,116]⟩:BA)]:List BA) 0).bind fun b=>b.el (fun _=>some false) (fun o=>some o)
theorem JJ (fu:Nat):JB (vL fu):=by
 intro j I k C v d;unfold vL at d;have b:=v.bx;clear v;generalize D:mW _=G at b ⊢;refine cf func75 r (lK [(0,T k)] ⟨r,y⟩ fun J=>q (g (s (kH r) (n (q (q (g (qd (jL b [[T (⟨#[114,101,99,111,114,100]⟩:BA)],[T (⟨#[102,117,110,99]⟩:BA)],[T (⟨#[118,97,114]⟩:BA)],[T (⟨#[105,110,116]⟩:BA)],[T (⟨#[105,102]⟩:BA)],[T (⟨#[101,108,115,101]⟩:BA)],[T (⟨#[119,104,105,108,101]⟩:BA)],[T (⟨#[114,101,116,117,114,110]⟩:BA)],[T (⟨#[116,104,114,111,119]⟩:BA)],[T (⟨#[116,114,121]⟩:BA)],[T (⟨#[99,97,116,99,104]⟩:BA)],[T (⟨#[112,114,105,110,116]⟩:BA)]] ([(⟨#[114,101,99,111,114,100]⟩:BA),(⟨#[102,117,110,99]⟩:BA),(⟨#[118,97,114]⟩:BA),(⟨#[105,110,116]⟩:BA),(⟨#[105,102]⟩:BA),(⟨#[101,108,115,101]⟩:BA),(⟨#[119,104,105,108,101]⟩:BA),(⟨#[114,101,116,117,114,110]⟩:BA),(⟨#[116,104,114,111,119]⟩:BA),(⟨#[116,114,121]⟩:BA),(⟨#[99,97,116,99,104]⟩:BA),(⟨#[112,114,105,110,116]⟩:BA)]:List BA) (IE r r r r r r r r r r r r) r r (by decide) ⟨r,⟨r,⟨r,⟨r,⟨r,⟨r,⟨r,⟨r,⟨r,⟨r,⟨r,⟨r,y⟩⟩⟩⟩⟩⟩⟩⟩⟩⟩⟩⟩) ?_))))))));rintro _ E ⟨m,rfl,b⟩;refine s (mV kX r) (s (mi r) (n ?_));have z:=(b.vw 0 0 r r).bd;obtain ⟨x,a,d⟩:=bs d
 refine qK (fun f w=>Has f []/\Bx j w I G [O j.heap.size (ad m) 12 9 BA [[T (⟨#[114,101,99,111,114,100]⟩:BA)],[T (⟨#[102,117,110,99]⟩:BA)],[T (⟨#[118,97,114]⟩:BA)],[T (⟨#[105,110,116]⟩:BA)],[T (⟨#[105,102]⟩:BA)],[T (⟨#[101,108,115,101]⟩:BA)],[T (⟨#[119,104,105,108,101]⟩:BA)],[T (⟨#[114,101,116,117,114,110]⟩:BA)],[T (⟨#[116,104,114,111,119]⟩:BA)],[T (⟨#[116,114,121]⟩:BA)],[T (⟨#[99,97,116,99,104]⟩:BA)],[T (⟨#[112,114,105,110,116]⟩:BA)]]] [.els [[T (⟨#[114,101,99,111,114,100]⟩:BA)],[T (⟨#[102,117,110,99]⟩:BA)],[T (⟨#[118,97,114]⟩:BA)],[T (⟨#[105,110,116]⟩:BA)],[T (⟨#[105,102]⟩:BA)],[T (⟨#[101,108,115,101]⟩:BA)],[T (⟨#[119,104,105,108,101]⟩:BA)],[T (⟨#[114,101,116,117,114,110]⟩:BA)],[T (⟨#[116,104,114,111,119]⟩:BA)],[T (⟨#[116,114,121]⟩:BA)],[T (⟨#[99,97,116,99,104]⟩:BA)],[T (⟨#[112,114,105,110,116]⟩:BA)]] ([(⟨#[114,101,99,111,114,100]⟩:BA),(⟨#[102,117,110,99]⟩:BA),(⟨#[118,97,114]⟩:BA),(⟨#[105,110,116]⟩:BA),(⟨#[105,102]⟩:BA),(⟨#[101,108,115,101]⟩:BA),(⟨#[119,104,105,108,101]⟩:BA),(⟨#[114,101,116,117,114,110]⟩:BA),(⟨#[116,104,114,111,119]⟩:BA),(⟨#[116,114,121]⟩:BA),(⟨#[99,97,116,99,104]⟩:BA),(⟨#[112,114,105,110,116]⟩:BA)]:List BA)]/\Ld.go ()=x) (fun F o=>?_) ?_
 ·refine pW (kG (fun K f w=>∃ c,K=([(⟨#[114,101,99,111,114,100]⟩:BA),(⟨#[102,117,110,99]⟩:BA),(⟨#[118,97,114]⟩:BA),(⟨#[105,110,116]⟩:BA),(⟨#[105,102]⟩:BA),(⟨#[101,108,115,101]⟩:BA),(⟨#[119,104,105,108,101]⟩:BA),(⟨#[114,101,116,117,114,110]⟩:BA),(⟨#[116,104,114,111,119]⟩:BA),(⟨#[116,114,121]⟩:BA),(⟨#[99,97,116,99,104]⟩:BA),(⟨#[112,114,105,110,116]⟩:BA)]:List BA).length - c/\c<=([(⟨#[114,101,99,111,114,100]⟩:BA),(⟨#[102,117,110,99]⟩:BA),(⟨#[118,97,114]⟩:BA),(⟨#[105,110,116]⟩:BA),(⟨#[105,102]⟩:BA),(⟨#[101,108,115,101]⟩:BA),(⟨#[119,104,105,108,101]⟩:BA),(⟨#[114,101,116,117,114,110]⟩:BA),(⟨#[116,104,114,111,119]⟩:BA),(⟨#[116,114,121]⟩:BA),(⟨#[99,97,116,99,104]⟩:BA),(⟨#[112,114,105,110,116]⟩:BA)]:List BA).length/\Has f [(7,V (c:Int)),(0,T k),(5,.slice (ad m) ([(⟨#[114,101,99,111,114,100]⟩:BA),(⟨#[102,117,110,99]⟩:BA),(⟨#[118,97,114]⟩:BA),(⟨#[105,110,116]⟩:BA),(⟨#[105,102]⟩:BA),(⟨#[101,108,115,101]⟩:BA),(⟨#[119,104,105,108,101]⟩:BA),(⟨#[114,101,116,117,114,110]⟩:BA),(⟨#[116,104,114,111,119]⟩:BA),(⟨#[116,114,121]⟩:BA),(⟨#[99,97,116,99,104]⟩:BA),(⟨#[112,114,105,110,116]⟩:BA)]:List BA).length 12),(6,V ((([(⟨#[114,101,99,111,114,100]⟩:BA),(⟨#[102,117,110,99]⟩:BA),(⟨#[118,97,114]⟩:BA),(⟨#[105,110,116]⟩:BA),(⟨#[105,102]⟩:BA),(⟨#[101,108,115,101]⟩:BA),(⟨#[119,104,105,108,101]⟩:BA),(⟨#[114,101,116,117,114,110]⟩:BA),(⟨#[116,104,114,111,119]⟩:BA),(⟨#[116,114,121]⟩:BA),(⟨#[99,97,116,99,104]⟩:BA),(⟨#[112,114,105,110,116]⟩:BA)]:List BA).length:Nat):Int))]/\Bx j w I G [O j.heap.size (ad m) 12 9 BA [[T (⟨#[114,101,99,111,114,100]⟩:BA)],[T (⟨#[102,117,110,99]⟩:BA)],[T (⟨#[118,97,114]⟩:BA)],[T (⟨#[105,110,116]⟩:BA)],[T (⟨#[105,102]⟩:BA)],[T (⟨#[101,108,115,101]⟩:BA)],[T (⟨#[119,104,105,108,101]⟩:BA)],[T (⟨#[114,101,116,117,114,110]⟩:BA)],[T (⟨#[116,104,114,111,119]⟩:BA)],[T (⟨#[116,114,121]⟩:BA)],[T (⟨#[99,97,116,99,104]⟩:BA)],[T (⟨#[112,114,105,110,116]⟩:BA)]]] [.els [[T (⟨#[114,101,99,111,114,100]⟩:BA)],[T (⟨#[102,117,110,99]⟩:BA)],[T (⟨#[118,97,114]⟩:BA)],[T (⟨#[105,110,116]⟩:BA)],[T (⟨#[105,102]⟩:BA)],[T (⟨#[101,108,115,101]⟩:BA)],[T (⟨#[119,104,105,108,101]⟩:BA)],[T (⟨#[114,101,116,117,114,110]⟩:BA)],[T (⟨#[116,104,114,111,119]⟩:BA)],[T (⟨#[116,114,121]⟩:BA)],[T (⟨#[99,97,116,99,104]⟩:BA)],[T (⟨#[112,114,105,110,116]⟩:BA)]] ([(⟨#[114,101,99,111,114,100]⟩:BA),(⟨#[102,117,110,99]⟩:BA),(⟨#[118,97,114]⟩:BA),(⟨#[105,110,116]⟩:BA),(⟨#[105,102]⟩:BA),(⟨#[101,108,115,101]⟩:BA),(⟨#[119,104,105,108,101]⟩:BA),(⟨#[114,101,116,117,114,110]⟩:BA),(⟨#[116,104,114,111,119]⟩:BA),(⟨#[116,114,121]⟩:BA),(⟨#[99,97,116,99,104]⟩:BA),(⟨#[112,114,105,110,116]⟩:BA)]:List BA)]/\pK fu k (([(⟨#[114,101,99,111,114,100]⟩:BA),(⟨#[102,117,110,99]⟩:BA),(⟨#[118,97,114]⟩:BA),(⟨#[105,110,116]⟩:BA),(⟨#[105,102]⟩:BA),(⟨#[101,108,115,101]⟩:BA),(⟨#[119,104,105,108,101]⟩:BA),(⟨#[114,101,116,117,114,110]⟩:BA),(⟨#[116,104,114,111,119]⟩:BA),(⟨#[116,114,121]⟩:BA),(⟨#[99,97,116,99,104]⟩:BA),(⟨#[112,114,105,110,116]⟩:BA)]:List BA).drop c) c=some x) (([(⟨#[114,101,99,111,114,100]⟩:BA),(⟨#[102,117,110,99]⟩:BA),(⟨#[118,97,114]⟩:BA),(⟨#[105,110,116]⟩:BA),(⟨#[105,102]⟩:BA),(⟨#[101,108,115,101]⟩:BA),(⟨#[119,104,105,108,101]⟩:BA),(⟨#[114,101,116,117,114,110]⟩:BA),(⟨#[116,104,114,111,119]⟩:BA),(⟨#[116,114,121]⟩:BA),(⟨#[99,97,116,99,104]⟩:BA),(⟨#[112,114,105,110,116]⟩:BA)]:List BA).length) ⟨0,r,uN _,⟨r,r,r,r,y⟩,b,a⟩ ?_)
  clear b a;rintro K f w ⟨c,rfl,A,hf,b,a⟩ H p;obtain ⟨J,rfl⟩:=nP hf;rcases wz c ([(⟨#[114,101,99,111,114,100]⟩:BA),(⟨#[102,117,110,99]⟩:BA),(⟨#[118,97,114]⟩:BA),(⟨#[105,110,116]⟩:BA),(⟨#[105,102]⟩:BA),(⟨#[101,108,115,101]⟩:BA),(⟨#[119,104,105,108,101]⟩:BA),(⟨#[114,101,116,117,114,110]⟩:BA),(⟨#[116,104,114,111,119]⟩:BA),(⟨#[116,114,121]⟩:BA),(⟨#[99,97,116,99,104]⟩:BA),(⟨#[112,114,105,110,116]⟩:BA)]:List BA).length with i | i
  ·obtain ⟨B,e⟩:=mF (l:=([(⟨#[114,101,99,111,114,100]⟩:BA),(⟨#[102,117,110,99]⟩:BA),(⟨#[118,97,114]⟩:BA),(⟨#[105,110,116]⟩:BA),(⟨#[105,102]⟩:BA),(⟨#[101,108,115,101]⟩:BA),(⟨#[119,104,105,108,101]⟩:BA),(⟨#[114,101,116,117,114,110]⟩:BA),(⟨#[116,104,114,111,119]⟩:BA),(⟨#[116,114,121]⟩:BA),(⟨#[99,97,116,99,104]⟩:BA),(⟨#[112,114,105,110,116]⟩:BA)]:List BA)) i;rw [l6 e,pK] at a;refine q (g (s (sD r r (by omega)) (n (q (jM r (wk (q (pW (q (g (s (kZ kX ql r r r (b.vw 0 0 r r) e) (s (kC vN r r ((vD (ds:=[T B]) (b.vw 0 0 r r) e (fun _ h=>h)) 0 _ r)) (s (ny r) (n (q (g (s (lN r) (s (lN r) (s (tF r r) (n ?_))))))))))))))))))));rcases iv a with ⟨t,a⟩|⟨t,a⟩
   ·refine jM (bt t) (q (g (s (kH r) (n (lX ?_)))));obtain rfl:=sm a;replace d:=oi d;obtain rfl:=sm d;exact jN r (nH r) ⟨r,b.ad [] []⟩
   exact jD (bf t) (wk (g (s (l7 r r (by omega) (by omega)) (s (mi r) (n (p (([(⟨#[114,101,99,111,114,100]⟩:BA),(⟨#[102,117,110,99]⟩:BA),(⟨#[118,97,114]⟩:BA),(⟨#[105,110,116]⟩:BA),(⟨#[105,102]⟩:BA),(⟨#[101,108,115,101]⟩:BA),(⟨#[119,104,105,108,101]⟩:BA),(⟨#[114,101,116,117,114,110]⟩:BA),(⟨#[116,104,114,111,119]⟩:BA),(⟨#[116,114,121]⟩:BA),(⟨#[99,97,116,99,104]⟩:BA),(⟨#[112,114,105,110,116]⟩:BA)]:List BA).length - (c+1)) _ _ (by omega) ⟨c+1,r,by omega,⟨r,r,r,r,y⟩,b,a⟩))))))
  obtain rfl:c=([(⟨#[114,101,99,111,114,100]⟩:BA),(⟨#[102,117,110,99]⟩:BA),(⟨#[118,97,114]⟩:BA),(⟨#[105,110,116]⟩:BA),(⟨#[105,102]⟩:BA),(⟨#[101,108,115,101]⟩:BA),(⟨#[119,104,105,108,101]⟩:BA),(⟨#[114,101,116,117,114,110]⟩:BA),(⟨#[116,104,114,111,119]⟩:BA),(⟨#[116,114,121]⟩:BA),(⟨#[99,97,116,99,104]⟩:BA),(⟨#[112,114,105,110,116]⟩:BA)]:List BA).length:=by omega
  rw [lT,pK] at a;exact q (g (s (su r r (by omega)) (n (q (jD r (uE (o _ _ ⟨y,b,sm a⟩)))))))
 clear b;rintro f w ⟨hf,b,u⟩;obtain ⟨J,rfl⟩:=nP hf;subst u;replace d:=gi d;refine q (g (s (kH r) (n (lX ?_))));obtain rfl:=sm d;exact jN r (nH r) ⟨r,b.ad [] []⟩
def QZ (m:BA->Int->Option BA):Prop:=∀ {a e b c d},Pre a e [] []->m b c=some d-> Calls prog 76 #[T b,V c] a (tV fun v w=>v=T d/\Bx a w e (mW []) [] [])
def tu (fu:Nat)(b:BA)(a:Int):List BA→Nat→Option (Ld (Unit) (BA))
 | [],_=>some (.go ())
 | c :: d,e=>
 (VA b a (wr (a+2))).bind fun f=>
 if f=c then
  some (.out c)
 else
  tu fu b a d (e+1)
def zV (fu:Nat)(a:BA)(b:Int):Option (Ld Unit BA):=if (wr (b+1)) < (a.size:Int) then (tu fu a b ([(⟨#[60,61]⟩:BA),(⟨#[61,61]⟩:BA),(⟨#[33,61]⟩:BA)]:List BA) 0).bind fun c=>c.el (fun _=>some (.go ())) (fun o=>some (.out o)) else some (.go ())
def tH (fu:Nat)(b:BA)(a:Int):List Iz→Nat→Option (Ld (Unit) (BA))
 | [],_=>some (.go ())
 | e :: f,h=>
 (ixs b a).bind fun c=>
 if c=e.n then
  (VA b a (wr (a+1))).bind fun d=>
  some (.out d)
 else
  tH fu b a f (h+1)
def Co (fu:Nat)(a:BA)(b:Int):Option BA:=(zV fu a b).bind fun c=>c.el (fun _=>(tH fu a b ([⟨40⟩,⟨41⟩,⟨123⟩,⟨125⟩,⟨91⟩,⟨93⟩,⟨44⟩,⟨59⟩,⟨58⟩,⟨46⟩,⟨43⟩,⟨45⟩,⟨42⟩,⟨47⟩,⟨37⟩,⟨38⟩,⟨124⟩,⟨94⟩,⟨60⟩,⟨61⟩,⟨33⟩]:List Iz) 0).bind fun c=>c.el (fun _=>some (⟨#[]⟩:BA)) (fun o=>some o)) (fun o=>some o)
theorem P5 (fu:Nat):QZ (Co fu):=by
 intro k ah m o r0 R e;unfold Co at e;have a:=R.bx;clear R;generalize hG:mW _=G at a ⊢;refine cf func76 r (lK [(0,T m),(1,V o)] ⟨r,r,y⟩ fun ai=>q (g (s (ny r) (n (q ?_)))));obtain ⟨W,c,e⟩:=bs e;refine qK (fun f w=>Has f [(0,T m),(1,V o)]/\Bx k w ah G [] []/\Ld.go ()=W) (fun J1 v=>?_) ?_
 ·unfold zV at c;refine q (g (s (mi r) (s (kP r r) (s (lN r) (s (FR vN r) (s (qV r r) (n ?_)))))));rcases iv c with ⟨C,c⟩|⟨C,c⟩
  ·refine jM (bt C) (q (g (qd (jL a [[T (⟨#[60,61]⟩:BA)],[T (⟨#[61,61]⟩:BA)],[T (⟨#[33,61]⟩:BA)]] ([(⟨#[60,61]⟩:BA),(⟨#[61,61]⟩:BA),(⟨#[33,61]⟩:BA)]:List BA) (VH r r r) r r (by decide) ⟨r,⟨r,⟨r,y⟩⟩⟩) ?_)));rintro _ w3 ⟨D,rfl,a⟩;refine s (mV kX r) (s (mi r) (n ?_));have X:=(a.vw 0 0 r r).bd;obtain ⟨S,d,c⟩:=bs c;refine qK (fun f w=>Has f [(0,T m),(1,V o)]/\Bx k w ah G [O k.heap.size (ad D) 3 9 BA [[T (⟨#[60,61]⟩:BA)],[T (⟨#[61,61]⟩:BA)],[T (⟨#[33,61]⟩:BA)]]] [.els [[T (⟨#[60,61]⟩:BA)],[T (⟨#[61,61]⟩:BA)],[T (⟨#[33,61]⟩:BA)]] ([(⟨#[60,61]⟩:BA),(⟨#[61,61]⟩:BA),(⟨#[33,61]⟩:BA)]:List BA)]/\Ld.go ()=S) (fun J4 E=>?_) ?_
   ·refine pW (kG (fun aj f w=>∃ i,aj=([(⟨#[60,61]⟩:BA),(⟨#[61,61]⟩:BA),(⟨#[33,61]⟩:BA)]:List BA).length - i/\i<=([(⟨#[60,61]⟩:BA),(⟨#[61,61]⟩:BA),(⟨#[33,61]⟩:BA)]:List BA).length/\Has f [(16,V (i:Int)),(0,T m),(1,V o),(14,.slice (ad D) ([(⟨#[60,61]⟩:BA),(⟨#[61,61]⟩:BA),(⟨#[33,61]⟩:BA)]:List BA).length 3),(15,V ((([(⟨#[60,61]⟩:BA),(⟨#[61,61]⟩:BA),(⟨#[33,61]⟩:BA)]:List BA).length:Nat):Int))]/\Bx k w ah G [O k.heap.size (ad D) 3 9 BA [[T (⟨#[60,61]⟩:BA)],[T (⟨#[61,61]⟩:BA)],[T (⟨#[33,61]⟩:BA)]]] [.els [[T (⟨#[60,61]⟩:BA)],[T (⟨#[61,61]⟩:BA)],[T (⟨#[33,61]⟩:BA)]] ([(⟨#[60,61]⟩:BA),(⟨#[61,61]⟩:BA),(⟨#[33,61]⟩:BA)]:List BA)]/\tu fu m o (([(⟨#[60,61]⟩:BA),(⟨#[61,61]⟩:BA),(⟨#[33,61]⟩:BA)]:List BA).drop i) i=some S) (([(⟨#[60,61]⟩:BA),(⟨#[61,61]⟩:BA),(⟨#[33,61]⟩:BA)]:List BA).length) ⟨0,r,uN _,⟨r,r,r,r,r,y⟩,a,d⟩ ?_);clear a d;rintro aj f w ⟨i,rfl,Y,hf,a,d⟩ K4 F;obtain ⟨ai,rfl⟩:=nP hf;rcases wz i ([(⟨#[60,61]⟩:BA),(⟨#[61,61]⟩:BA),(⟨#[33,61]⟩:BA)]:List BA).length with x | x
    ·obtain ⟨u4,p⟩:=mF (l:=([(⟨#[60,61]⟩:BA),(⟨#[61,61]⟩:BA),(⟨#[33,61]⟩:BA)]:List BA)) x;rw [l6 p,tu] at d;refine q (g (s (sD r r (by omega)) (n (q (jM r (wk (q (pW (q (g (s (kZ kX ql r r r (a.vw 0 0 r r) p) (s (kC vN r r ((vD (ds:=[T u4]) (a.vw 0 0 r r) p (fun _ h=>h)) 0 _ r)) (s (ny r) (n (q (g (s (lN r) (s (mi r) (s (mi r) (s (kP r r) ?_))))))))))))))))))));obtain ⟨g5,H,d⟩:=bs d;refine s (abx vN r r r H) (s (lN r) (s (tF r r) (n ?_)));rcases iv d with ⟨I,d⟩|⟨I,d⟩
     ·refine jM (bt I) (q (g (s (lN r) (s (ny r) (n (lX ?_))))));obtain rfl:=sm d;replace c:=oi c;obtain rfl:=sm c;replace e:=oi e;obtain rfl:=sm e;exact jN r (nH r) ⟨r,a.ad [] []⟩
     exact jD (bf I) (wk (g (s (l7 r r (by omega) (by omega)) (s (mi r) (n (F (([(⟨#[60,61]⟩:BA),(⟨#[61,61]⟩:BA),(⟨#[33,61]⟩:BA)]:List BA).length - (i+1)) _ _ (by omega) ⟨i+1,r,by omega,⟨r,r,r,r,r,y⟩,a,d⟩))))))
    obtain rfl:i=([(⟨#[60,61]⟩:BA),(⟨#[61,61]⟩:BA),(⟨#[33,61]⟩:BA)]:List BA).length:=by omega
    rw [lT,tu] at d;exact q (g (s (su r r (by omega)) (n (q (jD r (uE (E _ _ ⟨⟨r,r,y⟩,a,sm d⟩)))))))
   clear a;rintro f w ⟨hf,a,J⟩;obtain ⟨ai,rfl⟩:=nP hf;subst J;replace c:=gi c;exact v _ _ ⟨⟨r,r,y⟩,a.ad [] [],sm c⟩
  exact jD (bf C) (wk (v _ _ ⟨⟨r,r,y⟩,a,sm c⟩))
 clear a;rintro f w ⟨hf,a,K⟩;obtain ⟨ai,rfl⟩:=nP hf;subst K;replace e:=gi e;refine q (q (g (qd (jL a [[.int .u8 40],[.int .u8 41],[.int .u8 123],[.int .u8 125],[.int .u8 91],[.int .u8 93],[.int .u8 44],[.int .u8 59],[.int .u8 58],[.int .u8 46],[.int .u8 43],[.int .u8 45],[.int .u8 42],[.int .u8 47],[.int .u8 37],[.int .u8 38],[.int .u8 124],[.int .u8 94],[.int .u8 60],[.int .u8 61],[.int .u8 33]] ([⟨40⟩,⟨41⟩,⟨123⟩,⟨125⟩,⟨91⟩,⟨93⟩,⟨44⟩,⟨59⟩,⟨58⟩,⟨46⟩,⟨43⟩,⟨45⟩,⟨42⟩,⟨47⟩,⟨37⟩,⟨38⟩,⟨124⟩,⟨94⟩,⟨60⟩,⟨61⟩,⟨33⟩]:List Iz) (RI r r r r r r r r r r r r r r r r r r r r r) r r (by decide) ⟨r,⟨r,⟨r,⟨r,⟨r,⟨r,⟨r,⟨r,⟨r,⟨r,⟨r,⟨r,⟨r,⟨r,⟨r,⟨r,⟨r,⟨r,⟨r,⟨r,⟨r,y⟩⟩⟩⟩⟩⟩⟩⟩⟩⟩⟩⟩⟩⟩⟩⟩⟩⟩⟩⟩⟩) ?_)));rintro _ w7 ⟨L,rfl,a⟩;refine qd (aeD a 0 0 r r Ui u5_ r) ?_;rintro _ w8 ⟨rfl,a⟩;try dsimp only [List.eraseIdx] at a
 refine s (mV Ui r) (s (mi r) (n ?_));have a1:=(a.dl 0 r).bd;obtain ⟨U,b,e⟩:=bs e;refine qK (fun f w=>Has f []/\Bx k w ah G [] [.l (ad L) 21 ([⟨40⟩,⟨41⟩,⟨123⟩,⟨125⟩,⟨91⟩,⟨93⟩,⟨44⟩,⟨59⟩,⟨58⟩,⟨46⟩,⟨43⟩,⟨45⟩,⟨42⟩,⟨47⟩,⟨37⟩,⟨38⟩,⟨124⟩,⟨94⟩,⟨60⟩,⟨61⟩,⟨33⟩]:List Iz)]/\Ld.go ()=U) (fun J9 M=>?_) ?_
 ·refine pW (kG (fun aj f w=>∃ j,aj=([⟨40⟩,⟨41⟩,⟨123⟩,⟨125⟩,⟨91⟩,⟨93⟩,⟨44⟩,⟨59⟩,⟨58⟩,⟨46⟩,⟨43⟩,⟨45⟩,⟨42⟩,⟨47⟩,⟨37⟩,⟨38⟩,⟨124⟩,⟨94⟩,⟨60⟩,⟨61⟩,⟨33⟩]:List Iz).length - j/\j<=([⟨40⟩,⟨41⟩,⟨123⟩,⟨125⟩,⟨91⟩,⟨93⟩,⟨44⟩,⟨59⟩,⟨58⟩,⟨46⟩,⟨43⟩,⟨45⟩,⟨42⟩,⟨47⟩,⟨37⟩,⟨38⟩,⟨124⟩,⟨94⟩,⟨60⟩,⟨61⟩,⟨33⟩]:List Iz).length/\Has f [(32,V (j:Int)),(0,T m),(1,V o),(30,.slice (ad L) ([⟨40⟩,⟨41⟩,⟨123⟩,⟨125⟩,⟨91⟩,⟨93⟩,⟨44⟩,⟨59⟩,⟨58⟩,⟨46⟩,⟨43⟩,⟨45⟩,⟨42⟩,⟨47⟩,⟨37⟩,⟨38⟩,⟨124⟩,⟨94⟩,⟨60⟩,⟨61⟩,⟨33⟩]:List Iz).length 21),(31,V ((([⟨40⟩,⟨41⟩,⟨123⟩,⟨125⟩,⟨91⟩,⟨93⟩,⟨44⟩,⟨59⟩,⟨58⟩,⟨46⟩,⟨43⟩,⟨45⟩,⟨42⟩,⟨47⟩,⟨37⟩,⟨38⟩,⟨124⟩,⟨94⟩,⟨60⟩,⟨61⟩,⟨33⟩]:List Iz).length:Nat):Int))]/\Bx k w ah G [] [.l (ad L) 21 ([⟨40⟩,⟨41⟩,⟨123⟩,⟨125⟩,⟨91⟩,⟨93⟩,⟨44⟩,⟨59⟩,⟨58⟩,⟨46⟩,⟨43⟩,⟨45⟩,⟨42⟩,⟨47⟩,⟨37⟩,⟨38⟩,⟨124⟩,⟨94⟩,⟨60⟩,⟨61⟩,⟨33⟩]:List Iz)]/\tH fu m o (([⟨40⟩,⟨41⟩,⟨123⟩,⟨125⟩,⟨91⟩,⟨93⟩,⟨44⟩,⟨59⟩,⟨58⟩,⟨46⟩,⟨43⟩,⟨45⟩,⟨42⟩,⟨47⟩,⟨37⟩,⟨38⟩,⟨124⟩,⟨94⟩,⟨60⟩,⟨61⟩,⟨33⟩]:List Iz).drop j) j=some U) (([⟨40⟩,⟨41⟩,⟨123⟩,⟨125⟩,⟨91⟩,⟨93⟩,⟨44⟩,⟨59⟩,⟨58⟩,⟨46⟩,⟨43⟩,⟨45⟩,⟨42⟩,⟨47⟩,⟨37⟩,⟨38⟩,⟨124⟩,⟨94⟩,⟨60⟩,⟨61⟩,⟨33⟩]:List Iz).length) ⟨0,r,uN _,⟨r,r,r,r,r,y⟩,a,b⟩ ?_);clear a b;rintro aj f w ⟨j,rfl,a2,hf,a,b⟩ K9 N;obtain ⟨ai,rfl⟩:=nP hf;rcases wz j ([⟨40⟩,⟨41⟩,⟨123⟩,⟨125⟩,⟨91⟩,⟨93⟩,⟨44⟩,⟨59⟩,⟨58⟩,⟨46⟩,⟨43⟩,⟨45⟩,⟨42⟩,⟨47⟩,⟨37⟩,⟨38⟩,⟨124⟩,⟨94⟩,⟨60⟩,⟨61⟩,⟨33⟩]:List Iz).length with z | z
  ·obtain ⟨u9,t⟩:=mF (l:=([⟨40⟩,⟨41⟩,⟨123⟩,⟨125⟩,⟨91⟩,⟨93⟩,⟨44⟩,⟨59⟩,⟨58⟩,⟨46⟩,⟨43⟩,⟨45⟩,⟨42⟩,⟨47⟩,⟨37⟩,⟨38⟩,⟨124⟩,⟨94⟩,⟨60⟩,⟨61⟩,⟨33⟩]:List Iz)) z;rw [l6 t,tH] at b;refine q (g (s (sD r r (by omega)) (n (q (jM r (wk (q (pW (q (g (s (kZ Ui ti5 r r r (a.dl 0 r) t) (s (kC u5_ r r ((vD (ds:=[.int .u8 u9.n]) (a.dl 0 r) t (fun _ h=>h)) 0 _ r)) (s (xi r) (n (q (g (s (lN r) (s (mi r) ?_))))))))))))))))));obtain ⟨a4,A,b⟩:=bs b;refine s (KM vN r r A) (s (mi r) (s (kM r r) (n ?_)));rcases iv b with ⟨u,b⟩|⟨u,b⟩
   ·refine jM (bt u) (q (g (s (lN r) (s (mi r) (s (mi r) (s (kP r r) ?_))))));obtain ⟨a5,B,b⟩:=bs b;refine s (abx vN r r r B) (s (ny r) (n (lX ?_)));obtain rfl:=sm b;replace e:=oi e;obtain rfl:=sm e;exact jN r (nH r) ⟨r,a.dp []⟩
   exact jD (bf u) (wk (g (s (l7 r r (by omega) (by omega)) (s (mi r) (n (N (([⟨40⟩,⟨41⟩,⟨123⟩,⟨125⟩,⟨91⟩,⟨93⟩,⟨44⟩,⟨59⟩,⟨58⟩,⟨46⟩,⟨43⟩,⟨45⟩,⟨42⟩,⟨47⟩,⟨37⟩,⟨38⟩,⟨124⟩,⟨94⟩,⟨60⟩,⟨61⟩,⟨33⟩]:List Iz).length - (j+1)) _ _ (by omega) ⟨j+1,r,by omega,⟨r,r,r,r,r,y⟩,a,b⟩))))))
  obtain rfl:j=([⟨40⟩,⟨41⟩,⟨123⟩,⟨125⟩,⟨91⟩,⟨93⟩,⟨44⟩,⟨59⟩,⟨58⟩,⟨46⟩,⟨43⟩,⟨45⟩,⟨42⟩,⟨47⟩,⟨37⟩,⟨38⟩,⟨124⟩,⟨94⟩,⟨60⟩,⟨61⟩,⟨33⟩]:List Iz).length:=by omega
  rw [lT,tH] at b;exact q (g (s (su r r (by omega)) (n (q (jD r (uE (M _ _ ⟨y,a,sm b⟩)))))))
 clear a;rintro f w ⟨hf,a,Q⟩;obtain ⟨ai,rfl⟩:=nP hf;subst Q;replace e:=gi e;refine q (g (s (ny r) (n (lX ?_))));obtain rfl:=sm e;exact jN r (nH r) ⟨r,a.dp []⟩
def Rj (m:Int->Option Int):Prop:=∀ {a d b c},Pre a d [] []->m b=some c-> Calls prog 136 #[V b] a (tV fun v w=>v=V c/\Bx a w d (mW []) [] [])
def zR (fu:Nat)(a:Int):Option (Ld Bool Int):=if a=14 then some (.go (decide (a=14))) else if a=15 then some (.go (decide (a=15))) else if a=16 then some (.go (decide (a=16))) else some (.go (decide (a=17)))
def Ao (fu:Nat)(a:Int):Option (Ld Bool Int):=if a=11 then some (.go (decide (a=11))) else if a=12 then some (.go (decide (a=12))) else some (.go (decide (a=13)))
def Av (fu:Nat)(a:Int):Option (Ld Bool Int):=if a=6 then some (.go (decide (a=6))) else some (.go (decide (a=7)))
def BX (fu:Nat)(a:Int):Option Int:=(zR fu a).bind fun e=>e.el (fun c=>if c=true then some 1 else (Ao fu a).bind fun e=>e.el (fun d=>if d=true then some 2 else (Av fu a).bind fun e=>e.el (fun b=>if b=true then some 3 else if a=8 then some 4 else if a=9 then some 4 else if a=10 then some 4 else if a=4 then some 5 else if a=5 then some 5 else some 6) (fun o=>some o)) (fun o=>some o)) (fun o=>some o)
theorem Pw (fu:Nat):Rj (BX fu):=by
 intro E a1 i W Q a;unfold BX at a;have c:=Q.bx;clear Q;generalize X:mW _=G at c ⊢;refine cf func136 r (lK [(0,V i)] ⟨r,y⟩ fun a2=>q (g (s (xi r) (n (q (q (g (s (mi r) (n (pW (q ?_)))))))))));obtain ⟨R,b,a⟩:=bs a;refine Jv c (fun B f w=>∃ j,Has f [(3,V i),(4,.bool j)]/\B w/\Ld.go j=R) (fun Y m=>?_) ?_
 ·unfold zR at b;refine q (g (s (kM r r) (s (kH r) (n ?_))));rcases iv b with ⟨F,b⟩|⟨F,b⟩
  ·exact jM (bt F) (wk (m _ _ ⟨decide (i=14),⟨r,r,y⟩,c,sm b⟩))
  refine jD (bf F) (q (g (s (kM r r) (s (kH r) (n ?_)))));rcases iv b with ⟨H,b⟩|⟨H,b⟩
  ·exact jM (bt H) (wk (m _ _ ⟨decide (i=15),⟨r,r,y⟩,c,sm b⟩))
  refine jD (bf H) (q (g (s (kM r r) (s (kH r) (n ?_)))));rcases iv b with ⟨I,b⟩|⟨I,b⟩
  ·exact jM (bt I) (wk (m _ _ ⟨decide (i=16),⟨r,r,y⟩,c,sm b⟩))
  exact jD (bf I) (g (s (kM r r) (s (kH r) (n (m _ _ ⟨decide (i=17),⟨r,r,y⟩,c,sm b⟩)))))
 clear c;rintro f w ⟨j,hf,c,J⟩;obtain ⟨a2,rfl⟩:=nP hf;subst J;replace a:=gi a;rcases iv a with ⟨B,a⟩|⟨B,a⟩
 ·refine jM (cb B) (q (g (s (xi r) (n (lX ?_)))));obtain rfl:=sm a;exact jN r (nH r) ⟨r,c⟩
 replace B:=nt B;refine jD (cb B) (q ?_);obtain ⟨S,d,a⟩:=bs a;refine Jv c (fun B f w=>∃ k,Has f [(3,V i),(9,.bool k)]/\B w/\Ld.go k=S) (fun J6 v=>?_) ?_
 ·unfold Ao at d;refine q (g (s (kM r r) (s (kH r) (n ?_))));rcases iv d with ⟨K,d⟩|⟨K,d⟩
  ·exact jM (bt K) (wk (v _ _ ⟨decide (i=11),⟨r,r,y⟩,c,sm d⟩))
  refine jD (bf K) (q (g (s (kM r r) (s (kH r) (n ?_)))));rcases iv d with ⟨L,d⟩|⟨L,d⟩
  ·exact jM (bt L) (wk (v _ _ ⟨decide (i=12),⟨r,r,y⟩,c,sm d⟩))
  exact jD (bf L) (g (s (kM r r) (s (kH r) (n (v _ _ ⟨decide (i=13),⟨r,r,y⟩,c,sm d⟩)))))
 clear c;rintro f w ⟨k,hf,c,M⟩;obtain ⟨a2,rfl⟩:=nP hf;subst M;replace a:=gi a;rcases iv a with ⟨C,a⟩|⟨C,a⟩
 ·refine jM (cb C) (q (g (s (xi r) (n (lX ?_)))));obtain rfl:=sm a;exact jN r (nH r) ⟨r,c⟩
 refine jD (yu C) (q ?_);obtain ⟨N,e,a⟩:=bs a;refine Jv c (fun B f w=>∃ h,Has f [(3,V i),(13,.bool h)]/\B w/\Ld.go h=N) (fun U u=>?_) ?_
 ·unfold Av at e;refine q (g (s (kM r r) (s (kH r) (n ?_))));rcases iv e with ⟨x,e⟩|⟨x,e⟩
  ·exact jM (bt x) (wk (u _ _ ⟨decide (i=6),⟨r,r,y⟩,c,sm e⟩))
  exact jD (bf x) (g (s (kM r r) (s (kH r) (n (u _ _ ⟨decide (i=7),⟨r,r,y⟩,c,sm e⟩)))))
 clear c;rintro f w ⟨h,hf,c,D⟩;obtain ⟨a2,rfl⟩:=nP hf;subst D;replace a:=gi a;rcases iv a with ⟨l,a⟩|⟨l,a⟩
 ·refine jM (cb l) (q (g (s (xi r) (n (lX ?_)))));obtain rfl:=sm a;exact jN r (nH r) ⟨r,c⟩
 refine jD (yu l) (q (q (g (s (kM r r) (s (kH r) (n ?_))))));rcases iv a with ⟨o,a⟩|⟨o,a⟩
 ·refine jM (bt o) (wk ?_);rw [vF o];refine jM r (q (g (s (xi r) (n (lX ?_)))));obtain rfl:=sm a;exact jN r (nH r) ⟨r,c⟩
 refine jD (bf o) (q (g (s (kM r r) (s (kH r) (n ?_)))));rcases iv a with ⟨p,a⟩|⟨p,a⟩
 ·refine jM (bt p) (wk ?_);rw [vF p];refine jM r (q (g (s (xi r) (n (lX ?_)))));obtain rfl:=sm a;exact jN r (nH r) ⟨r,c⟩
 refine jD (bf p) (g (s (kM r r) (s (kH r) (n ?_))));rcases iv a with ⟨z,a⟩|⟨z,a⟩
 ·refine jM (bt z) (q (g (s (xi r) (n (lX ?_)))));obtain rfl:=sm a;exact jN r (nH r) ⟨r,c⟩
 refine jD (bf z) (q (q (g (s (kM r r) (s (kH r) (n ?_))))));rcases iv a with ⟨t,a⟩|⟨t,a⟩
 ·refine jM (bt t) (wk ?_);rw [vF t];refine jM r (q (g (s (xi r) (n (lX ?_)))));obtain rfl:=sm a;exact jN r (nH r) ⟨r,c⟩
 refine jD (bf t) (g (s (kM r r) (s (kH r) (n ?_))));rcases iv a with ⟨A,a⟩|⟨A,a⟩
 ·refine jM (bt A) (q (g (s (xi r) (n (lX ?_)))));obtain rfl:=sm a;exact jN r (nH r) ⟨r,c⟩
 refine jD (bf A) (wk (q (g (s (xi r) (n (lX ?_))))));obtain rfl:=sm a;exact jN r (nH r) ⟨r,c⟩
def JC (m:BA->Option Ge):Prop:=∀ {d f e}{c:Ge},Pre d f [] []->m e=some c-> Calls prog 67 #[T e] d (tV fun v w=>∃ (a:OA)(b:Nat),v=.agg #[V c.e,V c.d,V c.f,T c.c,T c.b,Z a c.a b]/\Bx d w f (mW []) [] [.l a b c.a])
def oK (fu:Nat)(a:BA):Option Ge:=some (⟨1,0,0,a,be,([]:List Ge)⟩:Ge)
theorem pY (fu:Nat):JC (oK fu):=by intro f o b h c e;unfold oK at e;have a:=c.bx;clear c;generalize i:mW _=G at a ⊢;refine cf func67 r (lK [(0,T b)] ⟨r,y⟩ fun p=>q (g (sW a (jQ jU) fun j k a=>n (q (g (s (lN r) (s (IC r r) (lg (mQ a 0 [V 1,V 0,V 0,T b,T be,sn] r jU r r) fun m a=>n (lX ?_)))))))));replace a:=a.jX (d:=.l none 0 ([]:List Ge)) o7;obtain rfl:=sm e;exact jN r (uI r nR r jU r (a.bk 0 r)) ⟨none,0,r,a.arr [] r⟩
def LH (m:Int->Option Ge):Prop:=∀ {d f e}{c:Ge},Pre d f [] []->m e=some c-> Calls prog 138 #[V e] d (tV fun v w=>∃ (a:OA)(b:Nat),v=.agg #[V c.e,V c.d,V c.f,T c.c,T c.b,Z a c.a b]/\Bx d w f (mW []) [] [.l a b c.a])
def tL (fu:Nat)(a:Int):Option Ge:=some (⟨0,a,0,be,be,([]:List Ge)⟩:Ge)
theorem rU (fu:Nat):LH (tL fu):=by intro f o b h c e;unfold tL at e;have a:=c.bx;clear c;generalize i:mW _=G at a ⊢;refine cf func138 r (lK [(0,V b)] ⟨r,y⟩ fun p=>q (g (sW a (jQ jU) fun j k a=>n (q (g (s (mi r) (s (ND r r) (lg (mQ a 0 [V 0,V b,V 0,T be,T be,sn] r jU r r) fun m a=>n (lX ?_)))))))));replace a:=a.jX (d:=.l none 0 ([]:List Ge)) o7;obtain rfl:=sm e;exact jN r (uI r nR r jU r (a.bk 0 r)) ⟨none,0,r,a.arr [] r⟩
def Pm (m:(List Int)->Option (List Int)):Prop:=∀ {e i f a b h},Pre e i [] [.l a b f]->m f=some h-> Calls prog 21 #[Z a f b] e (tV fun v w=>∃ (c:OA)(d:Nat),v=Z c h d/\Bx e w i (mW []) [] [.l c d h])
def AX (fu:Nat)(a:(List Int)):Option (List Int):=if 200 < (a.length:Int) then (sl a 0 200).bind fun b=>some b else some a
theorem OC (fu:Nat):Pm (AX fu):=by
 intro A D v a b B p c;unfold AX at c;have e:=p.bx;clear p;generalize C:mW _=G at e ⊢;refine cf func21 r (lK [(0,Z a v b)] ⟨r,y⟩ fun E=>q (g (s (nA r) (n (q (q (g (s (oF r) (s (mV BJ r) (s (wV r r) (n ?_)))))))))));rcases iv c with ⟨j,c⟩|⟨j,c⟩
 ·refine jM (bt j) (q (g (s (oF r) ?_)));obtain ⟨k,m,c⟩:=bs c;obtain ⟨w,t,x,o,u,f,h⟩:=wX m;obtain rfl:w=0:=by omega
  have i:k.length=t:=by rw [<-h,wI,Cy];omega
  replace e:=e.jX (d:=.l a b k) (by have F:=(e.dl 0 r).head f;rw [h] at F;exact F);refine s (show Yl _ _ _ _ _ _ _ _ _ (.slice a k.length b) from (congrArg (fun z=>Value.slice a z b) i).symm ▸ xU t BJ oW r r o (rE f (e.dl 1 r).cap)) (s (nA r) (n (lX ?_)));obtain rfl:=sm c;exact jN r (nH r) ⟨a,b,r,e.dp [0]⟩
 refine jD (bf j) (wk (q (g (s (oF r) (s (nA r) (n (lX ?_)))))));obtain rfl:=sm c;exact jN r (nH r) ⟨a,b,r,e⟩
def QV (m:BA->Int->Int->Option (Int × Int)):Prop:=∀ {a h b c d R},Pre a h [] []->m b c d=some R-> Calls prog 48 #[T b,V c,V d] a (tV fun v w=>jy R fun e f=>v=.tuple #[V e,V f]/\Bx a w h (mW []) [] [])
def zQ (fu:Nat)(b:BA)(a c:Int):Option (Ld Bool (Int × Int)):=if c=47 then if (wr (a+1)) < (b.size:Int) then (ixs b (wr (a+1))).bind fun d=>some (.go (decide (d=47))) else some (.go false) else some (.go false)
def tJ (fu:Nat)(b:BA):Nat→Int→Option (Ld (Int) (Int × Int))
 | 0,_=>none
 | d+1,a=>
 if a < (b.size:Int) then
  (ixs b a).bind fun c=>
  if c≠10 then
   tJ fu b d (wr (a+1))
  else
   some (.go a)
 else
  some (.go a)
def zM (fu:Nat)(a b c:Int):Option (Ld Unit (Int × Int)):=if c≠32 then if c≠9 then if c≠13 then if c≠10 then some (.out (a,b)) else some (.go ()) else some (.go ()) else some (.go ()) else some (.go ())
def qz (fu:Nat)(c:BA):Nat→Int→Int→Option (Ld (Int × Int) (Int × Int))
 | 0,_,_=>none
 | f+1,a,b=>
 if a < (c.size:Int) then
  (ixs c a).bind fun h=>
  (zQ fu c a h).bind fun i=>i.el (fun d=>
  if d=true then
   (tJ fu c fu a).bind fun i=>i.el (fun e=>
   qz fu c f e b
   ) (fun o=>some (.out o))
  else
   (zM fu a b h).bind fun i=>i.el (fun _=>
   if h=10 then
    qz fu c f (wr (a+1)) (wr (b+1))
   else
    qz fu c f (wr (a+1)) b
   ) (fun o=>some (.out o))
  ) (fun o=>some (.out o))
 else
  some (.go (a,b))
def zG (fu:Nat)(c:BA)(d e:Int):Option (Int × Int):=(qz fu c fu d e).bind fun f=>f.el (fun f=>jy f fun a b=>some (a,b)) (fun o=>some o)
theorem Jt (fu:Nat):QV (zG fu):=by
 intro D aj o x1 x2 R hP l;unfold zG at l;have i:=hP.bx;clear hP;generalize hG:mW _=G at i ⊢;refine cf func48 r (lK [(0,T o),(1,V x1),(2,V x2)] ⟨r,r,r,y⟩ fun ak=>q (g (s (xi r) (s (xi r) (n (q ?_))))));obtain ⟨Y1,a,l⟩:=bs l;refine qK (fun f w=>∃ d c,Has f [(1,V d),(2,V c)]/\Bx D w aj G [] []/\Ld.go (d,c)=Y1) (fun J1 K=>?_) ?_
 ·refine pW (kG (fun al f w=>∃ d c,Has f [(0,T o),(1,V d),(2,V c)]/\Bx D w aj G [] []/\qz fu o al d c=some Y1) fu ⟨x1,x2,⟨r,r,r,y⟩,i,a⟩ ?_);clear i a;rintro E f w ⟨d,c,hf,i,a⟩ K1 p;obtain ⟨ak,rfl⟩:=nP hf;cases E with
  | zero=>exact nn a
  | succ E=>
   rw [qz] at a;refine q (q (g (s (mi r) (s (lN r) (s (FR vN r) (s (qV r r) (n ?_)))))));rcases iv a with ⟨L,a⟩|⟨L,a⟩
   ·refine jM (bt L) (wk (pW (q (g (s (lN r) (s (mi r) ?_))))));obtain ⟨g3,M,a⟩:=bs a;refine s (KM vN r r M) (s (xi r) (n (q (q ?_))));obtain ⟨Y4,j,a⟩:=bs a;refine Jv i (fun B f w=>∃ m,Has f [(0,T o),(1,V d),(2,V c),(8,.int .u8 g3),(31,.bool m)]/\B w/\Ld.go m=Y4) (fun J4 t=>?_) ?_
    ·unfold zQ at j;refine g (s (mi r) (s (kM r r) (s (lJ r) ?_)));rcases iv j with ⟨N,j⟩|⟨N,j⟩
     ·rw [vF N];refine kI r (s (mi r) (kI r (s (kP r r) (kI r (s (lN r) (kI r (s (FR vN r) (kI r (s (qV r r) (s (kT r r) (s (lJ r) ?_)))))))))));rcases iv j with ⟨Q,j⟩|⟨Q,j⟩
      ·rw [vF Q];refine kI r (s (lN r) (kI r (s (mi r) (kI r (s (kP r r) ?_)))));obtain ⟨g7,S,j⟩:=bs j;exact kI r (s (KM vN r r S) (kI r (s (kM r r) (s (kT r r) (n (t _ _ ⟨decide (g7=47),⟨r,r,r,r,r,y⟩,i,sm j⟩))))))
      rw [wm Q];exact jZ r (jZ r (jZ r (jZ r (jZ r (s (kK r r) (n (t _ _ ⟨false,⟨r,r,r,r,r,y⟩,i,sm j⟩)))))))
     rw [wm N];exact jZ r (jZ r (jZ r (jZ r (jZ r (s (kK r r) (s (lJ r) (jZ r (jZ r (jZ r (jZ r (jZ r (s (kK r r) (n (t _ _ ⟨false,⟨r,r,r,r,r,y⟩,i,sm j⟩))))))))))))))
    clear i;rintro f w ⟨m,hf,i,U⟩;obtain ⟨ak,rfl⟩:=nP hf;subst U;replace a:=gi a;rcases iv a with ⟨F,a⟩|⟨F,a⟩
    ·refine jM (cb F) (q ?_);obtain ⟨Y9,h,a⟩:=bs a;refine qK (fun f w=>∃ e,Has f [(0,T o),(1,V e),(2,V c)]/\Bx D w aj G [] []/\Ld.go e=Y9) (fun J9 H=>?_) ?_
     ·refine pW (kG (fun al f w=>∃ e,Has f [(0,T o),(1,V e),(2,V c)]/\Bx D w aj G [] []/\tJ fu o al e=some Y9) fu ⟨d,⟨r,r,r,y⟩,i,h⟩ ?_);clear i h;rintro W f w ⟨e,hf,i,h⟩ K9 X;obtain ⟨ak,rfl⟩:=nP hf;cases W with
      | zero=>exact nn h
      | succ W=>
       rw [tJ] at h;refine q (q (g (s (mi r) (s (lN r) (s (FR vN r) (s (qV r r) (s (lJ r) ?_)))))));rcases iv h with ⟨u,h⟩|⟨u,h⟩
       ·rw [vF u];refine kI r (s (lN r) (kI r (s (mi r) ?_)));obtain ⟨aa,I,h⟩:=bs h;refine kI r (s (KM vN r r I) (kI r (s (sj r r) (s (kT r r) (n ?_)))));rcases iv h with ⟨v,h⟩|⟨v,h⟩
        ·exact jM (bt v) (wk (pW (g (s (mi r) (s (kP r r) (s (xi r) (n (X W _ _ (Es _) ⟨wr (e+1),⟨r,r,r,y⟩,i,h⟩))))))))
        exact jD (bf v) (uE (H _ _ ⟨e,⟨r,r,r,y⟩,i,sm h⟩))
       rw [wm u];exact jZ r (jZ r (jZ r (jZ r (s (kK r r) (n (jD r (uE (H _ _ ⟨e,⟨r,r,r,y⟩,i,sm h⟩))))))))
     clear i;rintro f w ⟨e,hf,i,Y⟩;obtain ⟨ak,rfl⟩:=nP hf;subst Y;replace a:=gi a;exact uE (p E _ _ (Es _) ⟨e,c,⟨r,r,r,y⟩,i,a⟩)
    refine jD (yu F) (wk (q ?_));obtain ⟨a0,b,a⟩:=bs a;refine Jv i (fun B f w=>Has f [(0,T o),(1,V d),(2,V c),(8,.int .u8 g3)]/\B w/\Ld.go ()=a0) (fun ab k=>?_) ?_
    ·unfold zM at b;refine q (g (s (mi r) (s (sj r r) (s (lJ r) ?_))));rcases iv b with ⟨x,b⟩|⟨x,b⟩
     ·rw [vF x];refine kI r (s (mi r) (kI r (s (sj r r) (s (kT r r) (s (lJ r) ?_)))));rcases iv b with ⟨z,b⟩|⟨z,b⟩
      ·rw [vF z];refine kI r (s (mi r) (kI r (s (sj r r) (s (kT r r) (s (lJ r) ?_)))));rcases iv b with ⟨A,b⟩|⟨A,b⟩
       ·rw [vF A];refine kI r (s (mi r) (kI r (s (sj r r) (s (kT r r) (n ?_)))));rcases iv b with ⟨B,b⟩|⟨B,b⟩
        ·refine jM (bt B) (q (g (s (mi r) (s (mi r) (s (xi r) (s (xi r) (n (lX ?_))))))));obtain rfl:=sm b;replace a:=oi a;obtain rfl:=sm a;replace l:=oi l;obtain rfl:=sm l;exact CP r (nH r) (nH r) (nD ⟨r,i⟩)
        exact jD (bf B) (wk (k _ _ ⟨⟨r,r,r,r,y⟩,i,sm b⟩))
       rw [wm A];exact jZ r (jZ r (s (kK r r) (n (jD r (wk (k _ _ ⟨⟨r,r,r,r,y⟩,i,sm b⟩))))))
      rw [wm z];exact jZ r (jZ r (s (kK r r) (s (lJ r) (jZ r (jZ r (s (kK r r) (n (jD r (wk (k _ _ ⟨⟨r,r,r,r,y⟩,i,sm b⟩))))))))))
     rw [wm x];exact jZ r (jZ r (s (kK r r) (s (lJ r) (jZ r (jZ r (s (kK r r) (s (lJ r) (jZ r (jZ r (s (kK r r) (n (jD r (wk (k _ _ ⟨⟨r,r,r,r,y⟩,i,sm b⟩))))))))))))))
    clear i;rintro f w ⟨hf,i,J⟩;obtain ⟨ak,rfl⟩:=nP hf;subst J;replace a:=gi a;refine q (q (g (s (mi r) (s (kM r r) (n ?_)))));rcases iv a with ⟨C,a⟩|⟨C,a⟩
    ·exact jM (bt C) (g (s (mi r) (s (kP r r) (s (xi r) (n (g (s (mi r) (s (kP r r) (s (xi r) (n (p E _ _ (Es _) ⟨wr (d+1),wr (c+1),⟨r,r,r,y⟩,i,a⟩)))))))))))
    exact jD (bf C) (wk (g (s (mi r) (s (kP r r) (s (xi r) (n (p E _ _ (Es _) ⟨wr (d+1),c,⟨r,r,r,y⟩,i,a⟩)))))))
   exact jD (bf L) (uE (K _ _ ⟨d,c,⟨r,r,y⟩,i,sm a⟩))
 clear i;rintro f w ⟨d,c,hf,i,a1⟩;obtain ⟨ak,rfl⟩:=nP hf;subst a1;replace l:=gi l;replace l:=pi l;refine q (g (s (mi r) (s (mi r) (s (xi r) (s (xi r) (n (lX ?_)))))));obtain rfl:=sm l;exact CP r (nH r) (nH r) (nD ⟨r,i⟩)
def RU (m:BA->Int->Int->Option (kR × Int × Int)):Prop:=∀ {b i c d e R},Pre b i [] []->m c d e=some R-> Calls prog 49 #[T c,V d,V e] b (tV fun v w=>jy R fun a R=>jy R fun f h=>v=.tuple #[.agg #[V a.b,V a.g,T a.a,V a.d],V f,V h]/\Bx b w i (mW []) [] [])
def wu (fu:Nat)(d:BA)(a:Int):Option (Ld Bool (kR × Int × Int)):=if a < (d.size:Int) then (ixs d a).bind fun f=>(sS fu f).bind fun c=>if c=true then some (.go true) else (ixs d a).bind fun e=>(vQ fu e).bind fun b=>some (.go b) else some (.go false)
def qX (fu:Nat)(c:BA):Nat→Int→Option (Ld (Int) (kR × Int × Int))
 | 0,_=>none
 | d+1,a=>
 (wu fu c a).bind fun e=>e.el (fun b=>
 if b=true then
  qX fu c d (wr (a+1))
 else
  some (.go a)
 ) (fun o=>some (.out o))
def pO (fu:Nat)(d:BA)(f:Int):Nat→Int→Int→Option (Ld (Int × Int) (kR × Int × Int))
 | 0,_,_=>none
 | e+1,a,b=>
 if a < (d.size:Int) then
  (ixs d a).bind fun h=>
  (vQ fu h).bind fun c=>
  if c=true then
   if (wr (a - f)) < 18 then
    (ixs d a).bind fun i=>
    pO fu d f e (wr (a+1)) (wr ((wr (10 * b))+(wr (w8 (i - 48)))))
   else
    pO fu d f e (wr (a+1)) b
  else
   some (.go (a,b))
 else
  some (.go (a,b))
def BI (fu:Nat)(d:BA)(a:Int):Option (Ld Unit (kR × Int × Int)):=if a < (d.size:Int) then (ixs d a).bind fun c=>(sS fu c).bind fun b=>if b=true then some (.out ((⟨0,0,be,0⟩:kR),0,6)) else some (.go ()) else some (.go ())
def Dt (fu:Nat)(e:BA)(d l:Int):Option (kR × Int × Int):=(ixs e d).bind fun p=>(sS fu p).bind fun k=>if k=true then (qX fu e fu d).bind fun t=>t.el (fun c=>if 12 < (wr (c - d)) then some ((⟨0,0,be,0⟩:kR),0,5) else (VA e d c).bind fun f=>(vL fu f).bind fun h=>if h=true then some ((⟨3,l,f,0⟩:kR),c,0) else some ((⟨1,l,f,0⟩:kR),c,0)) (fun o=>some o) else (ixs e d).bind fun m=>(vQ fu m).bind fun i=>if i=true then (pO fu e d fu d 0).bind fun t=>t.el (fun t=>jy t fun a j=>if 18 < (wr (a - d)) then some ((⟨0,0,be,0⟩:kR),0,5) else (BI fu e a).bind fun t=>t.el (fun _=>some ((⟨2,l,be,j⟩:kR),a,0)) (fun o=>some o)) (fun o=>some o) else (Co fu e d).bind fun b=>if b=(⟨#[]⟩:BA) then some ((⟨0,0,be,0⟩:kR),0,6) else some ((⟨4,l,b,0⟩:kR),wr (d+(b.size:Int)),0)
theorem Te (fu:Nat):RU (Dt fu):=by
 intro X b8 F C l R hP d;unfold Dt at d;have a:=hP.bx;clear hP;generalize hG:mW _=G at a ⊢;refine cf func49 r (lK [(0,T F),(1,V C),(2,V l)] ⟨r,r,r,y⟩ fun b9=>q (g (sW a (jQ qI) fun w1 o a=>s (xi r) (s (xi r) (n (q (g (s (mi r) (s (xi r) (n (q (q (g (s (lN r) (s (mi r) ?_)))))))))))))));obtain ⟨g2,a9,d⟩:=bs d;refine s (KM vN r r a9) ?_;obtain ⟨ax,h3,d⟩:=bs d;refine sc (ec Xm r) (CZ fu (a.pr [] [0] [] r) h3) ?_;rintro _ w3 ⟨rfl,m⟩;replace a:=a.cn [] [0] m;refine n ?_;rcases iv d with ⟨Y,d⟩|⟨Y,d⟩
 ·refine jM (cb Y) (q ?_);obtain ⟨Y5,k,d⟩:=bs d;refine qK (fun f w=>∃ j,Has f [(0,T F),(1,V j),(2,V l),(6,Pt o),(9,V C)]/\Bx X w b8 G [.box o 137 #[V 0,V 0,T be,V 0]] []/\Ld.go j=Y5) (fun J5 aa=>?_) ?_
  ·refine pW (kG (fun ba f w=>∃ j,Has f [(0,T F),(1,V j),(2,V l),(6,Pt o),(9,V C)]/\Bx X w b8 G [.box o 137 #[V 0,V 0,T be,V 0]] []/\qX fu F ba j=some Y5) fu ⟨C,⟨r,r,r,r,r,y⟩,a,k⟩ ?_);clear a k;rintro n5 f w ⟨j,hf,a,k⟩ K5 ac;obtain ⟨b9,rfl⟩:=nP hf;cases n5 with
   | zero=>exact nn k
   | succ n5=>
    rw [qX] at k;refine q (q ?_);obtain ⟨Y6,i,k⟩:=bs k;refine qK (fun f w=>∃ p,Has f [(0,T F),(1,V j),(2,V l),(6,Pt o),(9,V C),(33,.bool p)]/\Bx X w b8 G [.box o 137 #[V 0,V 0,T be,V 0]] []/\Ld.go p=Y6) (fun J6 K=>?_) ?_
    ·unfold wu at i;refine g (s (mi r) (s (lN r) (s (FR vN r) (s (qV r r) (s (lJ r) ?_)))));rcases iv i with ⟨h7,i⟩|⟨h7,i⟩
     ·rw [vF h7];refine kI r (s (lN r) (kI r (s (mi r) ?_)));obtain ⟨g8,af,i⟩:=bs i;refine kI r (s (KM vN r r af) ?_);obtain ⟨az,h9,i⟩:=bs i;refine kI r ?_;refine sc (ec Xm r) (CZ fu (a.pr [] [0] [] r) h9) ?_;rintro _ w9 ⟨rfl,m⟩;replace a:=a.cn [] [0] m;refine kI r (s (lJ r) ?_);rcases iv i with ⟨t,i⟩|⟨t,i⟩
      ·rw [t];exact jZ r (jZ r (jZ r (jZ r (kI r (s (kT r r) (s (kT r r) (n (K _ _ ⟨true,⟨r,r,r,r,r,r,y⟩,a,sm i⟩))))))))
      replace t:=nt t;rw [t];refine kI r (s (lN r) (kI r (s (mi r) ?_)));obtain ⟨aD,a0,i⟩:=bs i;refine kI r (s (KM vN r r a0) ?_);obtain ⟨L,ag,i⟩:=bs i;refine kI r ?_;refine sc (ec VW r) (DW fu (a.pr [] [0] [] r) ag) ?_;rintro _ aE ⟨rfl,m⟩;replace a:=a.cn [] [0] m;exact kI r (s (kK r r) (s (kT r r) (n (K _ _ ⟨L,⟨r,r,r,r,r,r,y⟩,a,sm i⟩))))
     rw [wm h7];exact jZ r (jZ r (jZ r (jZ r (jZ r (jZ r (jZ r (jZ r (jZ r (jZ r (s (kK r r) (n (K _ _ ⟨false,⟨r,r,r,r,r,r,y⟩,a,sm i⟩))))))))))))
    clear a;rintro f w ⟨p,hf,a,ah⟩;obtain ⟨b9,rfl⟩:=nP hf;subst ah;replace k:=gi k;rcases iv k with ⟨u,k⟩|⟨u,k⟩
    ·exact jM (cb u) (wk (pW (g (s (mi r) (s (kP r r) (s (xi r) (n (ac n5 _ _ (Es _) ⟨wr (j+1),⟨r,r,r,r,r,y⟩,a,k⟩))))))))
    exact jD (yu u) (uE (aa _ _ ⟨j,⟨r,r,r,r,r,y⟩,a,sm k⟩))
  clear a;rintro f w ⟨j,hf,a,ai⟩;obtain ⟨b9,rfl⟩:=nP hf;subst ai;replace d:=gi d;refine q (q (g (s (mi r) (s (mi r) (s (zy r r) (s (wV r r) (n ?_)))))));rcases iv d with ⟨M,d⟩|⟨M,d⟩
  ·refine jM (bt M) (q (g (s NN (lg (mQ a 0 [V 0,V 0,T be,V 0] r qI r r) fun aF a=>s (xi r) (s (xi r) (n (lX ?_)))))));obtain rfl:=sm d;exact Br r (uI r FY r qI r (a.bk 0 r)) (nH r) (nH r) (nD (nD ⟨r,a.arr [] r⟩))
  refine jD (bf M) (wk (q (g (s (lN r) (s (mi r) (s (mi r) ?_))))));obtain ⟨D,a1,d⟩:=bs d;refine s (abx vN r r r a1) (s (ny r) (n (q (q (g (s (lN r) ?_))))));obtain ⟨aj,ak,d⟩:=bs d;refine sc (ec ad8 r) (JJ fu (a.pr [] [0] [] r) ak) ?_;rintro _ aG ⟨rfl,m⟩;replace a:=a.cn [] [0] m;refine n ?_;rcases iv d with ⟨v,d⟩|⟨v,d⟩
  ·refine jM (cb v) (q (g (s (mi r) (s (lN r) (s (E8 r r r) (s (mi r) (lg (mQ a 0 [V 3,V l,T D,V 0] r qI r r) fun aH a=>s (xi r) (s (xi r) (n (lX ?_))))))))));obtain rfl:=sm d;exact Br r (uI r FY r qI r (a.bk 0 r)) (nH r) (nH r) (nD (nD ⟨r,a.arr [] r⟩))
  refine jD (yu v) (wk (q (g (s (mi r) (s (lN r) (s (E8 r r r) (s (mi r) (lg (mQ a 0 [V 1,V l,T D,V 0] r qI r r) fun aI a=>s (xi r) (s (xi r) (n (lX ?_)))))))))));obtain rfl:=sm d;exact Br r (uI r FY r qI r (a.bk 0 r)) (nH r) (nH r) (nD (nD ⟨r,a.arr [] r⟩))
 refine jD (yu Y) (wk (q (q (g (s (lN r) (s (mi r) ?_))))));obtain ⟨aJ,a2,d⟩:=bs d;refine s (KM vN r r a2) ?_;obtain ⟨al,am,d⟩:=bs d;refine sc (ec VW r) (DW fu (a.pr [] [0] [] r) am) ?_;rintro _ aK ⟨rfl,m⟩;replace a:=a.cn [] [0] m;refine n ?_;rcases iv d with ⟨x,d⟩|⟨x,d⟩
 ·refine jM (cb x) (q (g (s (xi r) (n (q ?_)))));obtain ⟨a3,b,d⟩:=bs d;refine qK (fun f w=>∃ e c,Has f [(0,T F),(1,V e),(2,V l),(6,Pt o),(9,V C),(11,V c)]/\Bx X w b8 G [.box o 137 #[V 0,V 0,T be,V 0]] []/\Ld.go (e,c)=a3) (fun aL H=>?_) ?_
  ·refine pW (kG (fun ba f w=>∃ e c,Has f [(0,T F),(1,V e),(2,V l),(6,Pt o),(9,V C),(11,V c)]/\Bx X w b8 G [.box o 137 #[V 0,V 0,T be,V 0]] []/\pO fu F C ba e c=some a3) fu ⟨C,0,⟨r,r,r,r,r,r,y⟩,a,b⟩ ?_);clear a b;rintro E f w ⟨e,c,hf,a,b⟩ aM I;obtain ⟨b9,rfl⟩:=nP hf;cases E with
   | zero=>exact nn b
   | succ E=>
    rw [pO] at b;refine q (q (g (s (mi r) (s (lN r) (s (FR vN r) (s (qV r r) (s (lJ r) ?_)))))));rcases iv b with ⟨N,b⟩|⟨N,b⟩
    ·rw [vF N];refine kI r (s (lN r) (kI r (s (mi r) ?_)));obtain ⟨aN,a4,b⟩:=bs b;refine kI r (s (KM vN r r a4) ?_);obtain ⟨an,ao,b⟩:=bs b;refine kI r ?_;refine sc (ec VW r) (DW fu (a.pr [] [0] [] r) ao) ?_;rintro _ aO ⟨rfl,m⟩;replace a:=a.cn [] [0] m;refine s (kT r r) (n ?_);rcases iv b with ⟨z,b⟩|⟨z,b⟩
     ·refine jM (cb z) (wk (pW (q (q (g (s (mi r) (s (mi r) (s (zy r r) (s (qV r r) (n ?_))))))))));rcases iv b with ⟨Q,b⟩|⟨Q,b⟩
      ·refine jM (bt Q) (g (s (mi r) (s (Z5 r r) (s (lN r) (s (mi r) ?_)))));obtain ⟨ap,a5,b⟩:=bs b;exact s (KM vN r r a5) (s (ad6 r r) (s (afq ⟨_,u5_⟩ M7 r) (s (kP r r) (s (xi r) (n (g (s (mi r) (s (kP r r) (s (xi r) (n (I E _ _ (Es _) ⟨wr (e+1),wr ((wr (10 * c))+(wr (w8 (ap - 48)))),⟨r,r,r,r,r,r,y⟩,a,b⟩)))))))))))
      exact jD (bf Q) (wk (g (s (mi r) (s (kP r r) (s (xi r) (n (I E _ _ (Es _) ⟨wr (e+1),c,⟨r,r,r,r,r,r,y⟩,a,b⟩)))))))
     exact jD (yu z) (uE (H _ _ ⟨e,c,⟨r,r,r,r,r,r,y⟩,a,sm b⟩))
    rw [wm N];exact jZ r (jZ r (jZ r (jZ r (s (kK r r) (n (jD r (uE (H _ _ ⟨e,c,⟨r,r,r,r,r,r,y⟩,a,sm b⟩))))))))
  clear a;rintro f w ⟨e,c,hf,a,a6⟩;obtain ⟨b9,rfl⟩:=nP hf;subst a6;replace d:=gi d;replace d:=pi d;refine q (q (g (s (mi r) (s (mi r) (s (zy r r) (s (wV r r) (n ?_)))))));rcases iv d with ⟨S,d⟩|⟨S,d⟩
  ·refine jM (bt S) (q (g (s NN (lg (mQ a 0 [V 0,V 0,T be,V 0] r qI r r) fun aP a=>s (xi r) (s (xi r) (n (lX ?_)))))));obtain rfl:=sm d;exact Br r (uI r FY r qI r (a.bk 0 r)) (nH r) (nH r) (nD (nD ⟨r,a.arr [] r⟩))
  refine jD (bf S) (wk (q ?_));obtain ⟨aq,h,d⟩:=bs d;refine qK (fun f w=>Has f [(1,V e),(2,V l),(6,Pt o),(11,V c)]/\Bx X w b8 G [.box o 137 #[V 0,V 0,T be,V 0]] []/\Ld.go ()=aq) (fun aQ J=>?_) ?_
  ·unfold BI at h;refine q (g (s (mi r) (s (lN r) (s (FR vN r) (s (qV r r) (s (lJ r) ?_))))));rcases iv h with ⟨U,h⟩|⟨U,h⟩
   ·rw [vF U];refine kI r (s (lN r) (kI r (s (mi r) ?_)));obtain ⟨aR,a7,h⟩:=bs h;refine kI r (s (KM vN r r a7) ?_);obtain ⟨ar,au,h⟩:=bs h;refine kI r ?_;refine sc (ec Xm r) (CZ fu (a.pr [] [0] [] r) au) ?_;rintro _ aS ⟨rfl,m⟩;replace a:=a.cn [] [0] m;refine s (kT r r) (n ?_);rcases iv h with ⟨A,h⟩|⟨A,h⟩
    ·refine jM (cb A) (q (g (s NN (lg (mQ a 0 [V 0,V 0,T be,V 0] r qI r r) fun aT a=>s (xi r) (s (xi r) (n (lX ?_)))))));obtain rfl:=sm h;replace d:=oi d;obtain rfl:=sm d;exact Br r (uI r FY r qI r (a.bk 0 r)) (nH r) (nH r) (nD (nD ⟨r,a.arr [] r⟩))
    exact jD (yu A) (wk (J _ _ ⟨⟨r,r,r,r,y⟩,a,sm h⟩))
   rw [wm U];exact jZ r (jZ r (jZ r (jZ r (s (kK r r) (n (jD r (wk (J _ _ ⟨⟨r,r,r,r,y⟩,a,sm h⟩))))))))
  clear a;rintro f w ⟨hf,a,a8⟩;obtain ⟨b9,rfl⟩:=nP hf;subst a8;replace d:=gi d;refine q (g (s (mi r) (s (mi r) (s (Rc r r r) (s (mi r) (lg (mQ a 0 [V 2,V l,T be,V c] r qI r r) fun aU a=>s (xi r) (s (xi r) (n (lX ?_)))))))));obtain rfl:=sm d;exact Br r (uI r FY r qI r (a.bk 0 r)) (nH r) (nH r) (nD (nD ⟨r,a.arr [] r⟩))
 refine jD (yu x) (wk (q (g (s (lN r) (s (mi r) ?_)))));obtain ⟨B,av,d⟩:=bs d;refine sc (ec ac8 r) (P5 fu (a.pr [] [0] [] r) av) ?_;rintro _ aV ⟨rfl,m⟩;replace a:=a.cn [] [0] m;refine s (ny r) (n (q (q (g (s (lN r) (s (tF r r) (n ?_)))))));rcases iv d with ⟨W,d⟩|⟨W,d⟩
 ·refine jM (bt W) (q (g (s NN (lg (mQ a 0 [V 0,V 0,T be,V 0] r qI r r) fun aW a=>s (xi r) (s (xi r) (n (lX ?_)))))));obtain rfl:=sm d;exact Br r (uI r FY r qI r (a.bk 0 r)) (nH r) (nH r) (nD (nD ⟨r,a.arr [] r⟩))
 refine jD (bf W) (wk (q (g (s (mi r) (s (lN r) (s (E8 r r r) (s (mi r) (s (lN r) (s (FR vN r) (s (kP r r) (lg (mQ a 0 [V 4,V l,T B,V 0] r qI r r) fun aX a=>s (xi r) (s (xi r) (n (lX ?_))))))))))))));obtain rfl:=sm d;exact Br r (uI r FY r qI r (a.bk 0 r)) (nH r) (nH r) (nD (nD ⟨r,a.arr [] r⟩))
def PD (m:BA->Option ((List kR) × Int × Int)):Prop:=∀ {d:World}{j e R},Pre d j [] []->m e=some R-> Calls prog 27 #[T e] d (tV fun v w=>jy R fun f R=>jy R fun h i=>∃ (a:OA)(b:Nat)(c:LV),v=.tuple #[Z a f b,V h,V i]/\Bx d w j (mW []) [O d.heap.size a b 137 kR c] [.els c f])
def Aw (fu:Nat)(b:List kR)(a:Int):Option (Ld Int ((List kR) × Int × Int)):=if a=0 then if 2000<=(b.length:Int) then some (.go 5) else some (.go a) else some (.go a)
def uT (fu:Nat)(k:BA):Nat→Int→Int→(List kR)→Option (Ld (Int × Int × List kR) ((List kR) × Int × Int))
 | 0,_,_,_=>none
 | m+1,b,a,c=>
 if b < (k.size:Int) then
  (Dt fu k b a).bind fun p=>
  jy p fun h p=>jy p fun i j=>
  (Aw fu c j).bind fun p=>p.el (fun d=>
  if d≠0 then
   some (.out (([]:List kR),a,d))
  else
   (app c ([h]:List kR)).bind fun l=>
   (zG fu k i a).bind fun p=>
   jy p fun e f=>
   uT fu k m e f l
  ) (fun o=>some (.out o))
 else
  some (.go (b,a,c))
def Ce (fu:Nat)(e:BA):Option ((List kR) × Int × Int):=if 4000 < (e.size:Int) then some (([]:List kR),0,5) else (zG fu e 0 1).bind fun i=>jy i fun a b=>(uT fu e fu a b ([]:List kR)).bind fun i=>i.el (fun i=>jy i fun h i=>jy i fun c d=>(app d ([(⟨0,c,be,0⟩:kR)]:List kR)).bind fun f=>some (f,0,0)) (fun o=>some o)
theorem QB (fu:Nat):PD (Ce fu):=by
 intro B au K R hP l;unfold Ce at l;have c:=hP.bx;clear hP;generalize hG:mW _=G at c ⊢;refine cf func27 r (lK [(0,T K)] ⟨r,y⟩ fun av=>q (g (s (nA r) (s (xi r) (s (xi r) (n (q (q (g (s (lN r) (s (FR vN r) (s (wV r r) (n ?_)))))))))))));rcases iv l with ⟨L,l⟩|⟨L,l⟩
 ·refine jM (bt L) (q (g (s (nA r) (s (xi r) (s (xi r) (n (lX ?_)))))));replace c:=c.EM kR 137;obtain rfl:=sm l;exact Br r (nH r) (nH r) (nH r) (nD (nD ⟨none,0,[],r,c⟩))
 refine jD (bf L) (wk (q (g (s (nA r) (n (q (g (s (lN r) ?_))))))));obtain ⟨C,D,h3,l⟩:=mq l;refine sc (ec aap r) (Jt fu (c.pr [] [] [] r) h3) ?_;rintro _ w3 ⟨rfl,E⟩;replace c:=c.cn [] [] E;refine s wQ (s (kE r r) (s (kE r r) (s (xi r) (s (xi r) (n (q ?_))))));replace c:=c.EM kR 137;obtain ⟨Y4,b,l⟩:=bs l;refine qK (fun f w=>∃ m j i d e h,Has f [(5,Z d i e),(7,V j)]/\Bx B w au G [O B.heap.size d e 137 kR h] [.els h i]/\Ld.go (m,j,i)=Y4) (fun J4 M=>?_) ?_
 ·refine pW (kG (fun aw f w=>∃ m j i d e h,Has f [(0,T K),(5,Z d i e),(6,V m),(7,V j)]/\Bx B w au G [O B.heap.size d e 137 kR h] [.els h i]/\uT fu K aw m j i=some Y4) fu ⟨C,D,([]:List kR),none,0,[],⟨r,r,r,r,y⟩,c,b⟩ ?_);clear c b;rintro N f w ⟨m,j,i,d,e,h,hf,c,b⟩ K4 Q;obtain ⟨av,rfl⟩:=nP hf;cases N with
  | zero=>exact nn b
  | succ N=>
   rw [uT] at b;refine q (q (g (s (mi r) (s (lN r) (s (FR vN r) (s (qV r r) (n ?_)))))));rcases iv b with ⟨S,b⟩|⟨S,b⟩
   ·refine jM (bt S) (wk (pW (q (g (s (lN r) (s (mi r) (s (mi r) ?_)))))));obtain ⟨a,F,t,h7,b⟩:=vB b;refine sc (ec acU r) (Te fu (c.pr [] [0] [] r) h7) ?_;rintro _ w7 ⟨rfl,E⟩;replace c:=c.cn [] [0] E;refine s wQ (s (kE r r) (s (kE r r) (s (kE r r) (sW c (jQ qI) fun w8 b8 c=>lg (mQ c 0 [V a.b,V a.g,T a.a,V a.d] r qI r r) fun w9 c=>s (xi r) (s (xi r) (n (q ?_)))))));obtain ⟨U,k,b⟩:=bs b;refine Jv c (fun Q f w=>∃ o,Has f [(0,T K),(5,Z d i e),(7,V j),(8,Pt b8),(9,V F),(10,V o)]/\Q w/\Ld.go o=U) (fun ab p=>?_) ?_
    ·unfold Aw at k;refine q (g (s (mi r) (s (kM r r) (s (lJ r) ?_))));rcases iv k with ⟨u,k⟩|⟨u,k⟩
     ·rw [vF u];refine kI r (s (oF r) (kI r (s (mV GL r) (kI r (s (GI r r) (s (kT r r) (n ?_)))))));rcases iv k with ⟨v,k⟩|⟨v,k⟩
      ·exact jM (bt v) (g (s (xi r) (n (p _ _ ⟨5,⟨r,r,r,r,r,r,y⟩,c,sm k⟩))))
      exact jD (bf v) (wk (p _ _ ⟨t,⟨r,r,r,r,r,r,y⟩,c,sm k⟩))
     rw [wm u];exact jZ r (jZ r (jZ r (s (kK r r) (n (jD r (wk (p _ _ ⟨t,⟨r,r,r,r,r,r,y⟩,c,sm k⟩)))))))
    clear c;rintro f w ⟨o,hf,c,H⟩;obtain ⟨av,rfl⟩:=nP hf;subst H;replace b:=gi b;refine q (q (g (s (mi r) (s (sj r r) (n ?_)))));rcases iv b with ⟨x,b⟩|⟨x,b⟩
    ·refine jM (bt x) (q (g (s (mi r) (s (mi r) (s (nA r) (s (xi r) (s (xi r) (n (lX ?_)))))))));replace c:=c.EM kR 137;obtain rfl:=sm b;replace l:=oi l;obtain rfl:=sm l;exact Br r (nH r) (nH r) (nH r) (nD (nD ⟨none,0,[],r,c.ad [0] [0]⟩))
    refine jD (bf x) (wk (q (g (s (oF r) (s (lI [V a.b,V a.g,T a.a,V a.d] FY qI r (c.bk 0 r)) (qd (jL c [[V a.b,V a.g,T a.a,V a.d]] ([a]:List kR) (QL r) r r (by decide) ⟨r,y⟩) ?_))))));rintro _ ac ⟨ae,rfl,c⟩;obtain ⟨W,I,b⟩:=bs b;refine qd (ku c 2 1 r r GL qI r (by decide) (by decide) (mO _) r r (c.Bo 0 0 r r) I) ?_;rintro _ af ⟨X,Y,a0,rfl,c⟩;refine s (nA r) (n (g (s (lN r) (s (mi r) (s (mi r) ?_)))));obtain ⟨z,A,a1,b⟩:=mq b;refine sc (ec aap r) (Jt fu (c.pr [] [0,1,2] [] r) a1) ?_;rintro _ ag ⟨rfl,E⟩;replace c:=c.cn [] [0,1,2] E;exact s wQ (s (kE r r) (s (kE r r) (s (xi r) (s (xi r) (n (Q N _ _ (Es _) ⟨z,A,W,X,Y,a0,⟨r,r,r,r,y⟩,c.ad [2] [1],b⟩))))))
   exact jD (bf S) (uE (M _ _ ⟨m,j,i,d,e,h,⟨r,r,y⟩,c,sm b⟩))
 clear c;rintro f w ⟨m,j,i,d,e,h,hf,c,a2⟩;obtain ⟨av,rfl⟩:=nP hf;subst a2;replace l:=gi l;replace l:=Eo l;refine q (g (s (oF r) (s (mi r) (s (UM r r) (qd (jL c [[V 0,V j,T be,V 0]] ([(⟨0,j,be,0⟩:kR)]:List kR) (QL r) r r (by decide) ⟨r,y⟩) ?_)))));rintro _ ah ⟨ai,rfl,c⟩;obtain ⟨aj,J,l⟩:=bs l;refine qd (ku c 1 1 r r GL qI r (by decide) (by decide) (mO _) r r (c.Bo 0 0 r r) J) ?_;rintro _ ak ⟨a3,a4,a5,rfl,c⟩;refine s (nA r) (s (xi r) (s (xi r) (n (lX ?_))));obtain rfl:=sm l;exact Br r (nH r) (nH r) (nH r) (nD (nD ⟨a3,a4,a5,r,c.ad [1] [1]⟩))
abbrev Hl:=Int->Option (ByteArray)
def z8 (m:Int->Option BA):Prop:=∀ {a d b c},Pre a d [] []->m b=some c-> Calls prog 91 #[V b] a (tV fun v w=>v=T c/\Bx a w d (mW []) [] [])
def yA (fu:Nat)(r_r03_Digits:Hl)(a:Int):Option BA:=if a < 0 then if a=(-9223372036854775808) then some (⟨#[45,57,50,50,51,51,55,50,48,51,54,56,53,52,55,55,53,56,48,56]⟩:BA) else (r_r03_Digits (wr (0 - a))).bind fun c=>(cat (⟨#[45]⟩:BA) c).bind fun f=>some f else if a < 10 then some (bst ([⟨w8 (wr (48+a))⟩]:List Iz)) else (r_r03_Digits (wr (a.tdiv 10))).bind fun d=>(r_r03_Digits (a.tmod 10)).bind fun b=>(cat d b).bind fun e=>some e
def E9:Nat→(Int→Option (BA))
 | 0=>(fun _=>none)
 | fu+1=>yA fu (E9 fu)
def sQ (fu:Nat):=(E9 fu)
theorem ML (fu:Nat)(r_r03_Digits:Hl)(H_r03_Digits:z8 r_r03_Digits):z8 (yA fu r_r03_Digits):=by
 intro x F e z m a;unfold yA at a;have b:=m.bx;clear m;generalize A:mW _=G at b ⊢;refine cf func91 r (lK [(0,V e)] ⟨r,y⟩ fun H=>q (g (s (ny r) (n (q (q (g (s (mi r) (s (qV r r) (n ?_))))))))));rcases iv a with ⟨f,a⟩|⟨f,a⟩
 ·refine jM (bt f) (q (q (g (s (mi r) (s (kM r r) (n ?_))))));rcases iv a with ⟨h,a⟩|⟨h,a⟩
  ·refine jM (bt h) (q (g (s (ny r) (n (lX ?_)))));obtain rfl:=sm a;exact jN r (nH r) ⟨r,b⟩
  refine jD (bf h) (wk (q (g (s (mi r) (s (zy r r) ?_)))));obtain ⟨o,t,a⟩:=bs a;refine sc (ec Nc r) (H_r03_Digits (b.pr [] [] [] r) t) ?_;rintro _ B ⟨rfl,c⟩;replace b:=b.cn [] [] c;obtain ⟨C,i,a⟩:=bs a;refine s (mD r r i) (s (ny r) (n (lX ?_)));obtain rfl:=sm a;exact jN r (nH r) ⟨r,b⟩
 refine jD (bf f) (wk (q (q (g (s (mi r) (s (qV r r) (n ?_)))))));rcases iv a with ⟨j,a⟩|⟨j,a⟩
 ·refine jM (bt j) (q (g (s (mi r) (s (kP r r) (s (afd ⟨_,M7⟩ u5_ r) (qd (jL b [[.int .u8 (w8 (wr (48+e)))]] ([⟨w8 (wr (48+e))⟩]:List Iz) (U1 r) r r (by decide) ⟨r,y⟩) ?_))))));rintro _ D ⟨E,rfl,b⟩;refine s (afn Ui u5_ vN r (b.vw 0 0 r r)) (s (ny r) (n (lX ?_)));obtain rfl:=sm a;exact jN r (nH r) ⟨r,b.ad [] []⟩
 refine jD (bf j) (wk (q (g (s (mi r) (s (aeI r r (by decide)) ?_)))));obtain ⟨p,u,a⟩:=bs a;refine sc (ec Nc r) (H_r03_Digits (b.pr [] [] [] r) u) ?_;rintro _ w8 ⟨rfl,c⟩;replace b:=b.cn [] [] c;refine s (mi r) (s (Z7 r r (by decide)) ?_);obtain ⟨k,l,a⟩:=bs a;refine sc (ec Nc r) (H_r03_Digits (b.pr [] [] [] r) l) ?_;rintro _ v ⟨rfl,c⟩;replace b:=b.cn [] [] c;obtain ⟨w,d,a⟩:=bs a;refine s (mD r r d) (s (ny r) (n (lX ?_)));obtain rfl:=sm a;exact jN r (nH r) ⟨r,b⟩
theorem KF (fu:Nat):z8 (sQ fu):=by
 induction fu with
 | zero=>exact by intro a b;intros;(try intro _);intros;exact nn (by assumption)
 | succ fu ih=>exact ML fu (sQ fu) ih
theorem Dn (fu:Nat):z8 (sQ fu):=(KF fu)
end
end Go.Proofs.YtdkneekpdecjbaaGreat
