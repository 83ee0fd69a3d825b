/- Contracts, printed by gen3.py. -/
import Derived.Test.YtfglbdkfnphjgaaGreatZ4
set_option linter.unusedVariables false
set_option maxHeartbeats 12800000
set_option linter.unusedSimpArgs false
set_option maxRecDepth 4000
namespace Go.Proofs.YtfglbdkfnphjgaaGreat
open Go.RowKit Go.Fw Go.Proofs.Tryz
noncomputable section
def Qd (m:Int->Int->Option Int):Prop:=∀ {a e b c d},Pre a e [] []->m b c=some d-> Calls prog 7 #[V b,V c] a (pU fun v w=>v=V d/\Bx a w e (lH []) [] [])
def tX (fu:Nat)(b a:Int):Option Int:=if a=0 then none else if (b.tmod a) < 0 then some (wr ((b.tmod a)+a)) else some (b.tmod a)
theorem nX (fu:Nat):Qd (tX fu):=by
 intro i l e f j d a;unfold tX at a;have b:=d.bx;clear d;generalize k:lH _=G at b ⊢;refine cf func7 r ?_;refine lG [(0,V e),(1,V f)] ⟨r,r,y⟩ fun m=>?_;refine q (g (s (xi r) (n (q (g (s (mi r) (s (mi r) ?_)))))));rcases iv a with ⟨_,a⟩|⟨h,a⟩
 · exact nn a
 refine s (QY r r h) (s (xi r) (n (q (q (g (s (mi r) (s (qC r r) (n ?_))))))));rcases iv a with ⟨c,a⟩|⟨c,a⟩
 ·refine jN (bt c) (g (s (mi r) (s (mi r) (s (kU r r) (s (xi r) (n (q (g (s (mi r) (s (xi r) (n (kH ?_))))))))))));obtain rfl:=sm a;refine jC r (kL r) ?_;exact ⟨r,b⟩
 refine jK (bf c) (wk (q (g (s (mi r) (s (xi r) (n (kH ?_)))))));obtain rfl:=sm a;refine jC r (kL r) ?_;exact ⟨r,b⟩
def OY (m:jP->Int->Option (Int × jP)):Prop:=∀ {f j}{e:jP}{h c a b R},(fun L=>Pre f j L [.l a b e.l]->m e h=some R-> Calls prog 44 #[Pt c,V h] f (pU fun v w=>iA R fun i d=>v=V i/\Bx f w j (lH L) [.box c 129 #[Z a d.l b,V d.a]] [.l a b d.l])) [.box c 129 #[Z a e.l b,V e.a]]
def kQ (fu:Nat)(a:jP)(c:Int):Option (Int × jP):=if (a.l.length:Int)<=a.a then some (0,a) else (ix a.l (wr ((wr (a.a+1)) - 1))).bind fun d=>(tX fu d c).bind fun b=>some (b,(⟨a.l,wr (a.a+1)⟩:jP))
theorem ku (fu:Nat):OY (kQ fu):=by
 intro A F j v m c d R t e;unfold kQ at e;have b:=t.bx;clear t;generalize B:lH _=G at b ⊢;refine cf func44 r ?_;refine lG [(0,Pt m),(1,V v)] ⟨r,r,y⟩ fun H=>?_;refine q (g (s (xi r) (n (q (q (qA b [0] [] [] (by kernel_rfl) ?_))))));replace b:=b.drew;have a:=b.dp [];refine pF 0 r (mp r) a (pF 1 r (xn r) a (pF 2 r (II r) a (uF 3 r (fun hS=>l3 r (hS.bk 0 r) r) a (pF 4 r (mp r) a (pF 5 r (xn r) a (pF 6 r (Qq r) a (uF 7 r (fun hS=>Qa r (hS.bk 0 r) r) a (pF 8 r (lT ru r) a (pF 9 r (CF r r) a (hD ?_))))))))));rcases iv e with ⟨o,e⟩|⟨o,e⟩
 ·refine jN (bt o) (q (g (s (xi r) (n (kH ?_)))));obtain rfl:=sm e;refine jC r (kL r) ?_;exact nJ (⟨r,b⟩)
 refine jK (bf o) (wk (q (g (s (mp r) (s (xn r) (s (II r) (s (l3 r (b.bk 0 r) r) (s (kU r r) (s (xn r) (s (II r) (lD (tb b 0 [V (wr (j.a+1))] r ny r r r r r (show _=#[Z c j.l d,V (wr (j.a+1))] from r)) ?_)))))))))));intro C b;try dsimp only [List.set] at b
 refine n (q (qA b [0] [0] [] (by kernel_rfl) ?_));replace b:=b.drew;have a:=b;refine pF 0 r (mp r) a (pF 1 r (xn r) a (pF 2 r (Qq r) a (uF 3 r (fun hS=>Qa r (hS.bk 0 r) r) a (pF 4 r (mp r) a (pF 5 r (xn r) a (pF 6 r (II r) a (uF 7 r (fun hS=>l3 r (hS.bk 0 r) r) a (pF 8 r (wY r r) a ?_))))))));obtain ⟨w,f,e⟩:=bs e;obtain ⟨D,p,f⟩:=kN f;refine pF 9 r (kY ru ny r r p (b.dl 0 r) f) a (tU 10 r (fun _ hS=>jV Ir r r ((uo (ds:=[V w]) (hS.dl 0 r) f (fun _ h=>h)) 0 _ r)) (sF a) (pF 11 r (mi r) a ?_));obtain ⟨u,x,e⟩:=bs e;refine hO 12 (oc r r (ec DL r) (nX fu (b.pr [] [0] [] r) x) ?_);rintro _ E ⟨rfl,z⟩;replace b:=b.cl [] [0] r z r;try dsimp only [pick,nth,ca,na] at b
 have a:=b;refine ⟨sF a,?_⟩;refine pF 13 r (xi r) a (hD (kH ?_));obtain rfl:=sm e;refine jC r (kL r) ?_;exact nJ (⟨r,b⟩)
def Pv (m:jP->Option Bool):Prop:=∀ {e h}{c:jP}{d a b f},(fun L=>Pre e h L [.l a b c.l]->m c=some f-> Calls prog 61 #[Pt d] e (pU fun v w=>v=.bool f/\Bx e w h (lH L) L [.l a b c.l])) [.box d 129 #[Z a c.l b,V c.a]]
def Df (fu:Nat)(a:jP):Option Bool:=some (decide (a.a < (a.l.length:Int)))
theorem OJ (fu:Nat):Pv (Df fu):=by intro m t f e b c o h j;unfold Df at j;have d:=h.bx;clear h;generalize p:lH _=G at d ⊢;refine cf func61 r ?_;refine lG [(0,Pt e)] ⟨r,y⟩ fun u=>?_;refine q (g (s (kD r) (n (q (qA d [0] [] [] (by kernel_rfl) ?_)))));replace d:=d.drew;have a:=d.dp [];refine pF 0 r (mp r) a (pF 1 r (xn r) a (pF 2 r (II r) a (uF 3 r (fun hS=>l3 r (hS.bk 0 r) r) a (pF 4 r (mp r) a (pF 5 r (xn r) a (pF 6 r (Qq r) a (uF 7 r (fun hS=>Qa r (hS.bk 0 r) r) a (pF 8 r (lT ru r) a (pF 9 r (qC r r) a (pF 10 r (kD r) a (hD (kH ?_))))))))))));obtain rfl:=sm j;refine jC r (kL r) ?_;exact ⟨r,d⟩
def Ky (m:jP->Option (Int × jP)):Prop:=∀ {f i}{e:jP}{c a b R},(fun L=>Pre f i L [.l a b e.l]->m e=some R-> Calls prog 88 #[Pt c] f (pU fun v w=>iA R fun h d=>v=V h/\Bx f w i (lH L) [.box c 129 #[Z a d.l b,V d.a]] [.l a b d.l])) [.box c 129 #[Z a e.l b,V e.a]]
def yF (fu:Nat)(c:jP):Option (Int × jP):=(kQ fu c ((([0,1,2,3,5,7,4,10,100,1048576,2147483648,1099511627776,999999999999999999,6,8,9]:List Int).length:Nat):Int)).bind fun e=>iA e fun a b=>(ix ([0,1,2,3,5,7,4,10,100,1048576,2147483648,1099511627776,999999999999999999,6,8,9]:List Int) a).bind fun d=>some (d,b)
theorem Kj (fu:Nat):Ky (yF fu):=by
 intro v C j f d e R k c;unfold yF at c;have a:=k.bx;clear k;generalize w:lH _=G at a ⊢;refine cf func88 r ?_;refine lG [(0,Pt f)] ⟨r,y⟩ fun D=>?_;refine q (g (s (xi r) (n (q (g (nW (jO a [[V 0],[V 1],[V 2],[V 3],[V 5],[V 7],[V 4],[V 10],[V 100],[V 1048576],[V 2147483648],[V 1099511627776],[V 999999999999999999],[V 6],[V 8],[V 9]] ([0,1,2,3,5,7,4,10,100,1048576,2147483648,1099511627776,999999999999999999,6,8,9]:List Int) (Sk r r r r r r r r r r r r r r r r) r r (by decide) ⟨r,⟨r,⟨r,⟨r,⟨r,⟨r,⟨r,⟨r,⟨r,⟨r,⟨r,⟨r,⟨r,⟨r,⟨r,⟨r,y⟩⟩⟩⟩⟩⟩⟩⟩⟩⟩⟩⟩⟩⟩⟩⟩) ?_))))));rintro _ x ⟨z,rfl,a⟩;refine s (mh r) (n (q (g (s (mK r) (s (mp r) (s (mK r) (s (lT ru r) ?_)))))));obtain ⟨⟨m,o⟩,p,c⟩:=bs c;replace c:=pi c;refine sc (ec oZ r) (ku fu (a.pr [1] [0] [1] r) p) ?_;rintro _ A ⟨rfl,t⟩;replace a:=a.cl [1] [0] r t r;try dsimp only [pick,nth,ca,na] at a
 obtain ⟨u,b,c⟩:=bs c;obtain ⟨B,i,b⟩:=kN b;refine s (kY ru ny r r i (a.vw 1 1 r r) b) (s (jV Ir r r ((uo (ds:=[V u]) (a.vw 1 1 r r) b (fun _ h=>h)) 0 _ r)) (s (xi r) (n (kH ?_))));obtain rfl:=sm c;refine jC r (kL r) ?_;exact nJ (⟨r,a.ad [0] [0]⟩)
def KE (m:Int->Option Bool):Prop:=∀ {a d b c},Pre a d [] []->m b=some c-> Calls prog 52 #[.int .u8 b] a (pU fun v w=>v=.bool c/\Bx a w d (lH []) [] [])
def oO (fu:Nat)(a:Int):Option Bool:=if 97<=a then if a<=122 then some true else if 65<=a then if a<=90 then some true else some (decide (a=95)) else some (decide (a=95)) else if 65<=a then if a<=90 then some true else some (decide (a=95)) else some (decide (a=95))
theorem Cu (fu:Nat):KE (oO fu):=by
 intro l p k m j a;unfold oO at a;have b:=j.bx;clear j;generalize o:lH _=G at b ⊢;refine cf func52 r ?_;refine lG [(0,.int .u8 k)] ⟨r,y⟩ fun t=>?_;refine q (g (s (kD r) (n (q (g (s (mi r) (s (CF r r) (s (kV r) ?_))))))));rcases iv a with ⟨c,a⟩|⟨c,a⟩
 ·rw [um c];refine kG r (s (mi r) (kG r (s (M4 r r) (s (kP r r) (s (kV r) ?_)))));rcases iv a with ⟨d,a⟩|⟨d,a⟩
  ·rw [um d];refine jM r (jM r (jM r (jM r (jM r (jM r (s (kP r r) (s (kV r) (jM r (jM r (s (kP r r) (s (kD r) (n (kH ?_)))))))))))));obtain rfl:=sm a;refine jC r (kL r) ?_;exact ⟨r,b⟩
  rw [uO d];refine kG r (s (mi r) (kG r (s (CF r r) (kG r (s (kV r) ?_)))));rcases iv a with ⟨e,a⟩|⟨e,a⟩
  ·rw [um e];refine kG r (s (mi r) (kG r (s (M4 r r) (kG r (s (kP r r) (s (ko r r) (s (kV r) ?_)))))));rcases iv a with ⟨f,a⟩|⟨f,a⟩
   ·rw [um f];refine jM r (jM r (s (kP r r) (s (kD r) (n (kH ?_)))));obtain rfl:=sm a;refine jC r (kL r) ?_;exact ⟨r,b⟩
   rw [uO f];refine kG r (s (mi r) (kG r (s (kT r r) (s (ko r r) (s (kD r) (n (kH ?_)))))));obtain rfl:=sm a;refine jC r (kL r) ?_;exact ⟨r,b⟩
  rw [uO e];refine jM r (jM r (kG r (s (ko r r) (s (ko r r) (s (kV r) (kG r (s (mi r) (kG r (s (kT r r) (s (ko r r) (s (kD r) (n (kH ?_)))))))))))));obtain rfl:=sm a;refine jC r (kL r) ?_;exact ⟨r,b⟩
 rw [uO c];refine jM r (jM r (s (ko r r) (s (kV r) (kG r (s (mi r) (kG r (s (CF r r) (kG r (s (kV r) ?_)))))))));rcases iv a with ⟨h,a⟩|⟨h,a⟩
 ·rw [um h];refine kG r (s (mi r) (kG r (s (M4 r r) (kG r (s (kP r r) (s (ko r r) (s (kV r) ?_)))))));rcases iv a with ⟨i,a⟩|⟨i,a⟩
  ·rw [um i];refine jM r (jM r (s (kP r r) (s (kD r) (n (kH ?_)))));obtain rfl:=sm a;refine jC r (kL r) ?_;exact ⟨r,b⟩
  rw [uO i];refine kG r (s (mi r) (kG r (s (kT r r) (s (ko r r) (s (kD r) (n (kH ?_)))))));obtain rfl:=sm a;refine jC r (kL r) ?_;exact ⟨r,b⟩
 rw [uO h];refine jM r (jM r (kG r (s (ko r r) (s (ko r r) (s (kV r) (kG r (s (mi r) (kG r (s (kT r r) (s (ko r r) (s (kD r) (n (kH ?_)))))))))))));obtain rfl:=sm a;refine jC r (kL r) ?_;exact ⟨r,b⟩
def MN (m:Int->Option Bool):Prop:=∀ {a d b c},Pre a d [] []->m b=some c-> Calls prog 53 #[.int .u8 b] a (pU fun v w=>v=.bool c/\Bx a w d (lH []) [] [])
def qI (fu:Nat)(a:Int):Option Bool:=if 48<=a then some (decide (a<=57)) else some false
theorem Dn (fu:Nat):MN (qI fu):=by
 intro f j e h d a;unfold qI at a;have b:=d.bx;clear d;generalize i:lH _=G at b ⊢;refine cf func53 r ?_;refine lG [(0,.int .u8 e)] ⟨r,y⟩ fun k=>?_;refine q (g (s (kD r) (n (q (g (s (mi r) (s (CF r r) (s (kV r) ?_))))))));rcases iv a with ⟨c,a⟩|⟨c,a⟩
 ·rw [um c];refine kG r (s (mi r) (kG r (s (M4 r r) (s (kP r r) (s (kD r) (n (kH ?_)))))));obtain rfl:=sm a;refine jC r (kL r) ?_;exact ⟨r,b⟩
 rw [uO c];refine jM r (jM r (s (ko r r) (s (kD r) (n (kH ?_)))));obtain rfl:=sm a;refine jC r (kL r) ?_;exact ⟨r,b⟩
def H6 (m:BA->Option Bool):Prop:=∀ {a d b c},Pre a d [] []->m b=some c-> Calls prog 54 #[T b] a (pU fun v w=>v=.bool c/\Bx a w d (lH []) [] [])
def p9 (fu:Nat)(a:BA):List BA→Nat→Option (Ld (Unit) (Bool))
 | [],_=>some (.go ())
 | b :: c,d=>
 if b=a then
  some (.out true)
 else
  p9 fu a c (d+1)
def vR (fu:Nat)(a:BA):Option Bool:=(p9 fu a ([(⟨#[114,101,99,111,114,100]⟩:BA),(⟨#[102,117,110,99]⟩:BA),(⟨#[118,97,114]⟩:BA),(⟨#[105,110,116]⟩:BA),(⟨#[105,102]⟩:BA),(⟨#[101,108,115,101]⟩:BA),(⟨#[119,104,105,108,101]⟩:BA),(⟨#[114,101,116,117,114,110]⟩:BA),(⟨#[116,104,114,111,119]⟩:BA),(⟨#[116,114,121]⟩:BA),(⟨#[99,97,116,99,104]⟩:BA),(⟨#[112,114,105,110,116]⟩:BA)]:List BA) 0).bind fun b=>b.el (fun _=>some false) (fun o=>some o)
theorem H7 (fu:Nat):H6 (vR fu):=by
 intro j I k C v d;unfold vR at d;have b:=v.bx;clear v;generalize D:lH _=G at b ⊢;refine cf func54 r ?_;refine lG [(0,T k)] ⟨r,y⟩ fun J=>?_;refine q (g (s (kD r) (n (q (q (g (nW (jO b [[T (⟨#[114,101,99,111,114,100]⟩:BA)],[T (⟨#[102,117,110,99]⟩:BA)],[T (⟨#[118,97,114]⟩:BA)],[T (⟨#[105,110,116]⟩:BA)],[T (⟨#[105,102]⟩:BA)],[T (⟨#[101,108,115,101]⟩:BA)],[T (⟨#[119,104,105,108,101]⟩:BA)],[T (⟨#[114,101,116,117,114,110]⟩:BA)],[T (⟨#[116,104,114,111,119]⟩:BA)],[T (⟨#[116,114,121]⟩:BA)],[T (⟨#[99,97,116,99,104]⟩:BA)],[T (⟨#[112,114,105,110,116]⟩:BA)]] ([(⟨#[114,101,99,111,114,100]⟩:BA),(⟨#[102,117,110,99]⟩:BA),(⟨#[118,97,114]⟩:BA),(⟨#[105,110,116]⟩:BA),(⟨#[105,102]⟩:BA),(⟨#[101,108,115,101]⟩:BA),(⟨#[119,104,105,108,101]⟩:BA),(⟨#[114,101,116,117,114,110]⟩:BA),(⟨#[116,104,114,111,119]⟩:BA),(⟨#[116,114,121]⟩:BA),(⟨#[99,97,116,99,104]⟩:BA),(⟨#[112,114,105,110,116]⟩:BA)]:List BA) (Gy r r r r r r r r r r r r) r r (by decide) ⟨r,⟨r,⟨r,⟨r,⟨r,⟨r,⟨r,⟨r,⟨r,⟨r,⟨r,⟨r,y⟩⟩⟩⟩⟩⟩⟩⟩⟩⟩⟩⟩) ?_)))))));rintro _ E ⟨m,rfl,b⟩;refine s (lT kZ r) (s (mi r) (n ?_));have z:=(b.vw 0 0 r r).bd;obtain ⟨x,a,d⟩:=bs d
 refine qR (fun f w=>Has f []/\Bx j w I G [O j.heap.size (ad m) 12 9 BA [[T (⟨#[114,101,99,111,114,100]⟩:BA)],[T (⟨#[102,117,110,99]⟩:BA)],[T (⟨#[118,97,114]⟩:BA)],[T (⟨#[105,110,116]⟩:BA)],[T (⟨#[105,102]⟩:BA)],[T (⟨#[101,108,115,101]⟩:BA)],[T (⟨#[119,104,105,108,101]⟩:BA)],[T (⟨#[114,101,116,117,114,110]⟩:BA)],[T (⟨#[116,104,114,111,119]⟩:BA)],[T (⟨#[116,114,121]⟩:BA)],[T (⟨#[99,97,116,99,104]⟩:BA)],[T (⟨#[112,114,105,110,116]⟩:BA)]]] [.els [[T (⟨#[114,101,99,111,114,100]⟩:BA)],[T (⟨#[102,117,110,99]⟩:BA)],[T (⟨#[118,97,114]⟩:BA)],[T (⟨#[105,110,116]⟩:BA)],[T (⟨#[105,102]⟩:BA)],[T (⟨#[101,108,115,101]⟩:BA)],[T (⟨#[119,104,105,108,101]⟩:BA)],[T (⟨#[114,101,116,117,114,110]⟩:BA)],[T (⟨#[116,104,114,111,119]⟩:BA)],[T (⟨#[116,114,121]⟩:BA)],[T (⟨#[99,97,116,99,104]⟩:BA)],[T (⟨#[112,114,105,110,116]⟩:BA)]] ([(⟨#[114,101,99,111,114,100]⟩:BA),(⟨#[102,117,110,99]⟩:BA),(⟨#[118,97,114]⟩:BA),(⟨#[105,110,116]⟩:BA),(⟨#[105,102]⟩:BA),(⟨#[101,108,115,101]⟩:BA),(⟨#[119,104,105,108,101]⟩:BA),(⟨#[114,101,116,117,114,110]⟩:BA),(⟨#[116,104,114,111,119]⟩:BA),(⟨#[116,114,121]⟩:BA),(⟨#[99,97,116,99,104]⟩:BA),(⟨#[112,114,105,110,116]⟩:BA)]:List BA)]/\Ld.go ()=x) (fun F o=>?_) ?_
 ·refine pG (kK (fun K f w=>∃ c,K=([(⟨#[114,101,99,111,114,100]⟩:BA),(⟨#[102,117,110,99]⟩:BA),(⟨#[118,97,114]⟩:BA),(⟨#[105,110,116]⟩:BA),(⟨#[105,102]⟩:BA),(⟨#[101,108,115,101]⟩:BA),(⟨#[119,104,105,108,101]⟩:BA),(⟨#[114,101,116,117,114,110]⟩:BA),(⟨#[116,104,114,111,119]⟩:BA),(⟨#[116,114,121]⟩:BA),(⟨#[99,97,116,99,104]⟩:BA),(⟨#[112,114,105,110,116]⟩:BA)]:List BA).length - c/\c<=([(⟨#[114,101,99,111,114,100]⟩:BA),(⟨#[102,117,110,99]⟩:BA),(⟨#[118,97,114]⟩:BA),(⟨#[105,110,116]⟩:BA),(⟨#[105,102]⟩:BA),(⟨#[101,108,115,101]⟩:BA),(⟨#[119,104,105,108,101]⟩:BA),(⟨#[114,101,116,117,114,110]⟩:BA),(⟨#[116,104,114,111,119]⟩:BA),(⟨#[116,114,121]⟩:BA),(⟨#[99,97,116,99,104]⟩:BA),(⟨#[112,114,105,110,116]⟩:BA)]:List BA).length/\Has f [(7,V (c:Int)),(0,T k),(5,.slice (ad m) ([(⟨#[114,101,99,111,114,100]⟩:BA),(⟨#[102,117,110,99]⟩:BA),(⟨#[118,97,114]⟩:BA),(⟨#[105,110,116]⟩:BA),(⟨#[105,102]⟩:BA),(⟨#[101,108,115,101]⟩:BA),(⟨#[119,104,105,108,101]⟩:BA),(⟨#[114,101,116,117,114,110]⟩:BA),(⟨#[116,104,114,111,119]⟩:BA),(⟨#[116,114,121]⟩:BA),(⟨#[99,97,116,99,104]⟩:BA),(⟨#[112,114,105,110,116]⟩:BA)]:List BA).length 12),(6,V ((([(⟨#[114,101,99,111,114,100]⟩:BA),(⟨#[102,117,110,99]⟩:BA),(⟨#[118,97,114]⟩:BA),(⟨#[105,110,116]⟩:BA),(⟨#[105,102]⟩:BA),(⟨#[101,108,115,101]⟩:BA),(⟨#[119,104,105,108,101]⟩:BA),(⟨#[114,101,116,117,114,110]⟩:BA),(⟨#[116,104,114,111,119]⟩:BA),(⟨#[116,114,121]⟩:BA),(⟨#[99,97,116,99,104]⟩:BA),(⟨#[112,114,105,110,116]⟩:BA)]:List BA).length:Nat):Int))]/\Bx j w I G [O j.heap.size (ad m) 12 9 BA [[T (⟨#[114,101,99,111,114,100]⟩:BA)],[T (⟨#[102,117,110,99]⟩:BA)],[T (⟨#[118,97,114]⟩:BA)],[T (⟨#[105,110,116]⟩:BA)],[T (⟨#[105,102]⟩:BA)],[T (⟨#[101,108,115,101]⟩:BA)],[T (⟨#[119,104,105,108,101]⟩:BA)],[T (⟨#[114,101,116,117,114,110]⟩:BA)],[T (⟨#[116,104,114,111,119]⟩:BA)],[T (⟨#[116,114,121]⟩:BA)],[T (⟨#[99,97,116,99,104]⟩:BA)],[T (⟨#[112,114,105,110,116]⟩:BA)]]] [.els [[T (⟨#[114,101,99,111,114,100]⟩:BA)],[T (⟨#[102,117,110,99]⟩:BA)],[T (⟨#[118,97,114]⟩:BA)],[T (⟨#[105,110,116]⟩:BA)],[T (⟨#[105,102]⟩:BA)],[T (⟨#[101,108,115,101]⟩:BA)],[T (⟨#[119,104,105,108,101]⟩:BA)],[T (⟨#[114,101,116,117,114,110]⟩:BA)],[T (⟨#[116,104,114,111,119]⟩:BA)],[T (⟨#[116,114,121]⟩:BA)],[T (⟨#[99,97,116,99,104]⟩:BA)],[T (⟨#[112,114,105,110,116]⟩:BA)]] ([(⟨#[114,101,99,111,114,100]⟩:BA),(⟨#[102,117,110,99]⟩:BA),(⟨#[118,97,114]⟩:BA),(⟨#[105,110,116]⟩:BA),(⟨#[105,102]⟩:BA),(⟨#[101,108,115,101]⟩:BA),(⟨#[119,104,105,108,101]⟩:BA),(⟨#[114,101,116,117,114,110]⟩:BA),(⟨#[116,104,114,111,119]⟩:BA),(⟨#[116,114,121]⟩:BA),(⟨#[99,97,116,99,104]⟩:BA),(⟨#[112,114,105,110,116]⟩:BA)]:List BA)]/\p9 fu k (([(⟨#[114,101,99,111,114,100]⟩:BA),(⟨#[102,117,110,99]⟩:BA),(⟨#[118,97,114]⟩:BA),(⟨#[105,110,116]⟩:BA),(⟨#[105,102]⟩:BA),(⟨#[101,108,115,101]⟩:BA),(⟨#[119,104,105,108,101]⟩:BA),(⟨#[114,101,116,117,114,110]⟩:BA),(⟨#[116,104,114,111,119]⟩:BA),(⟨#[116,114,121]⟩:BA),(⟨#[99,97,116,99,104]⟩:BA),(⟨#[112,114,105,110,116]⟩:BA)]:List BA).drop c) c=some x) (([(⟨#[114,101,99,111,114,100]⟩:BA),(⟨#[102,117,110,99]⟩:BA),(⟨#[118,97,114]⟩:BA),(⟨#[105,110,116]⟩:BA),(⟨#[105,102]⟩:BA),(⟨#[101,108,115,101]⟩:BA),(⟨#[119,104,105,108,101]⟩:BA),(⟨#[114,101,116,117,114,110]⟩:BA),(⟨#[116,104,114,111,119]⟩:BA),(⟨#[116,114,121]⟩:BA),(⟨#[99,97,116,99,104]⟩:BA),(⟨#[112,114,105,110,116]⟩:BA)]:List BA).length) ⟨0,r,uy _,⟨r,r,r,r,y⟩,b,a⟩ ?_)
  clear b a;rintro K f w ⟨c,rfl,A,hf,b,a⟩ H p;obtain ⟨J,rfl⟩:=mZ hf;rcases yZ c ([(⟨#[114,101,99,111,114,100]⟩:BA),(⟨#[102,117,110,99]⟩:BA),(⟨#[118,97,114]⟩:BA),(⟨#[105,110,116]⟩:BA),(⟨#[105,102]⟩:BA),(⟨#[101,108,115,101]⟩:BA),(⟨#[119,104,105,108,101]⟩:BA),(⟨#[114,101,116,117,114,110]⟩:BA),(⟨#[116,104,114,111,119]⟩:BA),(⟨#[116,114,121]⟩:BA),(⟨#[99,97,116,99,104]⟩:BA),(⟨#[112,114,105,110,116]⟩:BA)]:List BA).length with i | i
  ·obtain ⟨B,e⟩:=lZ (l:=([(⟨#[114,101,99,111,114,100]⟩:BA),(⟨#[102,117,110,99]⟩:BA),(⟨#[118,97,114]⟩:BA),(⟨#[105,110,116]⟩:BA),(⟨#[105,102]⟩:BA),(⟨#[101,108,115,101]⟩:BA),(⟨#[119,104,105,108,101]⟩:BA),(⟨#[114,101,116,117,114,110]⟩:BA),(⟨#[116,104,114,111,119]⟩:BA),(⟨#[116,114,121]⟩:BA),(⟨#[99,97,116,99,104]⟩:BA),(⟨#[112,114,105,110,116]⟩:BA)]:List BA)) i;rw [mD e,p9] at a;refine q (g (s (vI r r (by omega)) (n (q (jN r (wk (q (pG (q (g (s (kY kZ qp r r r (b.vw 0 0 r r) e) (s (jV vL r r ((uo (ds:=[T B]) (b.vw 0 0 r r) e (fun _ h=>h)) 0 _ r)) (s (mX r) ?_)))))))))))));refine n (q (g (s (lI r) (s (lI r) (s (tu r r) (n ?_))))));rcases iv a with ⟨t,a⟩|⟨t,a⟩
   ·refine jN (bt t) (q (g (s (kD r) (n (kH ?_)))));obtain rfl:=sm a;replace d:=oi d;obtain rfl:=sm d;refine jC r (kL r) ?_;exact ⟨r,b.ad [] []⟩
   refine jK (bf t) (wk (g (s (nH r r (by omega) (by omega)) (s (mi r) (n ?_)))));exact p (([(⟨#[114,101,99,111,114,100]⟩:BA),(⟨#[102,117,110,99]⟩:BA),(⟨#[118,97,114]⟩:BA),(⟨#[105,110,116]⟩:BA),(⟨#[105,102]⟩:BA),(⟨#[101,108,115,101]⟩:BA),(⟨#[119,104,105,108,101]⟩:BA),(⟨#[114,101,116,117,114,110]⟩:BA),(⟨#[116,104,114,111,119]⟩:BA),(⟨#[116,114,121]⟩:BA),(⟨#[99,97,116,99,104]⟩:BA),(⟨#[112,114,105,110,116]⟩:BA)]:List BA).length - (c+1)) _ _ (by omega) ⟨c+1,r,by omega,⟨r,r,r,r,y⟩,b,a⟩
  obtain rfl:c=([(⟨#[114,101,99,111,114,100]⟩:BA),(⟨#[102,117,110,99]⟩:BA),(⟨#[118,97,114]⟩:BA),(⟨#[105,110,116]⟩:BA),(⟨#[105,102]⟩:BA),(⟨#[101,108,115,101]⟩:BA),(⟨#[119,104,105,108,101]⟩:BA),(⟨#[114,101,116,117,114,110]⟩:BA),(⟨#[116,104,114,111,119]⟩:BA),(⟨#[116,114,121]⟩:BA),(⟨#[99,97,116,99,104]⟩:BA),(⟨#[112,114,105,110,116]⟩:BA)]:List BA).length:=by omega
  rw [lW,p9] at a;refine q (g (s (vH r r (by omega)) (n (q (jK r (uS ?_))))));exact o _ _ ⟨y,b,sm a⟩
 clear b;rintro f w ⟨hf,b,u⟩;obtain ⟨J,rfl⟩:=mZ hf;subst u;replace d:=gi d;refine q (g (s (kD r) (n (kH ?_))));obtain rfl:=sm d;refine jC r (kL r) ?_;exact ⟨r,b.ad [] []⟩
def OZ (m:BA->Int->Option BA):Prop:=∀ {a e b c d},Pre a e [] []->m b c=some d-> Calls prog 55 #[T b,V c] a (pU fun v w=>v=T d/\Bx a w e (lH []) [] [])
def oN (fu:Nat)(b:BA)(a:Int):List BA→Nat→Option (Ld (Unit) (BA))
 | [],_=>some (.go ())
 | c :: d,e=>
 (Py b a (wr (a+2))).bind fun f=>
 if f=c then
  some (.out c)
 else
  oN fu b a d (e+1)
def xk (fu:Nat)(a:BA)(b:Int):Option (Ld Unit BA):=if (wr (b+1)) < (a.size:Int) then (oN fu a b ([(⟨#[60,61]⟩:BA),(⟨#[61,61]⟩:BA),(⟨#[33,61]⟩:BA)]:List BA) 0).bind fun c=>c.el (fun _=>some (.go ())) (fun o=>some (.out o)) else some (.go ())
def oJ (fu:Nat)(b:BA)(a:Int):List FM→Nat→Option (Ld (Unit) (BA))
 | [],_=>some (.go ())
 | e :: f,h=>
 (ixs b a).bind fun c=>
 if c=e.n then
  (Py b a (wr (a+1))).bind fun d=>
  some (.out d)
 else
  oJ fu b a f (h+1)
def vM (fu:Nat)(a:BA)(b:Int):Option BA:=(xk fu a b).bind fun c=>c.el (fun _=>(oJ fu a b ([⟨40⟩,⟨41⟩,⟨123⟩,⟨125⟩,⟨91⟩,⟨93⟩,⟨44⟩,⟨59⟩,⟨58⟩,⟨46⟩,⟨43⟩,⟨45⟩,⟨42⟩,⟨47⟩,⟨37⟩,⟨38⟩,⟨124⟩,⟨94⟩,⟨60⟩,⟨61⟩,⟨33⟩]:List FM) 0).bind fun c=>c.el (fun _=>some (⟨#[]⟩:BA)) (fun o=>some o)) (fun o=>some o)
theorem Oh (fu:Nat):OZ (vM fu):=by
 intro k ah m o r0 R e;unfold vM at e;have a:=R.bx;clear R;generalize hG:lH _=G at a ⊢;refine cf func55 r ?_;refine lG [(0,T m),(1,V o)] ⟨r,r,y⟩ fun ai=>?_;refine q (g (s (mX r) (n (q ?_))));obtain ⟨W,c,e⟩:=bs e;refine qR (fun f w=>Has f [(0,T m),(1,V o)]/\Bx k w ah G [] []/\Ld.go ()=W) (fun J1 v=>?_) ?_
 ·unfold xk at c;refine q (g (s (mi r) (s (kU r r) (s (lI r) (s (EC vL r) (s (qC r r) (n ?_)))))));rcases iv c with ⟨C,c⟩|⟨C,c⟩
  ·refine jN (bt C) (q (g (nW (jO a [[T (⟨#[60,61]⟩:BA)],[T (⟨#[61,61]⟩:BA)],[T (⟨#[33,61]⟩:BA)]] ([(⟨#[60,61]⟩:BA),(⟨#[61,61]⟩:BA),(⟨#[33,61]⟩:BA)]:List BA) (Vm r r r) r r (by decide) ⟨r,⟨r,⟨r,y⟩⟩⟩) ?_)));rintro _ w3 ⟨D,rfl,a⟩;refine s (lT kZ r) (s (mi r) (n ?_));have X:=(a.vw 0 0 r r).bd;obtain ⟨S,d,c⟩:=bs c;refine qR (fun f w=>Has f [(0,T m),(1,V o)]/\Bx k w ah G [O k.heap.size (ad D) 3 9 BA [[T (⟨#[60,61]⟩:BA)],[T (⟨#[61,61]⟩:BA)],[T (⟨#[33,61]⟩:BA)]]] [.els [[T (⟨#[60,61]⟩:BA)],[T (⟨#[61,61]⟩:BA)],[T (⟨#[33,61]⟩:BA)]] ([(⟨#[60,61]⟩:BA),(⟨#[61,61]⟩:BA),(⟨#[33,61]⟩:BA)]:List BA)]/\Ld.go ()=S) (fun J4 E=>?_) ?_
   ·refine pG (kK (fun aj f w=>∃ i,aj=([(⟨#[60,61]⟩:BA),(⟨#[61,61]⟩:BA),(⟨#[33,61]⟩:BA)]:List BA).length - i/\i<=([(⟨#[60,61]⟩:BA),(⟨#[61,61]⟩:BA),(⟨#[33,61]⟩:BA)]:List BA).length/\Has f [(16,V (i:Int)),(0,T m),(1,V o),(14,.slice (ad D) ([(⟨#[60,61]⟩:BA),(⟨#[61,61]⟩:BA),(⟨#[33,61]⟩:BA)]:List BA).length 3),(15,V ((([(⟨#[60,61]⟩:BA),(⟨#[61,61]⟩:BA),(⟨#[33,61]⟩:BA)]:List BA).length:Nat):Int))]/\Bx k w ah G [O k.heap.size (ad D) 3 9 BA [[T (⟨#[60,61]⟩:BA)],[T (⟨#[61,61]⟩:BA)],[T (⟨#[33,61]⟩:BA)]]] [.els [[T (⟨#[60,61]⟩:BA)],[T (⟨#[61,61]⟩:BA)],[T (⟨#[33,61]⟩:BA)]] ([(⟨#[60,61]⟩:BA),(⟨#[61,61]⟩:BA),(⟨#[33,61]⟩:BA)]:List BA)]/\oN fu m o (([(⟨#[60,61]⟩:BA),(⟨#[61,61]⟩:BA),(⟨#[33,61]⟩:BA)]:List BA).drop i) i=some S) (([(⟨#[60,61]⟩:BA),(⟨#[61,61]⟩:BA),(⟨#[33,61]⟩:BA)]:List BA).length) ⟨0,r,uy _,⟨r,r,r,r,r,y⟩,a,d⟩ ?_);clear a d;rintro aj f w ⟨i,rfl,Y,hf,a,d⟩ K4 F;obtain ⟨ai,rfl⟩:=mZ hf;rcases yZ i ([(⟨#[60,61]⟩:BA),(⟨#[61,61]⟩:BA),(⟨#[33,61]⟩:BA)]:List BA).length with x | x
    ·obtain ⟨u4,p⟩:=lZ (l:=([(⟨#[60,61]⟩:BA),(⟨#[61,61]⟩:BA),(⟨#[33,61]⟩:BA)]:List BA)) x;rw [mD p,oN] at d;refine q (g (s (vI r r (by omega)) (n (q (jN r (wk (q (pG (q (g (s (kY kZ qp r r r (a.vw 0 0 r r) p) (s (jV vL r r ((uo (ds:=[T u4]) (a.vw 0 0 r r) p (fun _ h=>h)) 0 _ r)) (s (mX r) ?_)))))))))))));refine n (q (g (s (lI r) (s (mi r) (s (mi r) (s (kU r r) ?_))))));obtain ⟨g5,H,d⟩:=bs d;refine s (Yt vL r r r H) (s (lI r) (s (tu r r) (n ?_)));rcases iv d with ⟨I,d⟩|⟨I,d⟩
     ·refine jN (bt I) (q (g (s (lI r) (s (mX r) (n (kH ?_))))));obtain rfl:=sm d;replace c:=oi c;obtain rfl:=sm c;replace e:=oi e;obtain rfl:=sm e;refine jC r (kL r) ?_;exact ⟨r,a.ad [] []⟩
     refine jK (bf I) (wk (g (s (nH r r (by omega) (by omega)) (s (mi r) (n ?_)))));exact F (([(⟨#[60,61]⟩:BA),(⟨#[61,61]⟩:BA),(⟨#[33,61]⟩:BA)]:List BA).length - (i+1)) _ _ (by omega) ⟨i+1,r,by omega,⟨r,r,r,r,r,y⟩,a,d⟩
    obtain rfl:i=([(⟨#[60,61]⟩:BA),(⟨#[61,61]⟩:BA),(⟨#[33,61]⟩:BA)]:List BA).length:=by omega
    rw [lW,oN] at d;refine q (g (s (vH r r (by omega)) (n (q (jK r (uS ?_))))));exact E _ _ ⟨⟨r,r,y⟩,a,sm d⟩
   clear a;rintro f w ⟨hf,a,J⟩;obtain ⟨ai,rfl⟩:=mZ hf;subst J;replace c:=gi c;exact v _ _ ⟨⟨r,r,y⟩,a.ad [] [],sm c⟩
  refine jK (bf C) (wk ?_);exact v _ _ ⟨⟨r,r,y⟩,a,sm c⟩
 clear a;rintro f w ⟨hf,a,K⟩;obtain ⟨ai,rfl⟩:=mZ hf;subst K;replace e:=gi e;refine q (q (g (nW (jO a [[.int .u8 40],[.int .u8 41],[.int .u8 123],[.int .u8 125],[.int .u8 91],[.int .u8 93],[.int .u8 44],[.int .u8 59],[.int .u8 58],[.int .u8 46],[.int .u8 43],[.int .u8 45],[.int .u8 42],[.int .u8 47],[.int .u8 37],[.int .u8 38],[.int .u8 124],[.int .u8 94],[.int .u8 60],[.int .u8 61],[.int .u8 33]] ([⟨40⟩,⟨41⟩,⟨123⟩,⟨125⟩,⟨91⟩,⟨93⟩,⟨44⟩,⟨59⟩,⟨58⟩,⟨46⟩,⟨43⟩,⟨45⟩,⟨42⟩,⟨47⟩,⟨37⟩,⟨38⟩,⟨124⟩,⟨94⟩,⟨60⟩,⟨61⟩,⟨33⟩]:List FM) (PL r r r r r r r r r r r r r r r r r r r r r) r r (by decide) ⟨r,⟨r,⟨r,⟨r,⟨r,⟨r,⟨r,⟨r,⟨r,⟨r,⟨r,⟨r,⟨r,⟨r,⟨r,⟨r,⟨r,⟨r,⟨r,⟨r,⟨r,y⟩⟩⟩⟩⟩⟩⟩⟩⟩⟩⟩⟩⟩⟩⟩⟩⟩⟩⟩⟩⟩) ?_)));rintro _ w7 ⟨L,rfl,a⟩;refine nW (acR a 0 0 r r QK u5_ r) ?_;rintro _ w8 ⟨rfl,a⟩;try dsimp only [List.eraseIdx] at a
 refine s (lT QK r) (s (mi r) (n ?_));have a1:=(a.dl 0 r).bd;obtain ⟨U,b,e⟩:=bs e;refine qR (fun f w=>Has f []/\Bx k w ah G [] [.l (ad L) 21 ([⟨40⟩,⟨41⟩,⟨123⟩,⟨125⟩,⟨91⟩,⟨93⟩,⟨44⟩,⟨59⟩,⟨58⟩,⟨46⟩,⟨43⟩,⟨45⟩,⟨42⟩,⟨47⟩,⟨37⟩,⟨38⟩,⟨124⟩,⟨94⟩,⟨60⟩,⟨61⟩,⟨33⟩]:List FM)]/\Ld.go ()=U) (fun J9 M=>?_) ?_
 ·refine pG (kK (fun aj f w=>∃ j,aj=([⟨40⟩,⟨41⟩,⟨123⟩,⟨125⟩,⟨91⟩,⟨93⟩,⟨44⟩,⟨59⟩,⟨58⟩,⟨46⟩,⟨43⟩,⟨45⟩,⟨42⟩,⟨47⟩,⟨37⟩,⟨38⟩,⟨124⟩,⟨94⟩,⟨60⟩,⟨61⟩,⟨33⟩]:List FM).length - j/\j<=([⟨40⟩,⟨41⟩,⟨123⟩,⟨125⟩,⟨91⟩,⟨93⟩,⟨44⟩,⟨59⟩,⟨58⟩,⟨46⟩,⟨43⟩,⟨45⟩,⟨42⟩,⟨47⟩,⟨37⟩,⟨38⟩,⟨124⟩,⟨94⟩,⟨60⟩,⟨61⟩,⟨33⟩]:List FM).length/\Has f [(32,V (j:Int)),(0,T m),(1,V o),(30,.slice (ad L) ([⟨40⟩,⟨41⟩,⟨123⟩,⟨125⟩,⟨91⟩,⟨93⟩,⟨44⟩,⟨59⟩,⟨58⟩,⟨46⟩,⟨43⟩,⟨45⟩,⟨42⟩,⟨47⟩,⟨37⟩,⟨38⟩,⟨124⟩,⟨94⟩,⟨60⟩,⟨61⟩,⟨33⟩]:List FM).length 21),(31,V ((([⟨40⟩,⟨41⟩,⟨123⟩,⟨125⟩,⟨91⟩,⟨93⟩,⟨44⟩,⟨59⟩,⟨58⟩,⟨46⟩,⟨43⟩,⟨45⟩,⟨42⟩,⟨47⟩,⟨37⟩,⟨38⟩,⟨124⟩,⟨94⟩,⟨60⟩,⟨61⟩,⟨33⟩]:List FM).length:Nat):Int))]/\Bx k w ah G [] [.l (ad L) 21 ([⟨40⟩,⟨41⟩,⟨123⟩,⟨125⟩,⟨91⟩,⟨93⟩,⟨44⟩,⟨59⟩,⟨58⟩,⟨46⟩,⟨43⟩,⟨45⟩,⟨42⟩,⟨47⟩,⟨37⟩,⟨38⟩,⟨124⟩,⟨94⟩,⟨60⟩,⟨61⟩,⟨33⟩]:List FM)]/\oJ fu m o (([⟨40⟩,⟨41⟩,⟨123⟩,⟨125⟩,⟨91⟩,⟨93⟩,⟨44⟩,⟨59⟩,⟨58⟩,⟨46⟩,⟨43⟩,⟨45⟩,⟨42⟩,⟨47⟩,⟨37⟩,⟨38⟩,⟨124⟩,⟨94⟩,⟨60⟩,⟨61⟩,⟨33⟩]:List FM).drop j) j=some U) (([⟨40⟩,⟨41⟩,⟨123⟩,⟨125⟩,⟨91⟩,⟨93⟩,⟨44⟩,⟨59⟩,⟨58⟩,⟨46⟩,⟨43⟩,⟨45⟩,⟨42⟩,⟨47⟩,⟨37⟩,⟨38⟩,⟨124⟩,⟨94⟩,⟨60⟩,⟨61⟩,⟨33⟩]:List FM).length) ⟨0,r,uy _,⟨r,r,r,r,r,y⟩,a,b⟩ ?_);clear a b;rintro aj f w ⟨j,rfl,a2,hf,a,b⟩ K9 N;obtain ⟨ai,rfl⟩:=mZ hf;rcases yZ j ([⟨40⟩,⟨41⟩,⟨123⟩,⟨125⟩,⟨91⟩,⟨93⟩,⟨44⟩,⟨59⟩,⟨58⟩,⟨46⟩,⟨43⟩,⟨45⟩,⟨42⟩,⟨47⟩,⟨37⟩,⟨38⟩,⟨124⟩,⟨94⟩,⟨60⟩,⟨61⟩,⟨33⟩]:List FM).length with z | z
  ·obtain ⟨u9,t⟩:=lZ (l:=([⟨40⟩,⟨41⟩,⟨123⟩,⟨125⟩,⟨91⟩,⟨93⟩,⟨44⟩,⟨59⟩,⟨58⟩,⟨46⟩,⟨43⟩,⟨45⟩,⟨42⟩,⟨47⟩,⟨37⟩,⟨38⟩,⟨124⟩,⟨94⟩,⟨60⟩,⟨61⟩,⟨33⟩]:List FM)) z;rw [mD t,oJ] at b;refine q (g (s (vI r r (by omega)) (n (q (jN r (wk (q (pG (q (g (s (kY QK ti5 r r r (a.dl 0 r) t) (s (jV u5_ r r ((uo (ds:=[.int .u8 u9.n]) (a.dl 0 r) t (fun _ h=>h)) 0 _ r)) (s (xi r) ?_)))))))))))));refine n (q (g (s (lI r) (s (mi r) ?_))));obtain ⟨a4,A,b⟩:=bs b;refine s (JO vL r r A) (s (mi r) (s (kT r r) (n ?_)));rcases iv b with ⟨u,b⟩|⟨u,b⟩
   ·refine jN (bt u) (q (g (s (lI r) (s (mi r) (s (mi r) (s (kU r r) ?_))))));obtain ⟨a5,B,b⟩:=bs b;refine s (Yt vL r r r B) (s (mX r) (n (kH ?_)));obtain rfl:=sm b;replace e:=oi e;obtain rfl:=sm e;refine jC r (kL r) ?_;exact ⟨r,a.dp []⟩
   refine jK (bf u) (wk (g (s (nH r r (by omega) (by omega)) (s (mi r) (n ?_)))));exact N (([⟨40⟩,⟨41⟩,⟨123⟩,⟨125⟩,⟨91⟩,⟨93⟩,⟨44⟩,⟨59⟩,⟨58⟩,⟨46⟩,⟨43⟩,⟨45⟩,⟨42⟩,⟨47⟩,⟨37⟩,⟨38⟩,⟨124⟩,⟨94⟩,⟨60⟩,⟨61⟩,⟨33⟩]:List FM).length - (j+1)) _ _ (by omega) ⟨j+1,r,by omega,⟨r,r,r,r,r,y⟩,a,b⟩
  obtain rfl:j=([⟨40⟩,⟨41⟩,⟨123⟩,⟨125⟩,⟨91⟩,⟨93⟩,⟨44⟩,⟨59⟩,⟨58⟩,⟨46⟩,⟨43⟩,⟨45⟩,⟨42⟩,⟨47⟩,⟨37⟩,⟨38⟩,⟨124⟩,⟨94⟩,⟨60⟩,⟨61⟩,⟨33⟩]:List FM).length:=by omega
  rw [lW,oJ] at b;refine q (g (s (vH r r (by omega)) (n (q (jK r (uS ?_))))));exact M _ _ ⟨y,a,sm b⟩
 clear a;rintro f w ⟨hf,a,Q⟩;obtain ⟨ai,rfl⟩:=mZ hf;subst Q;replace e:=gi e;refine q (g (s (mX r) (n (kH ?_))));obtain rfl:=sm e;refine jC r (kL r) ?_;exact ⟨r,a.dp []⟩
def NU (m:Int->Option Int):Prop:=∀ {a d b c},Pre a d [] []->m b=some c-> Calls prog 85 #[V b] a (pU fun v w=>v=V c/\Bx a w d (lH []) [] [])
def zM (fu:Nat)(a:Int):Option (Ld Bool Int):=if a=14 then some (.go (decide (a=14))) else if a=15 then some (.go (decide (a=15))) else if a=16 then some (.go (decide (a=16))) else some (.go (decide (a=17)))
def zS (fu:Nat)(a:Int):Option (Ld Bool Int):=if a=11 then some (.go (decide (a=11))) else if a=12 then some (.go (decide (a=12))) else some (.go (decide (a=13)))
def zT (fu:Nat)(a:Int):Option (Ld Bool Int):=if a=6 then some (.go (decide (a=6))) else some (.go (decide (a=7)))
def BD (fu:Nat)(a:Int):Option Int:=(zM fu a).bind fun e=>e.el (fun c=>if c=true then some 1 else (zS fu a).bind fun e=>e.el (fun d=>if d=true then some 2 else (zT fu a).bind fun e=>e.el (fun b=>if b=true then some 3 else if a=8 then some 4 else if a=9 then some 4 else if a=10 then some 4 else if a=4 then some 5 else if a=5 then some 5 else some 6) (fun o=>some o)) (fun o=>some o)) (fun o=>some o)
theorem NG (fu:Nat):NU (BD fu):=by
 intro E a1 i W Q a;unfold BD at a;have c:=Q.bx;clear Q;generalize X:lH _=G at c ⊢;refine cf func85 r ?_;refine lG [(0,V i)] ⟨r,y⟩ fun a2=>?_;refine q (g (s (xi r) (n (q (q (g (s (mi r) (n (pG (q ?_))))))))));obtain ⟨R,b,a⟩:=bs a;refine qR (fun f w=>∃ j,Has f [(3,V i),(4,.bool j)]/\Bx E w a1 G [] []/\Ld.go j=R) (fun Y m=>?_) ?_
 ·unfold zM at b;refine q (g (s (kT r r) (s (kD r) (n ?_))));rcases iv b with ⟨F,b⟩|⟨F,b⟩
  ·refine jN (bt F) (wk ?_);exact m _ _ ⟨decide (i=14),⟨r,r,y⟩,c,sm b⟩
  refine jK (bf F) (q (g (s (kT r r) (s (kD r) (n ?_)))));rcases iv b with ⟨H,b⟩|⟨H,b⟩
  ·refine jN (bt H) (wk ?_);exact m _ _ ⟨decide (i=15),⟨r,r,y⟩,c,sm b⟩
  refine jK (bf H) (q (g (s (kT r r) (s (kD r) (n ?_)))));rcases iv b with ⟨I,b⟩|⟨I,b⟩
  ·refine jN (bt I) (wk ?_);exact m _ _ ⟨decide (i=16),⟨r,r,y⟩,c,sm b⟩
  refine jK (bf I) (g (s (kT r r) (s (kD r) (n ?_))));exact m _ _ ⟨decide (i=17),⟨r,r,y⟩,c,sm b⟩
 clear c;rintro f w ⟨j,hf,c,J⟩;obtain ⟨a2,rfl⟩:=mZ hf;subst J;replace a:=gi a;rcases iv a with ⟨B,a⟩|⟨B,a⟩
 ·refine jN (cb B) (q (g (s (xi r) (n (kH ?_)))));obtain rfl:=sm a;refine jC r (kL r) ?_;exact ⟨r,c⟩
 refine jK (wS B) (q ?_);obtain ⟨S,d,a⟩:=bs a;refine qR (fun f w=>∃ k,Has f [(3,V i),(9,.bool k)]/\Bx E w a1 G [] []/\Ld.go k=S) (fun J6 v=>?_) ?_
 ·unfold zS at d;refine q (g (s (kT r r) (s (kD r) (n ?_))));rcases iv d with ⟨K,d⟩|⟨K,d⟩
  ·refine jN (bt K) (wk ?_);exact v _ _ ⟨decide (i=11),⟨r,r,y⟩,c,sm d⟩
  refine jK (bf K) (q (g (s (kT r r) (s (kD r) (n ?_)))));rcases iv d with ⟨L,d⟩|⟨L,d⟩
  ·refine jN (bt L) (wk ?_);exact v _ _ ⟨decide (i=12),⟨r,r,y⟩,c,sm d⟩
  refine jK (bf L) (g (s (kT r r) (s (kD r) (n ?_))));exact v _ _ ⟨decide (i=13),⟨r,r,y⟩,c,sm d⟩
 clear c;rintro f w ⟨k,hf,c,M⟩;obtain ⟨a2,rfl⟩:=mZ hf;subst M;replace a:=gi a;rcases iv a with ⟨C,a⟩|⟨C,a⟩
 ·refine jN (cb C) (q (g (s (xi r) (n (kH ?_)))));obtain rfl:=sm a;refine jC r (kL r) ?_;exact ⟨r,c⟩
 refine jK (wS C) (q ?_);obtain ⟨N,e,a⟩:=bs a;refine qR (fun f w=>∃ h,Has f [(3,V i),(13,.bool h)]/\Bx E w a1 G [] []/\Ld.go h=N) (fun U u=>?_) ?_
 ·unfold zT at e;refine q (g (s (kT r r) (s (kD r) (n ?_))));rcases iv e with ⟨x,e⟩|⟨x,e⟩
  ·refine jN (bt x) (wk ?_);exact u _ _ ⟨decide (i=6),⟨r,r,y⟩,c,sm e⟩
  refine jK (bf x) (g (s (kT r r) (s (kD r) (n ?_))));exact u _ _ ⟨decide (i=7),⟨r,r,y⟩,c,sm e⟩
 clear c;rintro f w ⟨h,hf,c,D⟩;obtain ⟨a2,rfl⟩:=mZ hf;subst D;replace a:=gi a;rcases iv a with ⟨l,a⟩|⟨l,a⟩
 ·refine jN (cb l) (q (g (s (xi r) (n (kH ?_)))));obtain rfl:=sm a;refine jC r (kL r) ?_;exact ⟨r,c⟩
 refine jK (wS l) (q (q (g (s (kT r r) (s (kD r) (n ?_))))));rcases iv a with ⟨o,a⟩|⟨o,a⟩
 ·refine jN (bt o) (wk ?_);rw [um o];refine jN r (q (g (s (xi r) (n (kH ?_)))));obtain rfl:=sm a;refine jC r (kL r) ?_;exact ⟨r,c⟩
 refine jK (bf o) (q (g (s (kT r r) (s (kD r) (n ?_)))));rcases iv a with ⟨p,a⟩|⟨p,a⟩
 ·refine jN (bt p) (wk ?_);rw [um p];refine jN r (q (g (s (xi r) (n (kH ?_)))));obtain rfl:=sm a;refine jC r (kL r) ?_;exact ⟨r,c⟩
 refine jK (bf p) (g (s (kT r r) (s (kD r) (n ?_))));rcases iv a with ⟨z,a⟩|⟨z,a⟩
 ·refine jN (bt z) (q (g (s (xi r) (n (kH ?_)))));obtain rfl:=sm a;refine jC r (kL r) ?_;exact ⟨r,c⟩
 refine jK (bf z) (q (q (g (s (kT r r) (s (kD r) (n ?_))))));rcases iv a with ⟨t,a⟩|⟨t,a⟩
 ·refine jN (bt t) (wk ?_);rw [um t];refine jN r (q (g (s (xi r) (n (kH ?_)))));obtain rfl:=sm a;refine jC r (kL r) ?_;exact ⟨r,c⟩
 refine jK (bf t) (g (s (kT r r) (s (kD r) (n ?_))));rcases iv a with ⟨A,a⟩|⟨A,a⟩
 ·refine jN (bt A) (q (g (s (xi r) (n (kH ?_)))));obtain rfl:=sm a;refine jC r (kL r) ?_;exact ⟨r,c⟩
 refine jK (bf A) (wk (q (g (s (xi r) (n (kH ?_))))));obtain rfl:=sm a;refine jC r (kL r) ?_;exact ⟨r,c⟩
def Ia (m:BA->Option Ge):Prop:=∀ {d f e}{c:Ge},Pre d f [] []->m e=some c-> Calls prog 46 #[T e] d (pU fun v w=>∃ a b,v=.agg #[V c.e,V c.d,V c.g,T c.b,T c.c,Z a c.a b]/\Bx d w f (lH []) [] [.l a b c.a])
def oK (fu:Nat)(a:BA):Option Ge:=some (⟨1,0,0,a,be,([]:List Ge)⟩:Ge)
theorem qj (fu:Nat):Ia (oK fu):=by
 intro f o b h c e;unfold oK at e;have a:=c.bx;clear c;generalize i:lH _=G at a ⊢;refine cf func46 r ?_;refine lG [(0,T b)] ⟨r,y⟩ fun p=>?_;refine q (g (nW (nD a (jT jW)) ?_));rintro _ j ⟨k,rfl,a⟩;refine n (q (g (s (lI r) (s (GK r r) (lD (tb a 0 [V 1,V 0,V 0,T b,T be,sn] r jW r r r r r (show _=#[V 1,V 0,V 0,T b,T be,sn] from r)) ?_)))));intro m a;try dsimp only [List.set] at a
 refine n (kH ?_);replace a:=a.kF (d:=.l none 0 ([]:List Ge)) pX;obtain rfl:=sm e;refine jC r (vC r mq r jW r (a.bk 0 r)) ?_;exact ⟨none,0,r,a.arr [] r⟩
def Jt (m:Int->Option Ge):Prop:=∀ {d f e}{c:Ge},Pre d f [] []->m e=some c-> Calls prog 87 #[V e] d (pU fun v w=>∃ a b,v=.agg #[V c.e,V c.d,V c.g,T c.b,T c.c,Z a c.a b]/\Bx d w f (lH []) [] [.l a b c.a])
def sZ (fu:Nat)(a:Int):Option Ge:=some (⟨0,a,0,be,be,([]:List Ge)⟩:Ge)
theorem rZ (fu:Nat):Jt (sZ fu):=by
 intro f o b h c e;unfold sZ at e;have a:=c.bx;clear c;generalize i:lH _=G at a ⊢;refine cf func87 r ?_;refine lG [(0,V b)] ⟨r,y⟩ fun p=>?_;refine q (g (nW (nD a (jT jW)) ?_));rintro _ j ⟨k,rfl,a⟩;refine n (q (g (s (mi r) (s (KX r r) (lD (tb a 0 [V 0,V b,V 0,T be,T be,sn] r jW r r r r r (show _=#[V 0,V b,V 0,T be,T be,sn] from r)) ?_)))));intro m a;try dsimp only [List.set] at a
 refine n (kH ?_);replace a:=a.kF (d:=.l none 0 ([]:List Ge)) pX;obtain rfl:=sm e;refine jC r (vC r mq r jW r (a.bk 0 r)) ?_;exact ⟨none,0,r,a.arr [] r⟩
def Oo (m:(List Int)->Int->Option (List Int)):Prop:=∀ {f:World}{k h j a b i},Pre f k [] [.l a b h]->m h j=some i-> Calls prog 8 #[Z a h b,V j] f (pU fun v w=>∃ c d e,v=Z c i d/\Bx f w k (lH []) [O f.heap.size c d 3 Int e] [.els e i])
def zK (fu:Nat)(b:(List Int))(a:Int):Option (Ld Int (List Int)):=if a < (b.length:Int) then (ix b a).bind fun c=>some (.go c) else some (.go (wr (a+1)))
def vg (fu:Nat)(d:(List Int))(e:Int):Nat→Int→(List Int)→Option (Ld (Int × List Int) ((List Int)))
 | 0,_,_=>none
 | f+1,a,b=>
 if a < e then
  (zK fu d a).bind fun i=>i.el (fun c=>
  (app b ([c]:List Int)).bind fun h=>
  vg fu d e f (wr (a+1)) h
  ) (fun o=>some (.out o))
 else
  some (.go (a,b))
def Bz (fu:Nat)(c:(List Int))(d:Int):Option (List Int):=(vg fu c d fu 0 ([]:List Int)).bind fun e=>e.el (fun e=>iA e fun b a=>some a) (fun o=>some o)
theorem O5 (fu:Nat):Oo (Bz fu):=by
 intro x a6 v A j k X L u;unfold Bz at u;have m:=L.bx;clear L;generalize Y:lH _=G at m ⊢;refine cf func8 r ?_;refine lG [(0,Z j v k),(1,V A)] ⟨r,r,y⟩ fun a7=>?_;refine q (g (s (mh r) (n (q (g (s (mh r) (n (q (q (g (s (xi r) (n ?_))))))))))));replace m:=m.Cy Int 3;obtain ⟨M,e,u⟩:=bs u;refine qR (fun f w=>∃ i d a b c,Has f [(5,Z a d b)]/\Bx x w a6 G [O x.heap.size a b 3 Int c] [.els c d,.l j k v]/\Ld.go (i,d)=M) (fun J1 B=>?_) ?_
 ·refine pG (kK (fun a8 f w=>∃ i d a b c,Has f [(0,Z j v k),(1,V A),(5,Z a d b),(6,V i)]/\Bx x w a6 G [O x.heap.size a b 3 Int c] [.els c d,.l j k v]/\vg fu v A a8 i d=some M) fu ⟨0,([]:List Int),none,0,[],⟨r,r,r,r,y⟩,m,e⟩ ?_);clear m e;rintro C f w ⟨i,d,a,b,c,hf,m,e⟩ K1 D;obtain ⟨a7,rfl⟩:=mZ hf;cases C with
  | zero=>exact nn e
  | succ C=>
   rw [vg] at e;refine q (q (g (s (mi r) (s (mi r) (s (qC r r) (n ?_))))));rcases iv e with ⟨E,e⟩|⟨E,e⟩
   ·refine jN (bt E) (wk (q (pG (q (g (s (mi r) (s (kU r r) (s (xi r) (n (q ?_))))))))));obtain ⟨Q,o,e⟩:=bs e;refine qR (fun f w=>∃ p,Has f [(0,Z j v k),(1,V A),(5,Z a d b),(6,V i),(7,V p)]/\Bx x w a6 G [O x.heap.size a b 3 Int c] [.els c d,.l j k v]/\Ld.go p=Q) (fun J4 z=>?_) ?_
    ·unfold zK at o;refine q (g (s (mi r) (s (mK r) (s (lT ru r) (s (qC r r) (n ?_))))));rcases iv o with ⟨F,o⟩|⟨F,o⟩
     ·refine jN (bt F) (g (s (mK r) (s (mi r) ?_)));obtain ⟨N,t,o⟩:=bs o;obtain ⟨k6,H,t⟩:=kN t;refine s (kY ru ny r r H (m.dl 1 r) t) (s (jV Ir r r ((uo (ds:=[V N]) (m.dl 1 r) t (fun _ h=>h)) 0 _ r)) (s (xi r) (n ?_)));exact z _ _ ⟨N,⟨r,r,r,r,r,y⟩,m,sm o⟩
     refine jK (bf F) (wk ?_);exact z _ _ ⟨wr (i+1),⟨r,r,r,r,r,y⟩,m,sm o⟩
    clear m;rintro f w ⟨p,hf,m,I⟩;obtain ⟨a7,rfl⟩:=mZ hf;subst I;replace e:=gi e;refine g (s (mK r) (s (mi r) (nW (jO m [[V p]] ([p]:List Int) (yR r) r r (by decide) ⟨r,y⟩) ?_)));rintro _ w7 ⟨b7,rfl,m⟩;obtain ⟨R,J,e⟩:=bs e;refine nW (kR m 1 1 r r ru ny r (by decide) (by decide) (oH _) r r (m.AR 0 0 r r) J) ?_;rintro _ w8 ⟨S,U,W,rfl,m⟩;refine s (mh r) (n (g (s (mi r) (s (kU r r) (s (xi r) (n ?_))))));exact D C _ _ (CG _) ⟨wr (i+1),R,S,U,W,⟨r,r,r,r,y⟩,m.ad [1] [1,2],e⟩
   refine jK (bf E) (uS ?_);exact B _ _ ⟨i,d,a,b,c,⟨r,y⟩,m,sm e⟩
 clear m;rintro f w ⟨i,d,a,b,c,hf,m,K⟩;obtain ⟨a7,rfl⟩:=mZ hf;subst K;replace u:=gi u;replace u:=pi u;refine q (g (s (mK r) (s (mh r) (n (kH ?_)))));obtain rfl:=sm u;refine jC r (kL r) ?_;exact ⟨a,b,c,r,m.dp [0]⟩
def Nb (m:(List Int)->Option (List Int)):Prop:=∀ {e i f a b h},Pre e i [] [.l a b f]->m f=some h-> Calls prog 16 #[Z a f b] e (pU fun v w=>∃ c d,v=Z c h d/\Bx e w i (lH []) [] [.l c d h])
def AP (fu:Nat)(a:(List Int)):Option (List Int):=if 200 < (a.length:Int) then (sl a 0 200).bind fun b=>some b else some a
theorem LQ (fu:Nat):Nb (AP fu):=by
 intro A D v a b B p c;unfold AP at c;have e:=p.bx;clear p;generalize C:lH _=G at e ⊢;refine cf func16 r ?_;refine lG [(0,Z a v b)] ⟨r,y⟩ fun E=>?_;refine q (g (s (mh r) (n (q (q (g (s (mK r) (s (lT ru r) (s (wO r r) (n ?_))))))))));rcases iv c with ⟨j,c⟩|⟨j,c⟩
 ·refine jN (bt j) (q (g (s (mK r) ?_)));obtain ⟨k,m,c⟩:=bs c;obtain ⟨w,t,x,o,u,f,h⟩:=DF m;obtain rfl:w=0:=by omega
  have i:k.length=t:=by rw [<-h,yM,Er];omega
  replace e:=e.kF (d:=.l a b k) (by have F:=(e.dl 0 r).head f;rw [h] at F;exact F);refine s (show Yl _ _ _ _ _ _ _ _ _ (.slice a k.length b) from (congrArg (fun z=>Value.slice a z b) i).symm ▸ zw t ru ny r r o (q9 f (e.dl 1 r).cap)) (s (mh r) (n (kH ?_)));obtain rfl:=sm c;refine jC r (kL r) ?_;exact ⟨a,b,r,e.dp [0]⟩
 refine jK (bf j) (wk (q (g (s (mK r) (s (mh r) (n (kH ?_)))))));obtain rfl:=sm c;refine jC r (kL r) ?_;exact ⟨a,b,r,e⟩
def Oe (m:BA->Int->Int->Option (Int × Int)):Prop:=∀ {a h b c d R},Pre a h [] []->m b c d=some R-> Calls prog 33 #[T b,V c,V d] a (pU fun v w=>iA R fun e f=>v=.tuple #[V e,V f]/\Bx a w h (lH []) [] [])
def tC (fu:Nat)(b:BA)(a c:Int):Option (Ld Bool (Int × Int)):=if c=47 then if (wr (a+1)) < (b.size:Int) then (ixs b (wr (a+1))).bind fun d=>some (.go (decide (d=47))) else some (.go false) else some (.go false)
def tN (fu:Nat)(b:BA):Nat→Int→Option (Ld (Int) (Int × Int))
 | 0,_=>none
 | d+1,a=>
 if a < (b.size:Int) then
  (ixs b a).bind fun c=>
  if c≠10 then
   tN fu b d (wr (a+1))
  else
   some (.go a)
 else
  some (.go a)
def wU (fu:Nat)(a b c:Int):Option (Ld Unit (Int × Int)):=if c≠32 then if c≠9 then if c≠13 then if c≠10 then some (.out (a,b)) else some (.go ()) else some (.go ()) else some (.go ()) else some (.go ())
def nu (fu:Nat)(c:BA):Nat→Int→Int→Option (Ld (Int × Int) (Int × Int))
 | 0,_,_=>none
 | f+1,a,b=>
 if a < (c.size:Int) then
  (ixs c a).bind fun h=>
  (tC fu c a h).bind fun i=>i.el (fun d=>
  if d=true then
   (tN fu c fu a).bind fun i=>i.el (fun e=>
   nu fu c f e b
   ) (fun o=>some (.out o))
  else
   (wU fu a b h).bind fun i=>i.el (fun _=>
   if h=10 then
    nu fu c f (wr (a+1)) (wr (b+1))
   else
    nu fu c f (wr (a+1)) b
   ) (fun o=>some (.out o))
  ) (fun o=>some (.out o))
 else
  some (.go (a,b))
def tL (fu:Nat)(c:BA)(d e:Int):Option (Int × Int):=(nu fu c fu d e).bind fun f=>f.el (fun f=>iA f fun a b=>some (a,b)) (fun o=>some o)
theorem G7 (fu:Nat):Oe (tL fu):=by
 intro D aj o x1 x2 R hP l;unfold tL at l;have i:=hP.bx;clear hP;generalize hG:lH _=G at i ⊢;refine cf func33 r ?_;refine lG [(0,T o),(1,V x1),(2,V x2)] ⟨r,r,r,y⟩ fun ak=>?_;refine q (g (s (xi r) (s (xi r) (n (q ?_)))));obtain ⟨Y1,a,l⟩:=bs l;refine qR (fun f w=>∃ d c,Has f [(1,V d),(2,V c)]/\Bx D w aj G [] []/\Ld.go (d,c)=Y1) (fun J1 K=>?_) ?_
 ·refine pG (kK (fun al f w=>∃ d c,Has f [(0,T o),(1,V d),(2,V c)]/\Bx D w aj G [] []/\nu fu o al d c=some Y1) fu ⟨x1,x2,⟨r,r,r,y⟩,i,a⟩ ?_);clear i a;rintro E f w ⟨d,c,hf,i,a⟩ K1 p;obtain ⟨ak,rfl⟩:=mZ hf;cases E with
  | zero=>exact nn a
  | succ E=>
   rw [nu] at a;refine q (q (g (s (mi r) (s (lI r) (s (EC vL r) (s (qC r r) (n ?_)))))));rcases iv a with ⟨L,a⟩|⟨L,a⟩
   ·refine jN (bt L) (wk (pG (q (g (s (lI r) (s (mi r) ?_))))));obtain ⟨g3,M,a⟩:=bs a;refine s (JO vL r r M) (s (xi r) (n (q (q ?_))));obtain ⟨Y4,j,a⟩:=bs a;refine qR (fun f w=>∃ m,Has f [(0,T o),(1,V d),(2,V c),(8,.int .u8 g3),(31,.bool m)]/\Bx D w aj G [] []/\Ld.go m=Y4) (fun J4 t=>?_) ?_
    ·unfold tC at j;refine g (s (mi r) (s (kT r r) (s (kV r) ?_)));rcases iv j with ⟨N,j⟩|⟨N,j⟩
     ·rw [um N];refine kG r (s (mi r) (kG r (s (kU r r) (kG r (s (lI r) (kG r (s (EC vL r) (kG r (s (qC r r) (s (kP r r) (s (kV r) ?_)))))))))));rcases iv j with ⟨Q,j⟩|⟨Q,j⟩
      ·rw [um Q];refine kG r (s (lI r) (kG r (s (mi r) (kG r (s (kU r r) ?_)))));obtain ⟨g7,S,j⟩:=bs j;refine kG r (s (JO vL r r S) (kG r (s (kT r r) (s (kP r r) (n ?_)))));exact t _ _ ⟨decide (g7=47),⟨r,r,r,r,r,y⟩,i,sm j⟩
      rw [uO Q];refine jM r (jM r (jM r (jM r (jM r (s (ko r r) (n ?_))))));exact t _ _ ⟨false,⟨r,r,r,r,r,y⟩,i,sm j⟩
     rw [uO N];refine jM r (jM r (jM r (jM r (jM r (s (ko r r) (s (kV r) (jM r (jM r (jM r (jM r (jM r (s (ko r r) (n ?_)))))))))))));exact t _ _ ⟨false,⟨r,r,r,r,r,y⟩,i,sm j⟩
    clear i;rintro f w ⟨m,hf,i,U⟩;obtain ⟨ak,rfl⟩:=mZ hf;subst U;replace a:=gi a;rcases iv a with ⟨F,a⟩|⟨F,a⟩
    ·refine jN (cb F) (q ?_);obtain ⟨Y9,h,a⟩:=bs a;refine qR (fun f w=>∃ e,Has f [(0,T o),(1,V e),(2,V c)]/\Bx D w aj G [] []/\Ld.go e=Y9) (fun J9 H=>?_) ?_
     ·refine pG (kK (fun al f w=>∃ e,Has f [(0,T o),(1,V e),(2,V c)]/\Bx D w aj G [] []/\tN fu o al e=some Y9) fu ⟨d,⟨r,r,r,y⟩,i,h⟩ ?_);clear i h;rintro W f w ⟨e,hf,i,h⟩ K9 X;obtain ⟨ak,rfl⟩:=mZ hf;cases W with
      | zero=>exact nn h
      | succ W=>
       rw [tN] at h;refine q (q (g (s (mi r) (s (lI r) (s (EC vL r) (s (qC r r) (s (kV r) ?_)))))));rcases iv h with ⟨u,h⟩|⟨u,h⟩
       ·rw [um u];refine kG r (s (lI r) (kG r (s (mi r) ?_)));obtain ⟨aa,I,h⟩:=bs h;refine kG r (s (JO vL r r I) (kG r (s (rz r r) (s (kP r r) (n ?_)))));rcases iv h with ⟨v,h⟩|⟨v,h⟩
        ·refine jN (bt v) (wk (pG (g (s (mi r) (s (kU r r) (s (xi r) (n ?_)))))));exact X W _ _ (CG _) ⟨wr (e+1),⟨r,r,r,y⟩,i,h⟩
        refine jK (bf v) (uS ?_);exact H _ _ ⟨e,⟨r,r,r,y⟩,i,sm h⟩
       rw [uO u];refine jM r (jM r (jM r (jM r (s (ko r r) (n (jK r (uS ?_)))))));exact H _ _ ⟨e,⟨r,r,r,y⟩,i,sm h⟩
     clear i;rintro f w ⟨e,hf,i,Y⟩;obtain ⟨ak,rfl⟩:=mZ hf;subst Y;replace a:=gi a;refine uS ?_;exact p E _ _ (CG _) ⟨e,c,⟨r,r,r,y⟩,i,a⟩
    refine jK (wS F) (wk (q ?_));obtain ⟨a0,b,a⟩:=bs a;refine KA i (fun B f w=>Has f [(0,T o),(1,V d),(2,V c),(8,.int .u8 g3)]/\B w/\Ld.go ()=a0) (fun ab k=>?_) ?_
    ·unfold wU at b;refine q (g (s (mi r) (s (rz r r) (s (kV r) ?_))));rcases iv b with ⟨x,b⟩|⟨x,b⟩
     ·rw [um x];refine kG r (s (mi r) (kG r (s (rz r r) (s (kP r r) (s (kV r) ?_)))));rcases iv b with ⟨z,b⟩|⟨z,b⟩
      ·rw [um z];refine kG r (s (mi r) (kG r (s (rz r r) (s (kP r r) (s (kV r) ?_)))));rcases iv b with ⟨A,b⟩|⟨A,b⟩
       ·rw [um A];refine kG r (s (mi r) (kG r (s (rz r r) (s (kP r r) (n ?_)))));rcases iv b with ⟨B,b⟩|⟨B,b⟩
        ·refine jN (bt B) (q (g (s (mi r) (s (mi r) (s (xi r) (s (xi r) (n (kH ?_))))))));obtain rfl:=sm b;replace a:=oi a;obtain rfl:=sm a;replace l:=oi l;obtain rfl:=sm l;refine ng r (kL r) (kL r) ?_;exact nJ (⟨r,i⟩)
        refine jK (bf B) (wk ?_);exact k _ _ ⟨⟨r,r,r,r,y⟩,i,sm b⟩
       rw [uO A];refine jM r (jM r (s (ko r r) (n (jK r (wk ?_)))));exact k _ _ ⟨⟨r,r,r,r,y⟩,i,sm b⟩
      rw [uO z];refine jM r (jM r (s (ko r r) (s (kV r) (jM r (jM r (s (ko r r) (n (jK r (wk ?_)))))))));exact k _ _ ⟨⟨r,r,r,r,y⟩,i,sm b⟩
     rw [uO x];refine jM r (jM r (s (ko r r) (s (kV r) (jM r (jM r (s (ko r r) (s (kV r) (jM r (jM r (s (ko r r) (n (jK r (wk ?_)))))))))))));exact k _ _ ⟨⟨r,r,r,r,y⟩,i,sm b⟩
    clear i;rintro f w ⟨hf,i,J⟩;obtain ⟨ak,rfl⟩:=mZ hf;subst J;replace a:=gi a;refine q (q (g (s (mi r) (s (kT r r) (n ?_)))));rcases iv a with ⟨C,a⟩|⟨C,a⟩
    ·refine jN (bt C) (g (s (mi r) (s (kU r r) (s (xi r) (n (g (s (mi r) (s (kU r r) (s (xi r) (n ?_))))))))));exact p E _ _ (CG _) ⟨wr (d+1),wr (c+1),⟨r,r,r,y⟩,i,a⟩
    refine jK (bf C) (wk (g (s (mi r) (s (kU r r) (s (xi r) (n ?_))))));exact p E _ _ (CG _) ⟨wr (d+1),c,⟨r,r,r,y⟩,i,a⟩
   refine jK (bf L) (uS ?_);exact K _ _ ⟨d,c,⟨r,r,y⟩,i,sm a⟩
 clear i;rintro f w ⟨d,c,hf,i,a1⟩;obtain ⟨ak,rfl⟩:=mZ hf;subst a1;replace l:=gi l;replace l:=pi l;refine q (g (s (mi r) (s (mi r) (s (xi r) (s (xi r) (n (kH ?_)))))));obtain rfl:=sm l;refine ng r (kL r) (kL r) ?_;exact nJ (⟨r,i⟩)
def Ql (m:BA->Int->Int->Option (kE × Int × Int)):Prop:=∀ {b i c d e R},Pre b i [] []->m c d e=some R-> Calls prog 34 #[T c,V d,V e] b (pU fun v w=>iA R fun a R=>iA R fun f h=>v=.tuple #[.agg #[V a.c,V a.f,T a.a,V a.d],V f,V h]/\Bx b w i (lH []) [] [])
def pO (fu:Nat)(d:BA)(a:Int):Option (Ld Bool (kE × Int × Int)):=if a < (d.size:Int) then (ixs d a).bind fun f=>(oO fu f).bind fun c=>if c=true then some (.go true) else (ixs d a).bind fun e=>(qI fu e).bind fun b=>some (.go b) else some (.go false)
def nR (fu:Nat)(c:BA):Nat→Int→Option (Ld (Int) (kE × Int × Int))
 | 0,_=>none
 | d+1,a=>
 (pO fu c a).bind fun e=>e.el (fun b=>
 if b=true then
  nR fu c d (wr (a+1))
 else
  some (.go a)
 ) (fun o=>some (.out o))
def pI (fu:Nat)(d:BA)(f:Int):Nat→Int→Int→Option (Ld (Int × Int) (kE × Int × Int))
 | 0,_,_=>none
 | e+1,a,b=>
 if a < (d.size:Int) then
  (ixs d a).bind fun h=>
  (qI fu h).bind fun c=>
  if c=true then
   if (wr (a - f)) < 18 then
    (ixs d a).bind fun i=>
    pI fu d f e (wr (a+1)) (wr ((wr (10 * b))+(wr (w8 (i - 48)))))
   else
    pI fu d f e (wr (a+1)) b
  else
   some (.go (a,b))
 else
  some (.go (a,b))
def Ba (fu:Nat)(d:BA)(a:Int):Option (Ld Unit (kE × Int × Int)):=if a < (d.size:Int) then (ixs d a).bind fun c=>(oO fu c).bind fun b=>if b=true then some (.out ((⟨0,0,be,0⟩:kE),0,6)) else some (.go ()) else some (.go ())
def tY (fu:Nat)(e:BA)(d l:Int):Option (kE × Int × Int):=(ixs e d).bind fun p=>(oO fu p).bind fun k=>if k=true then (nR fu e fu d).bind fun t=>t.el (fun c=>if 12 < (wr (c - d)) then some ((⟨0,0,be,0⟩:kE),0,5) else (Py e d c).bind fun f=>(vR fu f).bind fun h=>if h=true then some ((⟨3,l,f,0⟩:kE),c,0) else some ((⟨1,l,f,0⟩:kE),c,0)) (fun o=>some o) else (ixs e d).bind fun m=>(qI fu m).bind fun i=>if i=true then (pI fu e d fu d 0).bind fun t=>t.el (fun t=>iA t fun a j=>if 18 < (wr (a - d)) then some ((⟨0,0,be,0⟩:kE),0,5) else (Ba fu e a).bind fun t=>t.el (fun _=>some ((⟨2,l,be,j⟩:kE),a,0)) (fun o=>some o)) (fun o=>some o) else (vM fu e d).bind fun b=>if b=(⟨#[]⟩:BA) then some ((⟨0,0,be,0⟩:kE),0,6) else some ((⟨4,l,b,0⟩:kE),wr (d+(b.size:Int)),0)
theorem P7 (fu:Nat):Ql (tY fu):=by
 intro X b8 F C l R hP d;unfold tY at d;have a:=hP.bx;clear hP;generalize hG:lH _=G at a ⊢;refine cf func34 r ?_;refine lG [(0,T F),(1,V C),(2,V l)] ⟨r,r,r,y⟩ fun b9=>?_;refine q (g (nW (nD a (jT qM)) ?_));rintro _ w1 ⟨o,rfl,a⟩;refine s (xi r) (s (xi r) (n (q (g (s (mi r) (s (xi r) (n (q (q (g (s (lI r) (s (mi r) ?_))))))))))));obtain ⟨g2,a9,d⟩:=bs d;refine s (JO vL r r a9) ?_;obtain ⟨ax,h3,d⟩:=bs d;refine sc (ec TN r) (Cu fu (a.pr [] [0] [] r) h3) ?_;rintro _ w3 ⟨rfl,m⟩;replace a:=a.cl [] [0] r m r;try dsimp only [pick,nth,ca,na] at a
 refine n ?_;rcases iv d with ⟨Y,d⟩|⟨Y,d⟩
 ·refine jN (cb Y) (q ?_);obtain ⟨Y5,k,d⟩:=bs d;refine qR (fun f w=>∃ j,Has f [(0,T F),(1,V j),(2,V l),(6,Pt o),(9,V C)]/\Bx X w b8 G [.box o 109 #[V 0,V 0,T be,V 0]] []/\Ld.go j=Y5) (fun J5 aa=>?_) ?_
  ·refine pG (kK (fun ba f w=>∃ j,Has f [(0,T F),(1,V j),(2,V l),(6,Pt o),(9,V C)]/\Bx X w b8 G [.box o 109 #[V 0,V 0,T be,V 0]] []/\nR fu F ba j=some Y5) fu ⟨C,⟨r,r,r,r,r,y⟩,a,k⟩ ?_);clear a k;rintro n5 f w ⟨j,hf,a,k⟩ K5 ac;obtain ⟨b9,rfl⟩:=mZ hf;cases n5 with
   | zero=>exact nn k
   | succ n5=>
    rw [nR] at k;refine q (q ?_);obtain ⟨Y6,i,k⟩:=bs k;refine qR (fun f w=>∃ p,Has f [(0,T F),(1,V j),(2,V l),(6,Pt o),(9,V C),(33,.bool p)]/\Bx X w b8 G [.box o 109 #[V 0,V 0,T be,V 0]] []/\Ld.go p=Y6) (fun J6 K=>?_) ?_
    ·unfold pO at i;refine g (s (mi r) (s (lI r) (s (EC vL r) (s (qC r r) (s (kV r) ?_)))));rcases iv i with ⟨h7,i⟩|⟨h7,i⟩
     ·rw [um h7];refine kG r (s (lI r) (kG r (s (mi r) ?_)));obtain ⟨g8,af,i⟩:=bs i;refine kG r (s (JO vL r r af) ?_);obtain ⟨az,h9,i⟩:=bs i;refine kG r ?_;refine sc (ec TN r) (Cu fu (a.pr [] [0] [] r) h9) ?_;rintro _ w9 ⟨rfl,m⟩;replace a:=a.cl [] [0] r m r;try dsimp only [pick,nth,ca,na] at a
      refine kG r (s (kV r) ?_);rcases iv i with ⟨t,i⟩|⟨t,i⟩
      ·rw [t];refine jM r (jM r (jM r (jM r (kG r (s (kP r r) (s (kP r r) (n ?_)))))));exact K _ _ ⟨true,⟨r,r,r,r,r,r,y⟩,a,sm i⟩
      replace t:=nt t;rw [t];refine kG r (s (lI r) (kG r (s (mi r) ?_)));obtain ⟨aD,a0,i⟩:=bs i;refine kG r (s (JO vL r r a0) ?_);obtain ⟨L,ag,i⟩:=bs i;refine kG r ?_;refine sc (ec Um r) (Dn fu (a.pr [] [0] [] r) ag) ?_;rintro _ aE ⟨rfl,m⟩;replace a:=a.cl [] [0] r m r;try dsimp only [pick,nth,ca,na] at a
      refine kG r (s (ko r r) (s (kP r r) (n ?_)));exact K _ _ ⟨L,⟨r,r,r,r,r,r,y⟩,a,sm i⟩
     rw [uO h7];refine jM r (jM r (jM r (jM r (jM r (jM r (jM r (jM r (jM r (jM r (s (ko r r) (n ?_)))))))))));exact K _ _ ⟨false,⟨r,r,r,r,r,r,y⟩,a,sm i⟩
    clear a;rintro f w ⟨p,hf,a,ah⟩;obtain ⟨b9,rfl⟩:=mZ hf;subst ah;replace k:=gi k;rcases iv k with ⟨u,k⟩|⟨u,k⟩
    ·refine jN (cb u) (wk (pG (g (s (mi r) (s (kU r r) (s (xi r) (n ?_)))))));exact ac n5 _ _ (CG _) ⟨wr (j+1),⟨r,r,r,r,r,y⟩,a,k⟩
    refine jK (wS u) (uS ?_);exact aa _ _ ⟨j,⟨r,r,r,r,r,y⟩,a,sm k⟩
  clear a;rintro f w ⟨j,hf,a,ai⟩;obtain ⟨b9,rfl⟩:=mZ hf;subst ai;replace d:=gi d;refine q (q (g (s (mi r) (s (mi r) (s (wY r r) (s (wO r r) (n ?_)))))));rcases iv d with ⟨M,d⟩|⟨M,d⟩
  ·refine jN (bt M) (q (g (s Md (lD (tb a 0 [V 0,V 0,T be,V 0] r qM r r r r r (show _=#[V 0,V 0,T be,V 0] from r)) ?_))));intro aF a;try dsimp only [List.set] at a
   refine s (xi r) (s (xi r) (n (kH ?_)));obtain rfl:=sm d;refine zu r (vC r Ce r qM r (a.bk 0 r)) (kL r) (kL r) ?_;exact nJ (nJ ⟨r,a.arr [] r⟩)
  refine jK (bf M) (wk (q (g (s (lI r) (s (mi r) (s (mi r) ?_))))));obtain ⟨D,a1,d⟩:=bs d;refine s (Yt vL r r r a1) (s (mX r) (n (q (q (g (s (lI r) ?_))))));obtain ⟨aj,ak,d⟩:=bs d;refine sc (ec abT r) (H7 fu (a.pr [] [0] [] r) ak) ?_;rintro _ aG ⟨rfl,m⟩;replace a:=a.cl [] [0] r m r;try dsimp only [pick,nth,ca,na] at a
  refine n ?_;rcases iv d with ⟨v,d⟩|⟨v,d⟩
  ·refine jN (cb v) (q (g (s (mi r) (s (lI r) (s (D6 r r r) (s (mi r) (lD (tb a 0 [V 3,V l,T D,V 0] r qM r r r r r (show _=#[V 3,V l,T D,V 0] from r)) ?_)))))));intro aH a;try dsimp only [List.set] at a
   refine s (xi r) (s (xi r) (n (kH ?_)));obtain rfl:=sm d;refine zu r (vC r Ce r qM r (a.bk 0 r)) (kL r) (kL r) ?_;exact nJ (nJ ⟨r,a.arr [] r⟩)
  refine jK (wS v) (wk (q (g (s (mi r) (s (lI r) (s (D6 r r r) (s (mi r) (lD (tb a 0 [V 1,V l,T D,V 0] r qM r r r r r (show _=#[V 1,V l,T D,V 0] from r)) ?_))))))));intro aI a;try dsimp only [List.set] at a
  refine s (xi r) (s (xi r) (n (kH ?_)));obtain rfl:=sm d;refine zu r (vC r Ce r qM r (a.bk 0 r)) (kL r) (kL r) ?_;exact nJ (nJ ⟨r,a.arr [] r⟩)
 refine jK (wS Y) (wk (q (q (g (s (lI r) (s (mi r) ?_))))));obtain ⟨aJ,a2,d⟩:=bs d;refine s (JO vL r r a2) ?_;obtain ⟨al,am,d⟩:=bs d;refine sc (ec Um r) (Dn fu (a.pr [] [0] [] r) am) ?_;rintro _ aK ⟨rfl,m⟩;replace a:=a.cl [] [0] r m r;try dsimp only [pick,nth,ca,na] at a
 refine n ?_;rcases iv d with ⟨x,d⟩|⟨x,d⟩
 ·refine jN (cb x) (q (g (s (xi r) (n (q ?_)))));obtain ⟨a3,b,d⟩:=bs d;refine qR (fun f w=>∃ e c,Has f [(0,T F),(1,V e),(2,V l),(6,Pt o),(9,V C),(11,V c)]/\Bx X w b8 G [.box o 109 #[V 0,V 0,T be,V 0]] []/\Ld.go (e,c)=a3) (fun aL H=>?_) ?_
  ·refine pG (kK (fun ba f w=>∃ e c,Has f [(0,T F),(1,V e),(2,V l),(6,Pt o),(9,V C),(11,V c)]/\Bx X w b8 G [.box o 109 #[V 0,V 0,T be,V 0]] []/\pI fu F C ba e c=some a3) fu ⟨C,0,⟨r,r,r,r,r,r,y⟩,a,b⟩ ?_);clear a b;rintro E f w ⟨e,c,hf,a,b⟩ aM I;obtain ⟨b9,rfl⟩:=mZ hf;cases E with
   | zero=>exact nn b
   | succ E=>
    rw [pI] at b;refine q (q (g (s (mi r) (s (lI r) (s (EC vL r) (s (qC r r) (s (kV r) ?_)))))));rcases iv b with ⟨N,b⟩|⟨N,b⟩
    ·rw [um N];refine kG r (s (lI r) (kG r (s (mi r) ?_)));obtain ⟨aN,a4,b⟩:=bs b;refine kG r (s (JO vL r r a4) ?_);obtain ⟨an,ao,b⟩:=bs b;refine kG r ?_;refine sc (ec Um r) (Dn fu (a.pr [] [0] [] r) ao) ?_;rintro _ aO ⟨rfl,m⟩;replace a:=a.cl [] [0] r m r;try dsimp only [pick,nth,ca,na] at a
     refine s (kP r r) (n ?_);rcases iv b with ⟨z,b⟩|⟨z,b⟩
     ·refine jN (cb z) (wk (pG (q (q (g (s (mi r) (s (mi r) (s (wY r r) (s (qC r r) (n ?_))))))))));rcases iv b with ⟨Q,b⟩|⟨Q,b⟩
      ·refine jN (bt Q) (g (s (mi r) (s (Ya r r) (s (lI r) (s (mi r) ?_)))));obtain ⟨ap,a5,b⟩:=bs b;refine s (JO vL r r a5) (s (aaj r r) (s (ads ⟨_,u5_⟩ Ir r) (s (kU r r) (s (xi r) (n (g (s (mi r) (s (kU r r) (s (xi r) (n ?_))))))))));exact I E _ _ (CG _) ⟨wr (e+1),wr ((wr (10 * c))+(wr (w8 (ap - 48)))),⟨r,r,r,r,r,r,y⟩,a,b⟩
      refine jK (bf Q) (wk (g (s (mi r) (s (kU r r) (s (xi r) (n ?_))))));exact I E _ _ (CG _) ⟨wr (e+1),c,⟨r,r,r,r,r,r,y⟩,a,b⟩
     refine jK (wS z) (uS ?_);exact H _ _ ⟨e,c,⟨r,r,r,r,r,r,y⟩,a,sm b⟩
    rw [uO N];refine jM r (jM r (jM r (jM r (s (ko r r) (n (jK r (uS ?_)))))));exact H _ _ ⟨e,c,⟨r,r,r,r,r,r,y⟩,a,sm b⟩
  clear a;rintro f w ⟨e,c,hf,a,a6⟩;obtain ⟨b9,rfl⟩:=mZ hf;subst a6;replace d:=gi d;replace d:=pi d;refine q (q (g (s (mi r) (s (mi r) (s (wY r r) (s (wO r r) (n ?_)))))));rcases iv d with ⟨S,d⟩|⟨S,d⟩
  ·refine jN (bt S) (q (g (s Md (lD (tb a 0 [V 0,V 0,T be,V 0] r qM r r r r r (show _=#[V 0,V 0,T be,V 0] from r)) ?_))));intro aP a;try dsimp only [List.set] at a
   refine s (xi r) (s (xi r) (n (kH ?_)));obtain rfl:=sm d;refine zu r (vC r Ce r qM r (a.bk 0 r)) (kL r) (kL r) ?_;exact nJ (nJ ⟨r,a.arr [] r⟩)
  refine jK (bf S) (wk (q ?_));obtain ⟨aq,h,d⟩:=bs d;refine qR (fun f w=>Has f [(1,V e),(2,V l),(6,Pt o),(11,V c)]/\Bx X w b8 G [.box o 109 #[V 0,V 0,T be,V 0]] []/\Ld.go ()=aq) (fun aQ J=>?_) ?_
  ·unfold Ba at h;refine q (g (s (mi r) (s (lI r) (s (EC vL r) (s (qC r r) (s (kV r) ?_))))));rcases iv h with ⟨U,h⟩|⟨U,h⟩
   ·rw [um U];refine kG r (s (lI r) (kG r (s (mi r) ?_)));obtain ⟨aR,a7,h⟩:=bs h;refine kG r (s (JO vL r r a7) ?_);obtain ⟨ar,au,h⟩:=bs h;refine kG r ?_;refine sc (ec TN r) (Cu fu (a.pr [] [0] [] r) au) ?_;rintro _ aS ⟨rfl,m⟩;replace a:=a.cl [] [0] r m r;try dsimp only [pick,nth,ca,na] at a
    refine s (kP r r) (n ?_);rcases iv h with ⟨A,h⟩|⟨A,h⟩
    ·refine jN (cb A) (q (g (s Md (lD (tb a 0 [V 0,V 0,T be,V 0] r qM r r r r r (show _=#[V 0,V 0,T be,V 0] from r)) ?_))));intro aT a;try dsimp only [List.set] at a
     refine s (xi r) (s (xi r) (n (kH ?_)));obtain rfl:=sm h;replace d:=oi d;obtain rfl:=sm d;refine zu r (vC r Ce r qM r (a.bk 0 r)) (kL r) (kL r) ?_;exact nJ (nJ ⟨r,a.arr [] r⟩)
    refine jK (wS A) (wk ?_);exact J _ _ ⟨⟨r,r,r,r,y⟩,a,sm h⟩
   rw [uO U];refine jM r (jM r (jM r (jM r (s (ko r r) (n (jK r (wk ?_)))))));exact J _ _ ⟨⟨r,r,r,r,y⟩,a,sm h⟩
  clear a;rintro f w ⟨hf,a,a8⟩;obtain ⟨b9,rfl⟩:=mZ hf;subst a8;replace d:=gi d;refine q (g (s (mi r) (s (mi r) (s (Ol r r r) (s (mi r) (lD (tb a 0 [V 2,V l,T be,V c] r qM r r r r r (show _=#[V 2,V l,T be,V c] from r)) ?_))))));intro aU a;try dsimp only [List.set] at a
  refine s (xi r) (s (xi r) (n (kH ?_)));obtain rfl:=sm d;refine zu r (vC r Ce r qM r (a.bk 0 r)) (kL r) (kL r) ?_;exact nJ (nJ ⟨r,a.arr [] r⟩)
 refine jK (wS x) (wk (q (g (s (lI r) (s (mi r) ?_)))));obtain ⟨B,av,d⟩:=bs d;refine sc (ec acG r) (Oh fu (a.pr [] [0] [] r) av) ?_;rintro _ aV ⟨rfl,m⟩;replace a:=a.cl [] [0] r m r;try dsimp only [pick,nth,ca,na] at a
 refine s (mX r) (n (q (q (g (s (lI r) (s (tu r r) (n ?_)))))));rcases iv d with ⟨W,d⟩|⟨W,d⟩
 ·refine jN (bt W) (q (g (s Md (lD (tb a 0 [V 0,V 0,T be,V 0] r qM r r r r r (show _=#[V 0,V 0,T be,V 0] from r)) ?_))));intro aW a;try dsimp only [List.set] at a
  refine s (xi r) (s (xi r) (n (kH ?_)));obtain rfl:=sm d;refine zu r (vC r Ce r qM r (a.bk 0 r)) (kL r) (kL r) ?_;exact nJ (nJ ⟨r,a.arr [] r⟩)
 refine jK (bf W) (wk (q (g (s (mi r) (s (lI r) (s (D6 r r r) (s (mi r) (s (lI r) (s (EC vL r) (s (kU r r) (lD (tb a 0 [V 4,V l,T B,V 0] r qM r r r r r (show _=#[V 4,V l,T B,V 0] from r)) ?_)))))))))));intro aX a;try dsimp only [List.set] at a
 refine s (xi r) (s (xi r) (n (kH ?_)));obtain rfl:=sm d;refine zu r (vC r Ce r qM r (a.bk 0 r)) (kL r) (kL r) ?_;exact nJ (nJ ⟨r,a.arr [] r⟩)
def N8 (m:BA->Option ((List kE) × Int × Int)):Prop:=∀ {d:World}{j e R},Pre d j [] []->m e=some R-> Calls prog 24 #[T e] d (pU fun v w=>iA R fun f R=>iA R fun h i=>∃ a b c,v=.tuple #[Z a f b,V h,V i]/\Bx d w j (lH []) [O d.heap.size a b 109 kE c] [.els c f])
def rG (fu:Nat)(b:List kE)(a:Int):Option (Ld Int ((List kE) × Int × Int)):=if a=0 then if 2000<=(b.length:Int) then some (.go 5) else some (.go a) else some (.go a)
def nk (fu:Nat)(k:BA):Nat→Int→Int→(List kE)→Option (Ld (Int × Int × List kE) ((List kE) × Int × Int))
 | 0,_,_,_=>none
 | m+1,b,a,c=>
 if b < (k.size:Int) then
  (tY fu k b a).bind fun p=>
  iA p fun h p=>iA p fun i j=>
  (rG fu c j).bind fun p=>p.el (fun d=>
  if d≠0 then
   some (.out (([]:List kE),a,d))
  else
   (app c ([h]:List kE)).bind fun l=>
   (tL fu k i a).bind fun p=>
   iA p fun e f=>
   nk fu k m e f l
  ) (fun o=>some (.out o))
 else
  some (.go (b,a,c))
def xM (fu:Nat)(e:BA):Option ((List kE) × Int × Int):=if 4000 < (e.size:Int) then some (([]:List kE),0,5) else (tL fu e 0 1).bind fun i=>iA i fun a b=>(nk fu e fu a b ([]:List kE)).bind fun i=>i.el (fun i=>iA i fun h i=>iA i fun c d=>(app d ([(⟨0,c,be,0⟩:kE)]:List kE)).bind fun f=>some (f,0,0)) (fun o=>some o)
theorem O1 (fu:Nat):N8 (xM fu):=by
 intro B au K R hP l;unfold xM at l;have c:=hP.bx;clear hP;generalize hG:lH _=G at c ⊢;refine cf func24 r ?_;refine lG [(0,T K)] ⟨r,y⟩ fun av=>?_;refine q (g (s (mh r) (s (xi r) (s (xi r) (n (q (q (g (s (lI r) (s (EC vL r) (s (wO r r) (n ?_))))))))))));rcases iv l with ⟨L,l⟩|⟨L,l⟩
 ·refine jN (bt L) (q (g (s (mh r) (s (xi r) (s (xi r) (n (kH ?_)))))));replace c:=c.Cy kE 109;obtain rfl:=sm l;refine zu r (kL r) (kL r) (kL r) ?_;exact nJ (nJ ⟨none,0,[],r,c⟩)
 refine jK (bf L) (wk (q (g (s (mh r) (n (q (g (s (lI r) ?_))))))));obtain ⟨⟨C,D⟩,h3,l⟩:=bs l;replace l:=pi l;refine sc (ec X5 r) (G7 fu (c.pr [] [] [] r) h3) ?_;rintro _ w3 ⟨rfl,E⟩;replace c:=c.cl [] [] r E r;try dsimp only [pick,nth,ca,na] at c
 refine s rR (s (jX r r) (s (jX r r) (s (xi r) (s (xi r) (n (q ?_))))));replace c:=c.Cy kE 109;obtain ⟨Y4,b,l⟩:=bs l;refine qR (fun f w=>∃ m j i d e h,Has f [(5,Z d i e),(7,V j)]/\Bx B w au G [O B.heap.size d e 109 kE h] [.els h i]/\Ld.go (m,j,i)=Y4) (fun J4 M=>?_) ?_
 ·refine pG (kK (fun aw f w=>∃ m j i d e h,Has f [(0,T K),(5,Z d i e),(6,V m),(7,V j)]/\Bx B w au G [O B.heap.size d e 109 kE h] [.els h i]/\nk fu K aw m j i=some Y4) fu ⟨C,D,([]:List kE),none,0,[],⟨r,r,r,r,y⟩,c,b⟩ ?_);clear c b;rintro N f w ⟨m,j,i,d,e,h,hf,c,b⟩ K4 Q;obtain ⟨av,rfl⟩:=mZ hf;cases N with
  | zero=>exact nn b
  | succ N=>
   rw [nk] at b;refine q (q (g (s (mi r) (s (lI r) (s (EC vL r) (s (qC r r) (n ?_)))))));rcases iv b with ⟨S,b⟩|⟨S,b⟩
   ·refine jN (bt S) (wk (pG (q (g (s (lI r) (s (mi r) (s (mi r) ?_)))))));obtain ⟨⟨a,F,t⟩,h7,b⟩:=bs b;replace b:=pi b;replace b:=pi b;refine sc (ec acO r) (P7 fu (c.pr [] [0] [] r) h7) ?_;rintro _ w7 ⟨rfl,E⟩;replace c:=c.cl [] [0] r E r;try dsimp only [pick,nth,ca,na] at c
    refine s rR (s (jX r r) (s (jX r r) (s (jX r r) (nW (nD c (jT qM)) ?_))));rintro _ w8 ⟨b8,rfl,c⟩;refine lD (tb c 0 [V a.c,V a.f,T a.a,V a.d] r qM r r r r r (show _=#[V a.c,V a.f,T a.a,V a.d] from r)) ?_;intro w9 c;try dsimp only [List.set] at c
    refine s (xi r) (s (xi r) (n (q ?_)));obtain ⟨U,k,b⟩:=bs b;refine qR (fun f w=>∃ o,Has f [(0,T K),(5,Z d i e),(7,V j),(8,Pt b8),(9,V F),(10,V o)]/\Bx B w au G [.box b8 109 #[V a.c,V a.f,T a.a,V a.d],O B.heap.size d e 109 kE h] [.els h i]/\Ld.go o=U) (fun ab p=>?_) ?_
    ·unfold rG at k;refine q (g (s (mi r) (s (kT r r) (s (kV r) ?_))));rcases iv k with ⟨u,k⟩|⟨u,k⟩
     ·rw [um u];refine kG r (s (mK r) (kG r (s (lT Eo r) (kG r (s (CF r r) (s (kP r r) (n ?_)))))));rcases iv k with ⟨v,k⟩|⟨v,k⟩
      ·refine jN (bt v) (g (s (xi r) (n ?_)));exact p _ _ ⟨5,⟨r,r,r,r,r,r,y⟩,c,sm k⟩
      refine jK (bf v) (wk ?_);exact p _ _ ⟨t,⟨r,r,r,r,r,r,y⟩,c,sm k⟩
     rw [uO u];refine jM r (jM r (jM r (s (ko r r) (n (jK r (wk ?_))))));exact p _ _ ⟨t,⟨r,r,r,r,r,r,y⟩,c,sm k⟩
    clear c;rintro f w ⟨o,hf,c,H⟩;obtain ⟨av,rfl⟩:=mZ hf;subst H;replace b:=gi b;refine q (q (g (s (mi r) (s (rz r r) (n ?_)))));rcases iv b with ⟨x,b⟩|⟨x,b⟩
    ·refine jN (bt x) (q (g (s (mi r) (s (mi r) (s (mh r) (s (xi r) (s (xi r) (n (kH ?_)))))))));replace c:=c.Cy kE 109;obtain rfl:=sm b;replace l:=oi l;obtain rfl:=sm l;refine zu r (kL r) (kL r) (kL r) ?_;exact nJ (nJ ⟨none,0,[],r,c.ad [0] [0]⟩)
    refine jK (bf x) (wk (q (g (s (mK r) (s (nA [V a.c,V a.f,T a.a,V a.d] Ce r qM r r (Cells.part (c.bk 0 r).cells (o2:=0) r)) (nW (jO c [[V a.c,V a.f,T a.a,V a.d]] ([a]:List kE) (Nr r) r r (by decide) ⟨r,y⟩) ?_))))));rintro _ ac ⟨ae,rfl,c⟩;obtain ⟨W,I,b⟩:=bs b;refine nW (kR c 2 1 r r Eo qM r (by decide) (by decide) (oH _) r r (c.AR 0 0 r r) I) ?_;rintro _ af ⟨X,Y,a0,rfl,c⟩;refine s (mh r) (n (g (s (lI r) (s (mi r) (s (mi r) ?_)))));obtain ⟨⟨z,A⟩,a1,b⟩:=bs b;replace b:=pi b;refine sc (ec X5 r) (G7 fu (c.pr [] [0,1,2] [] r) a1) ?_;rintro _ ag ⟨rfl,E⟩;replace c:=c.cl [] [0,1,2] r E r;try dsimp only [pick,nth,ca,na] at c
    refine s rR (s (jX r r) (s (jX r r) (s (xi r) (s (xi r) (n ?_)))));exact Q N _ _ (CG _) ⟨z,A,W,X,Y,a0,⟨r,r,r,r,y⟩,c.ad [2] [1],b⟩
   refine jK (bf S) (uS ?_);exact M _ _ ⟨m,j,i,d,e,h,⟨r,r,y⟩,c,sm b⟩
 clear c;rintro f w ⟨m,j,i,d,e,h,hf,c,a2⟩;obtain ⟨av,rfl⟩:=mZ hf;subst a2;replace l:=gi l;replace l:=pi l;replace l:=pi l;refine q (g (s (mK r) (s (mi r) (s (SK r r) (nW (jO c [[V 0,V j,T be,V 0]] ([(⟨0,j,be,0⟩:kE)]:List kE) (Nr r) r r (by decide) ⟨r,y⟩) ?_)))));rintro _ ah ⟨ai,rfl,c⟩;obtain ⟨aj,J,l⟩:=bs l;refine nW (kR c 1 1 r r Eo qM r (by decide) (by decide) (oH _) r r (c.AR 0 0 r r) J) ?_;rintro _ ak ⟨a3,a4,a5,rfl,c⟩;refine s (mh r) (s (xi r) (s (xi r) (n (kH ?_))));obtain rfl:=sm l;refine zu r (kL r) (kL r) (kL r) ?_;exact nJ (nJ ⟨a3,a4,a5,r,c.ad [1] [1]⟩)
abbrev Gh:=Int->Option (ByteArray)
def zV (m:Int->Option BA):Prop:=∀ {a d b c},Pre a d [] []->m b=some c-> Calls prog 59 #[V b] a (pU fun v w=>v=T c/\Bx a w d (lH []) [] [])
def yj (fu:Nat)(r_r03_Digits:Gh)(a:Int):Option BA:=if a < 0 then if a=(-9223372036854775808) then some (⟨#[45,57,50,50,51,51,55,50,48,51,54,56,53,52,55,55,53,56,48,56]⟩:BA) else (r_r03_Digits (wr (0 - a))).bind fun c=>(cat (⟨#[45]⟩:BA) c).bind fun f=>some f else if a < 10 then some (bst ([⟨w8 (wr (48+a))⟩]:List FM)) else (r_r03_Digits (wr (a.tdiv 10))).bind fun d=>(r_r03_Digits (a.tmod 10)).bind fun b=>(cat d b).bind fun e=>some e
def DU:Nat→(Int→Option (BA))
 | 0=>(fun _=>none)
 | fu+1=>yj fu (DU fu)
def sW (fu:Nat):=(DU fu)
theorem Ki (fu:Nat)(r_r03_Digits:Gh)(H_r03_Digits:zV r_r03_Digits):zV (yj fu r_r03_Digits):=by
 intro x F e z m a;unfold yj at a;have b:=m.bx;clear m;generalize A:lH _=G at b ⊢;refine cf func59 r ?_;refine lG [(0,V e)] ⟨r,y⟩ fun H=>?_;refine q (g (s (mX r) (n (q (q (g (s (mi r) (s (qC r r) (n ?_)))))))));rcases iv a with ⟨f,a⟩|⟨f,a⟩
 ·refine jN (bt f) (q (q (g (s (mi r) (s (kT r r) (n ?_))))));rcases iv a with ⟨h,a⟩|⟨h,a⟩
  ·refine jN (bt h) (q (g (s (mX r) (n (kH ?_)))));obtain rfl:=sm a;refine jC r (kL r) ?_;exact ⟨r,b⟩
  refine jK (bf h) (wk (q (g (s (mi r) (s (wY r r) ?_)))));obtain ⟨o,t,a⟩:=bs a;refine sc (ec KU r) (H_r03_Digits (b.pr [] [] [] r) t) ?_;rintro _ B ⟨rfl,c⟩;replace b:=b.cl [] [] r c r;try dsimp only [pick,nth,ca,na] at b
  obtain ⟨C,i,a⟩:=bs a;refine s (l5 r r i) (s (mX r) (n (kH ?_)));obtain rfl:=sm a;refine jC r (kL r) ?_;exact ⟨r,b⟩
 refine jK (bf f) (wk (q (q (g (s (mi r) (s (qC r r) (n ?_)))))));rcases iv a with ⟨j,a⟩|⟨j,a⟩
 ·refine jN (bt j) (q (g (s (mi r) (s (kU r r) (s (adz ⟨_,Ir⟩ u5_ r) (nW (jO b [[.int .u8 (w8 (wr (48+e)))]] ([⟨w8 (wr (48+e))⟩]:List FM) (SB r) r r (by decide) ⟨r,y⟩) ?_))))));rintro _ D ⟨E,rfl,b⟩;refine s (ade QK u5_ vL r (b.vw 0 0 r r)) (s (mX r) (n (kH ?_)));obtain rfl:=sm a;refine jC r (kL r) ?_;exact ⟨r,b.ad [] []⟩
 refine jK (bf j) (wk (q (g (s (mi r) (s (UH r r (by decide)) ?_)))));obtain ⟨p,u,a⟩:=bs a;refine sc (ec KU r) (H_r03_Digits (b.pr [] [] [] r) u) ?_;rintro _ w8 ⟨rfl,c⟩;replace b:=b.cl [] [] r c r;try dsimp only [pick,nth,ca,na] at b
 refine s (mi r) (s (QY r r (by decide)) ?_);obtain ⟨k,l,a⟩:=bs a;refine sc (ec KU r) (H_r03_Digits (b.pr [] [] [] r) l) ?_;rintro _ v ⟨rfl,c⟩;replace b:=b.cl [] [] r c r;try dsimp only [pick,nth,ca,na] at b
 obtain ⟨w,d,a⟩:=bs a;refine s (l5 r r d) (s (mX r) (n (kH ?_)));obtain rfl:=sm a;refine jC r (kL r) ?_;exact ⟨r,b⟩
theorem Jr (fu:Nat):zV (sW fu):=by
 induction fu with
 | zero=>exact by intro a b;intros;(try intro _);intros;exact nn (by assumption)
 | succ fu ih=>exact Ki fu (sW fu) ih
theorem Ct (fu:Nat):zV (sW fu):=(Jr fu)
end
end Go.Proofs.YtfglbdkfnphjgaaGreat
