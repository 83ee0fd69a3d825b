/- Contracts, printed by gen3.py. -/
import Derived.Test.YtfglbdkfnphjgaaGreatZ4
set_option linter.unusedVariables false
set_option maxHeartbeats 12800000
set_option linter.unusedSimpArgs false
set_option maxRecDepth 4000
namespace Go.Proofs.YtfglbdkfnphjgaaGreat
open Go.RowKit Go.Fw Go.Proofs.Tryz
noncomputable section
def O5 (m:Int->Int->Option Int):Prop:=∀ {a e b c d},Pre a e [] []->m b c=some d-> Calls prog 7 #[V b,V c] a (pz fun v w=>v=V d/\Bx a w e (lD []) [] [])
def Bq (fu:Nat)(b:Int)(a:Int):Option Int:=if a=0 then none else if (b.tmod a) < 0 then some (wr ((b.tmod a)+a)) else some (b.tmod a)
theorem OY (fu:Nat):O5 (Bq fu):=by
 intro i l e f j d a;unfold Bq at a;have b:=d.bx;clear d;generalize k:lD _=G at b ⊢;refine cf func7 r ?_;refine lu [(0,V e),(1,V f)] ⟨r,r,y⟩ fun m=>?_;refine q (g (s (xi r) (n (q (g (s (mi r) (s (mi r) ?_)))))));rcases iv a with ⟨_,a⟩|⟨h,a⟩
 · exact nn a
 refine s (P6 r r h) (s (xi r) (n (q (q (g (s (mi r) (s (qp r r) (n ?_))))))));rcases iv a with ⟨c,a⟩|⟨c,a⟩
 ·refine jM (bt c) (g (s (mi r) (s (mi r) (s (kS r r) (s (xi r) (n (q (g (s (mi r) (s (xi r) (n (kD ?_))))))))))));obtain rfl:=sm a;refine jB r (kH r) ?_;exact ⟨r,b⟩
 refine jJ (bf c) (wk (q (g (s (mi r) (s (xi r) (n (kD ?_)))))));obtain rfl:=sm a;refine jB r (kH r) ?_;exact ⟨r,b⟩
def NG (m:jO->Int->Option (Int × jO)):Prop:=∀ {f j}{e:jO}{h c a b R},(fun L=>Pre f j L [.l a b e.l]->m e h=some R-> Calls prog 44 #[Pt c,V h] f (pz fun v w=>iA R fun i d=>v=V i/\Bx f w j (lD L) [.box c 129 #[Z a d.l b,V d.a]] [.l a b d.l])) [.box c 129 #[Z a e.l b,V e.a]]
def kM (fu:Nat)(a:jO) (c:Int):Option (Int × jO):=if (a.l.length:Int)<=a.a then some (0,a) else (ix a.l (wr ((wr (a.a+1)) - 1))).bind fun d=>(Bq fu d c).bind fun b=>some (b,(⟨a.l,wr (a.a+1)⟩:jO))
theorem kg (fu:Nat):NG (kM fu):=by
 intro A F j v m c d R t e;unfold kM at e;have b:=t.bx;clear t;generalize B:lD _=G at b ⊢;refine cf func44 r ?_;refine lu [(0,Pt m),(1,V v)] ⟨r,r,y⟩ fun H=>?_;refine q (g (s (xi r) (n (q (q (qo b [0] [] [] (by kernel_rfl) ?_))))));replace b:=b.drew;have a:=b.dp [];refine pF 0 r (mp r) a (pF 1 r (xn r) a (pF 2 r (Iy r) a (uF 3 r (fun hS=>l3 r (hS.bk 0 r) r) a (pF 4 r (mp r) a (pF 5 r (xn r) a (pF 6 r (O4 r) a (uF 7 r (fun hS=>OM r (hS.bk 0 r) r) a (pF 8 r (lK qH r) a (pF 9 r (BF r r) a (hD ?_))))))))));rcases iv e with ⟨o,e⟩|⟨o,e⟩
 ·refine jM (bt o) (q (g (s (xi r) (n (kD ?_)))));obtain rfl:=sm e;refine jB r (kH r) ?_;exact mZ (⟨r,b⟩)
 refine jJ (bf o) (wk (q (g (s (mp r) (s (xn r) (s (Iy r) (s (l3 r (b.bk 0 r) r) (s (kS r r) (s (xn r) (s (Iy r) (lq (tb b 0 [V (wr (j.a+1))] r mV r r r r r (show _=#[Z c j.l d,V (wr (j.a+1))] from r)) ?_)))))))))));intro C b;try dsimp only [List.set] at b
 refine n (q (qo b [0] [0] [] (by kernel_rfl) ?_));replace b:=b.drew;have a:=b;refine pF 0 r (mp r) a (pF 1 r (xn r) a (pF 2 r (O4 r) a (uF 3 r (fun hS=>OM r (hS.bk 0 r) r) a (pF 4 r (mp r) a (pF 5 r (xn r) a (pF 6 r (Iy r) a (uF 7 r (fun hS=>l3 r (hS.bk 0 r) r) a (pF 8 r (wm r r) a ?_))))))));obtain ⟨w,f,e⟩:=bs e;obtain ⟨D,p,f⟩:=kK f;refine pF 9 r (kV qH mV r r p (b.dl 0 r) f) a (tU 10 r (fun _ hS=>jS GV r r ((tC (ds:=[V w]) (hS.dl 0 r) f (fun _ h=>h)) 0 _ r)) (sF a) (pF 11 r (mi r) a ?_));obtain ⟨u,x,e⟩:=bs e;refine hO 12 (oc r r (ec abU r) (OY fu (b.pr [] [0] [] r) x) ?_);rintro _ E ⟨rfl,z⟩;replace b:=b.cl [] [0] r z r;try dsimp only [pick,nth,ca,na] at b
 have a:=b;refine ⟨sF a,?_⟩;refine pF 13 r (xi r) a (hD (kD ?_));obtain rfl:=sm e;refine jB r (kH r) ?_;exact mZ (⟨r,b⟩)
def Nh (m:jO->Option Bool):Prop:=∀ {e h}{c:jO}{d a b f},(fun L=>Pre e h L [.l a b c.l]->m c=some f-> Calls prog 61 #[Pt d] e (pz fun v w=>v=.bool f/\Bx e w h (lD L) L [.l a b c.l])) [.box d 129 #[Z a c.l b,V c.a]]
def BX (fu:Nat)(a:jO):Option Bool:=some (decide (a.a < (a.l.length:Int)))
theorem NN (fu:Nat):Nh (BX fu):=by intro m t f e b c o h j;unfold BX at j;have d:=h.bx;clear h;generalize p:lD _=G at d ⊢;refine cf func61 r ?_;refine lu [(0,Pt e)] ⟨r,y⟩ fun u=>?_;refine q (g (s (kr r) (n (q (qo d [0] [] [] (by kernel_rfl) ?_)))));replace d:=d.drew;have a:=d.dp [];refine pF 0 r (mp r) a (pF 1 r (xn r) a (pF 2 r (Iy r) a (uF 3 r (fun hS=>l3 r (hS.bk 0 r) r) a (pF 4 r (mp r) a (pF 5 r (xn r) a (pF 6 r (O4 r) a (uF 7 r (fun hS=>OM r (hS.bk 0 r) r) a (pF 8 r (lK qH r) a (pF 9 r (qp r r) a (pF 10 r (kr r) a (hD (kD ?_))))))))))));obtain rfl:=sm j;refine jB r (kH r) ?_;exact ⟨r,d⟩
def Jo (m:jO->Option (Int × jO)):Prop:=∀ {f i}{e:jO}{c a b R},(fun L=>Pre f i L [.l a b e.l]->m e=some R-> Calls prog 88 #[Pt c] f (pz fun v w=>iA R fun h d=>v=V h/\Bx f w i (lD L) [.box c 129 #[Z a d.l b,V d.a]] [.l a b d.l])) [.box c 129 #[Z a e.l b,V e.a]]
def xH (fu:Nat)(c:jO):Option (Int × jO):=(kM fu c ((([0,1,2,3,5,7,4,10,100,1048576,2147483648,1099511627776,999999999999999999,6,8,9]:List Int).length:Nat):Int)).bind fun e=>iA e fun a b=>(ix ([0,1,2,3,5,7,4,10,100,1048576,2147483648,1099511627776,999999999999999999,6,8,9]:List Int) a).bind fun d=>some (d,b)
theorem Ji (fu:Nat):Jo (xH fu):=by
 intro v C j f d e R k c;unfold xH at c;have a:=k.bx;clear k;generalize w:lD _=G at a ⊢;refine cf func88 r ?_;refine lu [(0,Pt f)] ⟨r,y⟩ fun D=>?_;refine q (g (s (xi r) (n (q (g (nM (jN a [[V 0],[V 1],[V 2],[V 3],[V 5],[V 7],[V 4],[V 10],[V 100],[V 1048576],[V 2147483648],[V 1099511627776],[V 999999999999999999],[V 6],[V 8],[V 9]] ([0,1,2,3,5,7,4,10,100,1048576,2147483648,1099511627776,999999999999999999,6,8,9]:List Int) (Qj r r r r r r r r r r r r r r r r) r r (by decide) ⟨r,⟨r,⟨r,⟨r,⟨r,⟨r,⟨r,⟨r,⟨r,⟨r,⟨r,⟨r,⟨r,⟨r,⟨r,⟨r,y⟩⟩⟩⟩⟩⟩⟩⟩⟩⟩⟩⟩⟩⟩⟩⟩) ?_))))));rintro _ x ⟨z,rfl,a⟩;refine s (nk r) (n (q (g (s (mH r) (s (mp r) (s (mH r) (s (lK qH r) ?_)))))));obtain ⟨⟨m,o⟩,p,c⟩:=bs c;replace c:=pi c;refine sc (ec oD r) (kg fu (a.pr [1] [0] [1] r) p) ?_;rintro _ A ⟨rfl,t⟩;replace a:=a.cl [1] [0] r t r;try dsimp only [pick,nth,ca,na] at a
 obtain ⟨u,b,c⟩:=bs c;obtain ⟨B,i,b⟩:=kK b;refine s (kV qH mV r r i (a.vw 1 1 r r) b) (s (jS GV r r ((tC (ds:=[V u]) (a.vw 1 1 r r) b (fun _ h=>h)) 0 _ r)) (s (xi r) (n (kD ?_))));obtain rfl:=sm c;refine jB r (kH r) ?_;exact mZ (⟨r,a.ad [0] [0]⟩)
def Jl (m:Int->Option Bool):Prop:=∀ {a d b c},Pre a d [] []->m b=some c-> Calls prog 52 #[.int .u8 b] a (pz fun v w=>v=.bool c/\Bx a w d (lD []) [] [])
def rT (fu:Nat)(a:Int):Option Bool:=if 97<=a then if a<=122 then some true else if 65<=a then if a<=90 then some true else some (decide (a=95)) else some (decide (a=95)) else if 65<=a then if a<=90 then some true else some (decide (a=95)) else some (decide (a=95))
theorem Bl (fu:Nat):Jl (rT fu):=by
 intro l p k m j a;unfold rT at a;have b:=j.bx;clear j;generalize o:lD _=G at b ⊢;refine cf func52 r ?_;refine lu [(0,.int .u8 k)] ⟨r,y⟩ fun t=>?_;refine q (g (s (kr r) (n (q (g (s (mi r) (s (BF r r) (s (kQ r) ?_))))))));rcases iv a with ⟨c,a⟩|⟨c,a⟩
 ·rw [sQ c];refine ku r (s (mi r) (ku r (s (Ja r r) (s (kF r r) (s (kQ r) ?_)))));rcases iv a with ⟨d,a⟩|⟨d,a⟩
  ·rw [sQ d];refine jK r (jK r (jK r (jK r (jK r (jK r (s (kF r r) (s (kQ r) (jK r (jK r (s (kF r r) (s (kr r) (n (kD ?_)))))))))))));obtain rfl:=sm a;refine jB r (kH r) ?_;exact ⟨r,b⟩
  rw [tF d];refine ku r (s (mi r) (ku r (s (BF r r) (ku r (s (kQ r) ?_)))));rcases iv a with ⟨e,a⟩|⟨e,a⟩
  ·rw [sQ e];refine ku r (s (mi r) (ku r (s (Ja r r) (ku r (s (kF r r) (s (jY r r) (s (kQ r) ?_)))))));rcases iv a with ⟨f,a⟩|⟨f,a⟩
   ·rw [sQ f];refine jK r (jK r (s (kF r r) (s (kr r) (n (kD ?_)))));obtain rfl:=sm a;refine jB r (kH r) ?_;exact ⟨r,b⟩
   rw [tF f];refine ku r (s (mi r) (ku r (s (kR r r) (s (jY r r) (s (kr r) (n (kD ?_)))))));obtain rfl:=sm a;refine jB r (kH r) ?_;exact ⟨r,b⟩
  rw [tF e];refine jK r (jK r (ku r (s (jY r r) (s (jY r r) (s (kQ r) (ku r (s (mi r) (ku r (s (kR r r) (s (jY r r) (s (kr r) (n (kD ?_)))))))))))));obtain rfl:=sm a;refine jB r (kH r) ?_;exact ⟨r,b⟩
 rw [tF c];refine jK r (jK r (s (jY r r) (s (kQ r) (ku r (s (mi r) (ku r (s (BF r r) (ku r (s (kQ r) ?_)))))))));rcases iv a with ⟨h,a⟩|⟨h,a⟩
 ·rw [sQ h];refine ku r (s (mi r) (ku r (s (Ja r r) (ku r (s (kF r r) (s (jY r r) (s (kQ r) ?_)))))));rcases iv a with ⟨i,a⟩|⟨i,a⟩
  ·rw [sQ i];refine jK r (jK r (s (kF r r) (s (kr r) (n (kD ?_)))));obtain rfl:=sm a;refine jB r (kH r) ?_;exact ⟨r,b⟩
  rw [tF i];refine ku r (s (mi r) (ku r (s (kR r r) (s (jY r r) (s (kr r) (n (kD ?_)))))));obtain rfl:=sm a;refine jB r (kH r) ?_;exact ⟨r,b⟩
 rw [tF h];refine jK r (jK r (ku r (s (jY r r) (s (jY r r) (s (kQ r) (ku r (s (mi r) (ku r (s (kR r r) (s (jY r r) (s (kr r) (n (kD ?_)))))))))))));obtain rfl:=sm a;refine jB r (kH r) ?_;exact ⟨r,b⟩
def Kz (m:Int->Option Bool):Prop:=∀ {a d b c},Pre a d [] []->m b=some c-> Calls prog 53 #[.int .u8 b] a (pz fun v w=>v=.bool c/\Bx a w d (lD []) [] [])
def uV (fu:Nat)(a:Int):Option Bool:=if 48<=a then some (decide (a<=57)) else some false
theorem BS (fu:Nat):Kz (uV fu):=by
 intro f j e h d a;unfold uV at a;have b:=d.bx;clear d;generalize i:lD _=G at b ⊢;refine cf func53 r ?_;refine lu [(0,.int .u8 e)] ⟨r,y⟩ fun k=>?_;refine q (g (s (kr r) (n (q (g (s (mi r) (s (BF r r) (s (kQ r) ?_))))))));rcases iv a with ⟨c,a⟩|⟨c,a⟩
 ·rw [sQ c];refine ku r (s (mi r) (ku r (s (Ja r r) (s (kF r r) (s (kr r) (n (kD ?_)))))));obtain rfl:=sm a;refine jB r (kH r) ?_;exact ⟨r,b⟩
 rw [tF c];refine jK r (jK r (s (jY r r) (s (kr r) (n (kD ?_)))));obtain rfl:=sm a;refine jB r (kH r) ?_;exact ⟨r,b⟩
def FY (m:BA->Option Bool):Prop:=∀ {a d b c},Pre a d [] []->m b=some c-> Calls prog 54 #[T b] a (pz fun v w=>v=.bool c/\Bx a w d (lD []) [] [])
def oQ (fu:Nat)(a:BA):List BA→Nat→Option (Ld (Unit) (Bool))
 | [],_=>some (.go ())
 | b :: c,d=>
 if b=a then
  some (.out true)
 else
  oQ fu a c (d+1)
def uU (fu:Nat)(a:BA):Option Bool:=(oQ fu a ([(⟨#[114,101,99,111,114,100]⟩:BA),(⟨#[102,117,110,99]⟩:BA),(⟨#[118,97,114]⟩:BA),(⟨#[105,110,116]⟩:BA),(⟨#[105,102]⟩:BA),(⟨#[101,108,115,101]⟩:BA),(⟨#[119,104,105,108,101]⟩:BA),(⟨#[114,101,116,117,114,110]⟩:BA),(⟨#[116,104,114,111,119]⟩:BA),(⟨#[116,114,121]⟩:BA),(⟨#[99,97,116,99,104]⟩:BA),(⟨#[112,114,105,110,116]⟩:BA)]:List BA) 0).bind fun b=>b.el (fun _=>some false) (fun o=>some o)
theorem F3 (fu:Nat):FY (uU fu):=by
 intro j I k C v d;unfold uU at d;have b:=v.bx;clear v;generalize D:lD _=G at b ⊢;refine cf func54 r ?_;refine lu [(0,T k)] ⟨r,y⟩ fun J=>?_;refine q (g (s (kr r) (n (q (q (g (nM (jN b [[T (⟨#[114,101,99,111,114,100]⟩:BA)],[T (⟨#[102,117,110,99]⟩:BA)],[T (⟨#[118,97,114]⟩:BA)],[T (⟨#[105,110,116]⟩:BA)],[T (⟨#[105,102]⟩:BA)],[T (⟨#[101,108,115,101]⟩:BA)],[T (⟨#[119,104,105,108,101]⟩:BA)],[T (⟨#[114,101,116,117,114,110]⟩:BA)],[T (⟨#[116,104,114,111,119]⟩:BA)],[T (⟨#[116,114,121]⟩:BA)],[T (⟨#[99,97,116,99,104]⟩:BA)],[T (⟨#[112,114,105,110,116]⟩:BA)]] ([(⟨#[114,101,99,111,114,100]⟩:BA),(⟨#[102,117,110,99]⟩:BA),(⟨#[118,97,114]⟩:BA),(⟨#[105,110,116]⟩:BA),(⟨#[105,102]⟩:BA),(⟨#[101,108,115,101]⟩:BA),(⟨#[119,104,105,108,101]⟩:BA),(⟨#[114,101,116,117,114,110]⟩:BA),(⟨#[116,104,114,111,119]⟩:BA),(⟨#[116,114,121]⟩:BA),(⟨#[99,97,116,99,104]⟩:BA),(⟨#[112,114,105,110,116]⟩:BA)]:List BA) (Fe r r r r r r r r r r r r) r r (by decide) ⟨r,⟨r,⟨r,⟨r,⟨r,⟨r,⟨r,⟨r,⟨r,⟨r,⟨r,⟨r,y⟩⟩⟩⟩⟩⟩⟩⟩⟩⟩⟩⟩) ?_)))))));rintro _ E ⟨m,rfl,b⟩;refine s (lK kX r) (s (mi r) (n ?_));have z:=(b.vw 0 0 r r).bd;obtain ⟨x,a,d⟩:=bs d
 refine qF (fun f w=>Has f []/\Bx j w I G [O j.heap.size (ad m) 12 9 BA [[T (⟨#[114,101,99,111,114,100]⟩:BA)],[T (⟨#[102,117,110,99]⟩:BA)],[T (⟨#[118,97,114]⟩:BA)],[T (⟨#[105,110,116]⟩:BA)],[T (⟨#[105,102]⟩:BA)],[T (⟨#[101,108,115,101]⟩:BA)],[T (⟨#[119,104,105,108,101]⟩:BA)],[T (⟨#[114,101,116,117,114,110]⟩:BA)],[T (⟨#[116,104,114,111,119]⟩:BA)],[T (⟨#[116,114,121]⟩:BA)],[T (⟨#[99,97,116,99,104]⟩:BA)],[T (⟨#[112,114,105,110,116]⟩:BA)]]] [.els [[T (⟨#[114,101,99,111,114,100]⟩:BA)],[T (⟨#[102,117,110,99]⟩:BA)],[T (⟨#[118,97,114]⟩:BA)],[T (⟨#[105,110,116]⟩:BA)],[T (⟨#[105,102]⟩:BA)],[T (⟨#[101,108,115,101]⟩:BA)],[T (⟨#[119,104,105,108,101]⟩:BA)],[T (⟨#[114,101,116,117,114,110]⟩:BA)],[T (⟨#[116,104,114,111,119]⟩:BA)],[T (⟨#[116,114,121]⟩:BA)],[T (⟨#[99,97,116,99,104]⟩:BA)],[T (⟨#[112,114,105,110,116]⟩:BA)]] ([(⟨#[114,101,99,111,114,100]⟩:BA),(⟨#[102,117,110,99]⟩:BA),(⟨#[118,97,114]⟩:BA),(⟨#[105,110,116]⟩:BA),(⟨#[105,102]⟩:BA),(⟨#[101,108,115,101]⟩:BA),(⟨#[119,104,105,108,101]⟩:BA),(⟨#[114,101,116,117,114,110]⟩:BA),(⟨#[116,104,114,111,119]⟩:BA),(⟨#[116,114,121]⟩:BA),(⟨#[99,97,116,99,104]⟩:BA),(⟨#[112,114,105,110,116]⟩:BA)]:List BA)]/\Ld.go ()=x) (fun F o=>?_) ?_
 ·refine o9 (kI (fun K f w=>∃ c,K=([(⟨#[114,101,99,111,114,100]⟩:BA),(⟨#[102,117,110,99]⟩:BA),(⟨#[118,97,114]⟩:BA),(⟨#[105,110,116]⟩:BA),(⟨#[105,102]⟩:BA),(⟨#[101,108,115,101]⟩:BA),(⟨#[119,104,105,108,101]⟩:BA),(⟨#[114,101,116,117,114,110]⟩:BA),(⟨#[116,104,114,111,119]⟩:BA),(⟨#[116,114,121]⟩:BA),(⟨#[99,97,116,99,104]⟩:BA),(⟨#[112,114,105,110,116]⟩:BA)]:List BA).length - c/\c<=([(⟨#[114,101,99,111,114,100]⟩:BA),(⟨#[102,117,110,99]⟩:BA),(⟨#[118,97,114]⟩:BA),(⟨#[105,110,116]⟩:BA),(⟨#[105,102]⟩:BA),(⟨#[101,108,115,101]⟩:BA),(⟨#[119,104,105,108,101]⟩:BA),(⟨#[114,101,116,117,114,110]⟩:BA),(⟨#[116,104,114,111,119]⟩:BA),(⟨#[116,114,121]⟩:BA),(⟨#[99,97,116,99,104]⟩:BA),(⟨#[112,114,105,110,116]⟩:BA)]:List BA).length/\Has f [(7,V (c:Int)),(0,T k),(5,.slice (ad m) ([(⟨#[114,101,99,111,114,100]⟩:BA),(⟨#[102,117,110,99]⟩:BA),(⟨#[118,97,114]⟩:BA),(⟨#[105,110,116]⟩:BA),(⟨#[105,102]⟩:BA),(⟨#[101,108,115,101]⟩:BA),(⟨#[119,104,105,108,101]⟩:BA),(⟨#[114,101,116,117,114,110]⟩:BA),(⟨#[116,104,114,111,119]⟩:BA),(⟨#[116,114,121]⟩:BA),(⟨#[99,97,116,99,104]⟩:BA),(⟨#[112,114,105,110,116]⟩:BA)]:List BA).length 12),(6,V ((([(⟨#[114,101,99,111,114,100]⟩:BA),(⟨#[102,117,110,99]⟩:BA),(⟨#[118,97,114]⟩:BA),(⟨#[105,110,116]⟩:BA),(⟨#[105,102]⟩:BA),(⟨#[101,108,115,101]⟩:BA),(⟨#[119,104,105,108,101]⟩:BA),(⟨#[114,101,116,117,114,110]⟩:BA),(⟨#[116,104,114,111,119]⟩:BA),(⟨#[116,114,121]⟩:BA),(⟨#[99,97,116,99,104]⟩:BA),(⟨#[112,114,105,110,116]⟩:BA)]:List BA).length:Nat):Int))]/\Bx j w I G [O j.heap.size (ad m) 12 9 BA [[T (⟨#[114,101,99,111,114,100]⟩:BA)],[T (⟨#[102,117,110,99]⟩:BA)],[T (⟨#[118,97,114]⟩:BA)],[T (⟨#[105,110,116]⟩:BA)],[T (⟨#[105,102]⟩:BA)],[T (⟨#[101,108,115,101]⟩:BA)],[T (⟨#[119,104,105,108,101]⟩:BA)],[T (⟨#[114,101,116,117,114,110]⟩:BA)],[T (⟨#[116,104,114,111,119]⟩:BA)],[T (⟨#[116,114,121]⟩:BA)],[T (⟨#[99,97,116,99,104]⟩:BA)],[T (⟨#[112,114,105,110,116]⟩:BA)]]] [.els [[T (⟨#[114,101,99,111,114,100]⟩:BA)],[T (⟨#[102,117,110,99]⟩:BA)],[T (⟨#[118,97,114]⟩:BA)],[T (⟨#[105,110,116]⟩:BA)],[T (⟨#[105,102]⟩:BA)],[T (⟨#[101,108,115,101]⟩:BA)],[T (⟨#[119,104,105,108,101]⟩:BA)],[T (⟨#[114,101,116,117,114,110]⟩:BA)],[T (⟨#[116,104,114,111,119]⟩:BA)],[T (⟨#[116,114,121]⟩:BA)],[T (⟨#[99,97,116,99,104]⟩:BA)],[T (⟨#[112,114,105,110,116]⟩:BA)]] ([(⟨#[114,101,99,111,114,100]⟩:BA),(⟨#[102,117,110,99]⟩:BA),(⟨#[118,97,114]⟩:BA),(⟨#[105,110,116]⟩:BA),(⟨#[105,102]⟩:BA),(⟨#[101,108,115,101]⟩:BA),(⟨#[119,104,105,108,101]⟩:BA),(⟨#[114,101,116,117,114,110]⟩:BA),(⟨#[116,104,114,111,119]⟩:BA),(⟨#[116,114,121]⟩:BA),(⟨#[99,97,116,99,104]⟩:BA),(⟨#[112,114,105,110,116]⟩:BA)]:List BA)]/\oQ fu k (([(⟨#[114,101,99,111,114,100]⟩:BA),(⟨#[102,117,110,99]⟩:BA),(⟨#[118,97,114]⟩:BA),(⟨#[105,110,116]⟩:BA),(⟨#[105,102]⟩:BA),(⟨#[101,108,115,101]⟩:BA),(⟨#[119,104,105,108,101]⟩:BA),(⟨#[114,101,116,117,114,110]⟩:BA),(⟨#[116,104,114,111,119]⟩:BA),(⟨#[116,114,121]⟩:BA),(⟨#[99,97,116,99,104]⟩:BA),(⟨#[112,114,105,110,116]⟩:BA)]:List BA).drop c) c=some x) (([(⟨#[114,101,99,111,114,100]⟩:BA),(⟨#[102,117,110,99]⟩:BA),(⟨#[118,97,114]⟩:BA),(⟨#[105,110,116]⟩:BA),(⟨#[105,102]⟩:BA),(⟨#[101,108,115,101]⟩:BA),(⟨#[119,104,105,108,101]⟩:BA),(⟨#[114,101,116,117,114,110]⟩:BA),(⟨#[116,104,114,111,119]⟩:BA),(⟨#[116,114,121]⟩:BA),(⟨#[99,97,116,99,104]⟩:BA),(⟨#[112,114,105,110,116]⟩:BA)]:List BA).length) ⟨0,r,Nat.zero_le _,⟨r,r,r,r,y⟩,b,a⟩ ?_)
  clear b a;rintro K f w ⟨c,rfl,A,hf,b,a⟩ H p;obtain ⟨J,rfl⟩:=mY hf;rcases Nat.lt_or_ge c ([(⟨#[114,101,99,111,114,100]⟩:BA),(⟨#[102,117,110,99]⟩:BA),(⟨#[118,97,114]⟩:BA),(⟨#[105,110,116]⟩:BA),(⟨#[105,102]⟩:BA),(⟨#[101,108,115,101]⟩:BA),(⟨#[119,104,105,108,101]⟩:BA),(⟨#[114,101,116,117,114,110]⟩:BA),(⟨#[116,104,114,111,119]⟩:BA),(⟨#[116,114,121]⟩:BA),(⟨#[99,97,116,99,104]⟩:BA),(⟨#[112,114,105,110,116]⟩:BA)]:List BA).length with i | i
  ·obtain ⟨B,e⟩:=lT (l:=([(⟨#[114,101,99,111,114,100]⟩:BA),(⟨#[102,117,110,99]⟩:BA),(⟨#[118,97,114]⟩:BA),(⟨#[105,110,116]⟩:BA),(⟨#[105,102]⟩:BA),(⟨#[101,108,115,101]⟩:BA),(⟨#[119,104,105,108,101]⟩:BA),(⟨#[114,101,116,117,114,110]⟩:BA),(⟨#[116,104,114,111,119]⟩:BA),(⟨#[116,114,121]⟩:BA),(⟨#[99,97,116,99,104]⟩:BA),(⟨#[112,114,105,110,116]⟩:BA)]:List BA)) i;rw [l8 e,oQ] at a;refine q (g (s (uK r r (by omega)) (n (q (jM r (wk (q (o9 (q (g (s (kV kX pO r r r (b.vw 0 0 r r) e) (s (jS uM r r ((tC (ds:=[T B]) (b.vw 0 0 r r) e (fun _ h=>h)) 0 _ r)) (s (mP r) ?_)))))))))))));refine n (q (g (s (lF r) (s (lF r) (s (sj r r) (n ?_))))));rcases iv a with ⟨t,a⟩|⟨t,a⟩
   ·refine jM (bt t) (q (g (s (kr r) (n (kD ?_)))));obtain rfl:=sm a;replace d:=oi d;obtain rfl:=sm d;refine jB r (kH r) ?_;exact ⟨r,b.ad [] []⟩
   refine jJ (bf t) (wk (g (s (ng r r (by omega) (by omega)) (s (mi r) (n ?_)))));exact p (([(⟨#[114,101,99,111,114,100]⟩:BA),(⟨#[102,117,110,99]⟩:BA),(⟨#[118,97,114]⟩:BA),(⟨#[105,110,116]⟩:BA),(⟨#[105,102]⟩:BA),(⟨#[101,108,115,101]⟩:BA),(⟨#[119,104,105,108,101]⟩:BA),(⟨#[114,101,116,117,114,110]⟩:BA),(⟨#[116,104,114,111,119]⟩:BA),(⟨#[116,114,121]⟩:BA),(⟨#[99,97,116,99,104]⟩:BA),(⟨#[112,114,105,110,116]⟩:BA)]:List BA).length - (c+1)) _ _ (by omega) ⟨c+1,r,by omega,⟨r,r,r,r,y⟩,b,a⟩
  obtain rfl:c=([(⟨#[114,101,99,111,114,100]⟩:BA),(⟨#[102,117,110,99]⟩:BA),(⟨#[118,97,114]⟩:BA),(⟨#[105,110,116]⟩:BA),(⟨#[105,102]⟩:BA),(⟨#[101,108,115,101]⟩:BA),(⟨#[119,104,105,108,101]⟩:BA),(⟨#[114,101,116,117,114,110]⟩:BA),(⟨#[116,104,114,111,119]⟩:BA),(⟨#[116,114,121]⟩:BA),(⟨#[99,97,116,99,104]⟩:BA),(⟨#[112,114,105,110,116]⟩:BA)]:List BA).length:=by omega
  rw [lM,oQ] at a;refine q (g (s (uJ r r (by omega)) (n (q (jJ r (uy ?_))))));exact o _ _ ⟨y,b,sm a⟩
 clear b;rintro f w ⟨hf,b,u⟩;obtain ⟨J,rfl⟩:=mY hf;subst u;replace d:=gi d;refine q (g (s (kr r) (n (kD ?_))));obtain rfl:=sm d;refine jB r (kH r) ?_;exact ⟨r,b.ad [] []⟩
def Nl (m:BA->Int->Option BA):Prop:=∀ {a e b c d},Pre a e [] []->m b c=some d-> Calls prog 55 #[T b,V c] a (pz fun v w=>v=T d/\Bx a w e (lD []) [] [])
def rX (fu:Nat)(b:BA) (a:Int):List BA→Nat→Option (Ld (Unit) (BA))
 | [],_=>some (.go ())
 | c :: d,e=>
 (R3 b a (wr (a+2))).bind fun f=>
 if f=c then
  some (.out c)
 else
  rX fu b a d (e+1)
def yX (fu:Nat)(a:BA) (b:Int):Option (Ld Unit BA):=if (wr (b+1)) < (a.size:Int) then (rX fu a b ([(⟨#[60,61]⟩:BA),(⟨#[61,61]⟩:BA),(⟨#[33,61]⟩:BA)]:List BA) 0).bind fun c=>c.el (fun _=>some (.go ())) (fun o=>some (.out o)) else some (.go ())
def sG (fu:Nat)(b:BA) (a:Int):List EU→Nat→Option (Ld (Unit) (BA))
 | [],_=>some (.go ())
 | e :: f,h=>
 (ixs b a).bind fun c=>
 if c=e.n then
  (R3 b a (wr (a+1))).bind fun d=>
  some (.out d)
 else
  sG fu b a f (h+1)
def Aq (fu:Nat)(a:BA) (b:Int):Option BA:=(yX fu a b).bind fun c=>c.el (fun _=>(sG fu a b ([⟨40⟩,⟨41⟩,⟨123⟩,⟨125⟩,⟨91⟩,⟨93⟩,⟨44⟩,⟨59⟩,⟨58⟩,⟨46⟩,⟨43⟩,⟨45⟩,⟨42⟩,⟨47⟩,⟨37⟩,⟨38⟩,⟨124⟩,⟨94⟩,⟨60⟩,⟨61⟩,⟨33⟩]:List EU) 0).bind fun c=>c.el (fun _=>some (⟨#[]⟩:BA)) (fun o=>some o)) (fun o=>some o)
theorem MN (fu:Nat):Nl (Aq fu):=by
 intro k ah m o r0 R e;unfold Aq at e;have a:=R.bx;clear R;generalize hG:lD _=G at a ⊢;refine cf func55 r ?_;refine lu [(0,T m),(1,V o)] ⟨r,r,y⟩ fun ai=>?_;refine q (g (s (mP r) (n (q ?_))));obtain ⟨W,c,e⟩:=bs e;refine qF (fun f w=>Has f [(0,T m),(1,V o)]/\Bx k w ah G [] []/\Ld.go ()=W) (fun J1 v=>?_) ?_
 ·unfold yX at c;refine q (g (s (mi r) (s (kS r r) (s (lF r) (s (Dv uM r) (s (qp r r) (n ?_)))))));rcases iv c with ⟨C,c⟩|⟨C,c⟩
  ·refine jM (bt C) (q (g (nM (jN a [[T (⟨#[60,61]⟩:BA)],[T (⟨#[61,61]⟩:BA)],[T (⟨#[33,61]⟩:BA)]] ([(⟨#[60,61]⟩:BA),(⟨#[61,61]⟩:BA),(⟨#[33,61]⟩:BA)]:List BA) (TM r r r) r r (by decide) ⟨r,⟨r,⟨r,y⟩⟩⟩) ?_)));rintro _ w3 ⟨D,rfl,a⟩;refine s (lK kX r) (s (mi r) (n ?_));have X:=(a.vw 0 0 r r).bd;obtain ⟨S,d,c⟩:=bs c;refine qF (fun f w=>Has f [(0,T m),(1,V o)]/\Bx k w ah G [O k.heap.size (ad D) 3 9 BA [[T (⟨#[60,61]⟩:BA)],[T (⟨#[61,61]⟩:BA)],[T (⟨#[33,61]⟩:BA)]]] [.els [[T (⟨#[60,61]⟩:BA)],[T (⟨#[61,61]⟩:BA)],[T (⟨#[33,61]⟩:BA)]] ([(⟨#[60,61]⟩:BA),(⟨#[61,61]⟩:BA),(⟨#[33,61]⟩:BA)]:List BA)]/\Ld.go ()=S) (fun J4 E=>?_) ?_
   ·refine o9 (kI (fun aj f w=>∃ i,aj=([(⟨#[60,61]⟩:BA),(⟨#[61,61]⟩:BA),(⟨#[33,61]⟩:BA)]:List BA).length - i/\i<=([(⟨#[60,61]⟩:BA),(⟨#[61,61]⟩:BA),(⟨#[33,61]⟩:BA)]:List BA).length/\Has f [(16,V (i:Int)),(0,T m),(1,V o),(14,.slice (ad D) ([(⟨#[60,61]⟩:BA),(⟨#[61,61]⟩:BA),(⟨#[33,61]⟩:BA)]:List BA).length 3),(15,V ((([(⟨#[60,61]⟩:BA),(⟨#[61,61]⟩:BA),(⟨#[33,61]⟩:BA)]:List BA).length:Nat):Int))]/\Bx k w ah G [O k.heap.size (ad D) 3 9 BA [[T (⟨#[60,61]⟩:BA)],[T (⟨#[61,61]⟩:BA)],[T (⟨#[33,61]⟩:BA)]]] [.els [[T (⟨#[60,61]⟩:BA)],[T (⟨#[61,61]⟩:BA)],[T (⟨#[33,61]⟩:BA)]] ([(⟨#[60,61]⟩:BA),(⟨#[61,61]⟩:BA),(⟨#[33,61]⟩:BA)]:List BA)]/\rX fu m o (([(⟨#[60,61]⟩:BA),(⟨#[61,61]⟩:BA),(⟨#[33,61]⟩:BA)]:List BA).drop i) i=some S) (([(⟨#[60,61]⟩:BA),(⟨#[61,61]⟩:BA),(⟨#[33,61]⟩:BA)]:List BA).length) ⟨0,r,Nat.zero_le _,⟨r,r,r,r,r,y⟩,a,d⟩ ?_);clear a d;rintro aj f w ⟨i,rfl,Y,hf,a,d⟩ K4 F;obtain ⟨ai,rfl⟩:=mY hf;rcases Nat.lt_or_ge i ([(⟨#[60,61]⟩:BA),(⟨#[61,61]⟩:BA),(⟨#[33,61]⟩:BA)]:List BA).length with x | x
    ·obtain ⟨u4,p⟩:=lT (l:=([(⟨#[60,61]⟩:BA),(⟨#[61,61]⟩:BA),(⟨#[33,61]⟩:BA)]:List BA)) x;rw [l8 p,rX] at d;refine q (g (s (uK r r (by omega)) (n (q (jM r (wk (q (o9 (q (g (s (kV kX pO r r r (a.vw 0 0 r r) p) (s (jS uM r r ((tC (ds:=[T u4]) (a.vw 0 0 r r) p (fun _ h=>h)) 0 _ r)) (s (mP r) ?_)))))))))))));refine n (q (g (s (lF r) (s (mi r) (s (mi r) (s (kS r r) ?_))))));obtain ⟨g5,H,d⟩:=bs d;refine s (XI uM r r r H) (s (lF r) (s (sj r r) (n ?_)));rcases iv d with ⟨I,d⟩|⟨I,d⟩
     ·refine jM (bt I) (q (g (s (lF r) (s (mP r) (n (kD ?_))))));obtain rfl:=sm d;replace c:=oi c;obtain rfl:=sm c;replace e:=oi e;obtain rfl:=sm e;refine jB r (kH r) ?_;exact ⟨r,a.ad [] []⟩
     refine jJ (bf I) (wk (g (s (ng r r (by omega) (by omega)) (s (mi r) (n ?_)))));exact F (([(⟨#[60,61]⟩:BA),(⟨#[61,61]⟩:BA),(⟨#[33,61]⟩:BA)]:List BA).length - (i+1)) _ _ (by omega) ⟨i+1,r,by omega,⟨r,r,r,r,r,y⟩,a,d⟩
    obtain rfl:i=([(⟨#[60,61]⟩:BA),(⟨#[61,61]⟩:BA),(⟨#[33,61]⟩:BA)]:List BA).length:=by omega
    rw [lM,rX] at d;refine q (g (s (uJ r r (by omega)) (n (q (jJ r (uy ?_))))));exact E _ _ ⟨⟨r,r,y⟩,a,sm d⟩
   clear a;rintro f w ⟨hf,a,J⟩;obtain ⟨ai,rfl⟩:=mY hf;subst J;replace c:=gi c;exact v _ _ ⟨⟨r,r,y⟩,a.ad [] [],sm c⟩
  refine jJ (bf C) (wk ?_);exact v _ _ ⟨⟨r,r,y⟩,a,sm c⟩
 clear a;rintro f w ⟨hf,a,K⟩;obtain ⟨ai,rfl⟩:=mY hf;subst K;replace e:=gi e;refine q (q (g (nM (jN a [[.int .u8 40],[.int .u8 41],[.int .u8 123],[.int .u8 125],[.int .u8 91],[.int .u8 93],[.int .u8 44],[.int .u8 59],[.int .u8 58],[.int .u8 46],[.int .u8 43],[.int .u8 45],[.int .u8 42],[.int .u8 47],[.int .u8 37],[.int .u8 38],[.int .u8 124],[.int .u8 94],[.int .u8 60],[.int .u8 61],[.int .u8 33]] ([⟨40⟩,⟨41⟩,⟨123⟩,⟨125⟩,⟨91⟩,⟨93⟩,⟨44⟩,⟨59⟩,⟨58⟩,⟨46⟩,⟨43⟩,⟨45⟩,⟨42⟩,⟨47⟩,⟨37⟩,⟨38⟩,⟨124⟩,⟨94⟩,⟨60⟩,⟨61⟩,⟨33⟩]:List EU) (OU r r r r r r r r r r r r r r r r r r r r r) r r (by decide) ⟨r,⟨r,⟨r,⟨r,⟨r,⟨r,⟨r,⟨r,⟨r,⟨r,⟨r,⟨r,⟨r,⟨r,⟨r,⟨r,⟨r,⟨r,⟨r,⟨r,⟨r,y⟩⟩⟩⟩⟩⟩⟩⟩⟩⟩⟩⟩⟩⟩⟩⟩⟩⟩⟩⟩⟩) ?_)));rintro _ w7 ⟨L,rfl,a⟩;refine nM (aaM a 0 0 r r PY u5_ r) ?_;rintro _ w8 ⟨rfl,a⟩;try dsimp only [List.eraseIdx] at a
 refine s (lK PY r) (s (mi r) (n ?_));have a1:=(a.dl 0 r).bd;obtain ⟨U,b,e⟩:=bs e;refine qF (fun f w=>Has f []/\Bx k w ah G [] [.l (ad L) 21 ([⟨40⟩,⟨41⟩,⟨123⟩,⟨125⟩,⟨91⟩,⟨93⟩,⟨44⟩,⟨59⟩,⟨58⟩,⟨46⟩,⟨43⟩,⟨45⟩,⟨42⟩,⟨47⟩,⟨37⟩,⟨38⟩,⟨124⟩,⟨94⟩,⟨60⟩,⟨61⟩,⟨33⟩]:List EU)]/\Ld.go ()=U) (fun J9 M=>?_) ?_
 ·refine o9 (kI (fun aj f w=>∃ j,aj=([⟨40⟩,⟨41⟩,⟨123⟩,⟨125⟩,⟨91⟩,⟨93⟩,⟨44⟩,⟨59⟩,⟨58⟩,⟨46⟩,⟨43⟩,⟨45⟩,⟨42⟩,⟨47⟩,⟨37⟩,⟨38⟩,⟨124⟩,⟨94⟩,⟨60⟩,⟨61⟩,⟨33⟩]:List EU).length - j/\j<=([⟨40⟩,⟨41⟩,⟨123⟩,⟨125⟩,⟨91⟩,⟨93⟩,⟨44⟩,⟨59⟩,⟨58⟩,⟨46⟩,⟨43⟩,⟨45⟩,⟨42⟩,⟨47⟩,⟨37⟩,⟨38⟩,⟨124⟩,⟨94⟩,⟨60⟩,⟨61⟩,⟨33⟩]:List EU).length/\Has f [(32,V (j:Int)),(0,T m),(1,V o),(30,.slice (ad L) ([⟨40⟩,⟨41⟩,⟨123⟩,⟨125⟩,⟨91⟩,⟨93⟩,⟨44⟩,⟨59⟩,⟨58⟩,⟨46⟩,⟨43⟩,⟨45⟩,⟨42⟩,⟨47⟩,⟨37⟩,⟨38⟩,⟨124⟩,⟨94⟩,⟨60⟩,⟨61⟩,⟨33⟩]:List EU).length 21),(31,V ((([⟨40⟩,⟨41⟩,⟨123⟩,⟨125⟩,⟨91⟩,⟨93⟩,⟨44⟩,⟨59⟩,⟨58⟩,⟨46⟩,⟨43⟩,⟨45⟩,⟨42⟩,⟨47⟩,⟨37⟩,⟨38⟩,⟨124⟩,⟨94⟩,⟨60⟩,⟨61⟩,⟨33⟩]:List EU).length:Nat):Int))]/\Bx k w ah G [] [.l (ad L) 21 ([⟨40⟩,⟨41⟩,⟨123⟩,⟨125⟩,⟨91⟩,⟨93⟩,⟨44⟩,⟨59⟩,⟨58⟩,⟨46⟩,⟨43⟩,⟨45⟩,⟨42⟩,⟨47⟩,⟨37⟩,⟨38⟩,⟨124⟩,⟨94⟩,⟨60⟩,⟨61⟩,⟨33⟩]:List EU)]/\sG fu m o (([⟨40⟩,⟨41⟩,⟨123⟩,⟨125⟩,⟨91⟩,⟨93⟩,⟨44⟩,⟨59⟩,⟨58⟩,⟨46⟩,⟨43⟩,⟨45⟩,⟨42⟩,⟨47⟩,⟨37⟩,⟨38⟩,⟨124⟩,⟨94⟩,⟨60⟩,⟨61⟩,⟨33⟩]:List EU).drop j) j=some U) (([⟨40⟩,⟨41⟩,⟨123⟩,⟨125⟩,⟨91⟩,⟨93⟩,⟨44⟩,⟨59⟩,⟨58⟩,⟨46⟩,⟨43⟩,⟨45⟩,⟨42⟩,⟨47⟩,⟨37⟩,⟨38⟩,⟨124⟩,⟨94⟩,⟨60⟩,⟨61⟩,⟨33⟩]:List EU).length) ⟨0,r,Nat.zero_le _,⟨r,r,r,r,r,y⟩,a,b⟩ ?_);clear a b;rintro aj f w ⟨j,rfl,a2,hf,a,b⟩ K9 N;obtain ⟨ai,rfl⟩:=mY hf;rcases Nat.lt_or_ge j ([⟨40⟩,⟨41⟩,⟨123⟩,⟨125⟩,⟨91⟩,⟨93⟩,⟨44⟩,⟨59⟩,⟨58⟩,⟨46⟩,⟨43⟩,⟨45⟩,⟨42⟩,⟨47⟩,⟨37⟩,⟨38⟩,⟨124⟩,⟨94⟩,⟨60⟩,⟨61⟩,⟨33⟩]:List EU).length with z | z
  ·obtain ⟨u9,t⟩:=lT (l:=([⟨40⟩,⟨41⟩,⟨123⟩,⟨125⟩,⟨91⟩,⟨93⟩,⟨44⟩,⟨59⟩,⟨58⟩,⟨46⟩,⟨43⟩,⟨45⟩,⟨42⟩,⟨47⟩,⟨37⟩,⟨38⟩,⟨124⟩,⟨94⟩,⟨60⟩,⟨61⟩,⟨33⟩]:List EU)) z;rw [l8 t,sG] at b;refine q (g (s (uK r r (by omega)) (n (q (jM r (wk (q (o9 (q (g (s (kV PY ti5 r r r (a.dl 0 r) t) (s (jS u5_ r r ((tC (ds:=[.int .u8 u9.n]) (a.dl 0 r) t (fun _ h=>h)) 0 _ r)) (s (xi r) ?_)))))))))))));refine n (q (g (s (lF r) (s (mi r) ?_))));obtain ⟨a4,A,b⟩:=bs b;refine s (Io uM r r A) (s (mi r) (s (kR r r) (n ?_)));rcases iv b with ⟨u,b⟩|⟨u,b⟩
   ·refine jM (bt u) (q (g (s (lF r) (s (mi r) (s (mi r) (s (kS r r) ?_))))));obtain ⟨a5,B,b⟩:=bs b;refine s (XI uM r r r B) (s (mP r) (n (kD ?_)));obtain rfl:=sm b;replace e:=oi e;obtain rfl:=sm e;refine jB r (kH r) ?_;exact ⟨r,a.dp []⟩
   refine jJ (bf u) (wk (g (s (ng r r (by omega) (by omega)) (s (mi r) (n ?_)))));exact N (([⟨40⟩,⟨41⟩,⟨123⟩,⟨125⟩,⟨91⟩,⟨93⟩,⟨44⟩,⟨59⟩,⟨58⟩,⟨46⟩,⟨43⟩,⟨45⟩,⟨42⟩,⟨47⟩,⟨37⟩,⟨38⟩,⟨124⟩,⟨94⟩,⟨60⟩,⟨61⟩,⟨33⟩]:List EU).length - (j+1)) _ _ (by omega) ⟨j+1,r,by omega,⟨r,r,r,r,r,y⟩,a,b⟩
  obtain rfl:j=([⟨40⟩,⟨41⟩,⟨123⟩,⟨125⟩,⟨91⟩,⟨93⟩,⟨44⟩,⟨59⟩,⟨58⟩,⟨46⟩,⟨43⟩,⟨45⟩,⟨42⟩,⟨47⟩,⟨37⟩,⟨38⟩,⟨124⟩,⟨94⟩,⟨60⟩,⟨61⟩,⟨33⟩]:List EU).length:=by omega
  rw [lM,sG] at b;refine q (g (s (uJ r r (by omega)) (n (q (jJ r (uy ?_))))));exact M _ _ ⟨y,a,sm b⟩
 clear a;rintro f w ⟨hf,a,Q⟩;obtain ⟨ai,rfl⟩:=mY hf;subst Q;replace e:=gi e;refine q (g (s (mP r) (n (kD ?_))));obtain rfl:=sm e;refine jB r (kH r) ?_;exact ⟨r,a.dp []⟩
def MU (m:Int->Option Int):Prop:=∀ {a d b c},Pre a d [] []->m b=some c-> Calls prog 85 #[V b] a (pz fun v w=>v=V c/\Bx a w d (lD []) [] [])
def zf (fu:Nat)(a:Int):Option (Ld Bool Int):=if a=14 then some (.go (decide (a=14))) else if a=15 then some (.go (decide (a=15))) else if a=16 then some (.go (decide (a=16))) else some (.go (decide (a=17)))
def zk (fu:Nat)(a:Int):Option (Ld Bool Int):=if a=11 then some (.go (decide (a=11))) else if a=12 then some (.go (decide (a=12))) else some (.go (decide (a=13)))
def y5 (fu:Nat)(a:Int):Option (Ld Bool Int):=if a=6 then some (.go (decide (a=6))) else some (.go (decide (a=7)))
def AO (fu:Nat)(a:Int):Option Int:=(zf fu a).bind fun e=>e.el (fun c=>if c=true then some 1 else (zk fu a).bind fun e=>e.el (fun d=>if d=true then some 2 else (y5 fu a).bind fun e=>e.el (fun b=>if b=true then some 3 else if a=8 then some 4 else if a=9 then some 4 else if a=10 then some 4 else if a=4 then some 5 else if a=5 then some 5 else some 6) (fun o=>some o)) (fun o=>some o)) (fun o=>some o)
theorem Mw (fu:Nat):MU (AO fu):=by
 intro E a1 i W Q a;unfold AO at a;have c:=Q.bx;clear Q;generalize X:lD _=G at c ⊢;refine cf func85 r ?_;refine lu [(0,V i)] ⟨r,y⟩ fun a2=>?_;refine q (g (s (xi r) (n (q (q (g (s (mi r) (n (o9 (q ?_))))))))));obtain ⟨R,b,a⟩:=bs a;refine qF (fun f w=>∃ j,Has f [(3,V i),(4,.bool j)]/\Bx E w a1 G [] []/\Ld.go j=R) (fun Y m=>?_) ?_
 ·unfold zf at b;refine q (g (s (kR r r) (s (kr r) (n ?_))));rcases iv b with ⟨F,b⟩|⟨F,b⟩
  ·refine jM (bt F) (wk ?_);exact m _ _ ⟨decide (i=14),⟨r,r,y⟩,c,sm b⟩
  refine jJ (bf F) (q (g (s (kR r r) (s (kr r) (n ?_)))));rcases iv b with ⟨H,b⟩|⟨H,b⟩
  ·refine jM (bt H) (wk ?_);exact m _ _ ⟨decide (i=15),⟨r,r,y⟩,c,sm b⟩
  refine jJ (bf H) (q (g (s (kR r r) (s (kr r) (n ?_)))));rcases iv b with ⟨I,b⟩|⟨I,b⟩
  ·refine jM (bt I) (wk ?_);exact m _ _ ⟨decide (i=16),⟨r,r,y⟩,c,sm b⟩
  refine jJ (bf I) (g (s (kR r r) (s (kr r) (n ?_))));exact m _ _ ⟨decide (i=17),⟨r,r,y⟩,c,sm b⟩
 clear c;rintro f w ⟨j,hf,c,J⟩;obtain ⟨a2,rfl⟩:=mY hf;subst J;replace a:=gi a;rcases iv a with ⟨B,a⟩|⟨B,a⟩
 ·refine jM (cb B) (q (g (s (xi r) (n (kD ?_)))));obtain rfl:=sm a;refine jB r (kH r) ?_;exact ⟨r,c⟩
 refine jJ (vY B) (q ?_);obtain ⟨S,d,a⟩:=bs a;refine qF (fun f w=>∃ k,Has f [(3,V i),(9,.bool k)]/\Bx E w a1 G [] []/\Ld.go k=S) (fun J6 v=>?_) ?_
 ·unfold zk at d;refine q (g (s (kR r r) (s (kr r) (n ?_))));rcases iv d with ⟨K,d⟩|⟨K,d⟩
  ·refine jM (bt K) (wk ?_);exact v _ _ ⟨decide (i=11),⟨r,r,y⟩,c,sm d⟩
  refine jJ (bf K) (q (g (s (kR r r) (s (kr r) (n ?_)))));rcases iv d with ⟨L,d⟩|⟨L,d⟩
  ·refine jM (bt L) (wk ?_);exact v _ _ ⟨decide (i=12),⟨r,r,y⟩,c,sm d⟩
  refine jJ (bf L) (g (s (kR r r) (s (kr r) (n ?_))));exact v _ _ ⟨decide (i=13),⟨r,r,y⟩,c,sm d⟩
 clear c;rintro f w ⟨k,hf,c,M⟩;obtain ⟨a2,rfl⟩:=mY hf;subst M;replace a:=gi a;rcases iv a with ⟨C,a⟩|⟨C,a⟩
 ·refine jM (cb C) (q (g (s (xi r) (n (kD ?_)))));obtain rfl:=sm a;refine jB r (kH r) ?_;exact ⟨r,c⟩
 refine jJ (vY C) (q ?_);obtain ⟨N,e,a⟩:=bs a;refine qF (fun f w=>∃ h,Has f [(3,V i),(13,.bool h)]/\Bx E w a1 G [] []/\Ld.go h=N) (fun U u=>?_) ?_
 ·unfold y5 at e;refine q (g (s (kR r r) (s (kr r) (n ?_))));rcases iv e with ⟨x,e⟩|⟨x,e⟩
  ·refine jM (bt x) (wk ?_);exact u _ _ ⟨decide (i=6),⟨r,r,y⟩,c,sm e⟩
  refine jJ (bf x) (g (s (kR r r) (s (kr r) (n ?_))));exact u _ _ ⟨decide (i=7),⟨r,r,y⟩,c,sm e⟩
 clear c;rintro f w ⟨h,hf,c,D⟩;obtain ⟨a2,rfl⟩:=mY hf;subst D;replace a:=gi a;rcases iv a with ⟨l,a⟩|⟨l,a⟩
 ·refine jM (cb l) (q (g (s (xi r) (n (kD ?_)))));obtain rfl:=sm a;refine jB r (kH r) ?_;exact ⟨r,c⟩
 refine jJ (vY l) (q (q (g (s (kR r r) (s (kr r) (n ?_))))));rcases iv a with ⟨o,a⟩|⟨o,a⟩
 ·refine jM (bt o) (wk ?_);rw [sQ o];refine jM r (q (g (s (xi r) (n (kD ?_)))));obtain rfl:=sm a;refine jB r (kH r) ?_;exact ⟨r,c⟩
 refine jJ (bf o) (q (g (s (kR r r) (s (kr r) (n ?_)))));rcases iv a with ⟨p,a⟩|⟨p,a⟩
 ·refine jM (bt p) (wk ?_);rw [sQ p];refine jM r (q (g (s (xi r) (n (kD ?_)))));obtain rfl:=sm a;refine jB r (kH r) ?_;exact ⟨r,c⟩
 refine jJ (bf p) (g (s (kR r r) (s (kr r) (n ?_))));rcases iv a with ⟨z,a⟩|⟨z,a⟩
 ·refine jM (bt z) (q (g (s (xi r) (n (kD ?_)))));obtain rfl:=sm a;refine jB r (kH r) ?_;exact ⟨r,c⟩
 refine jJ (bf z) (q (q (g (s (kR r r) (s (kr r) (n ?_))))));rcases iv a with ⟨t,a⟩|⟨t,a⟩
 ·refine jM (bt t) (wk ?_);rw [sQ t];refine jM r (q (g (s (xi r) (n (kD ?_)))));obtain rfl:=sm a;refine jB r (kH r) ?_;exact ⟨r,c⟩
 refine jJ (bf t) (g (s (kR r r) (s (kr r) (n ?_))));rcases iv a with ⟨A,a⟩|⟨A,a⟩
 ·refine jM (bt A) (q (g (s (xi r) (n (kD ?_)))));obtain rfl:=sm a;refine jB r (kH r) ?_;exact ⟨r,c⟩
 refine jJ (bf A) (wk (q (g (s (xi r) (n (kD ?_))))));obtain rfl:=sm a;refine jB r (kH r) ?_;exact ⟨r,c⟩
def F9 (m:BA->Option Ge):Prop:=∀ {d f e}{c:Ge},Pre d f [] []->m e=some c-> Calls prog 46 #[T e] d (pz fun v w=>∃ a b,v=.agg #[V c.e,V c.d,V c.g,T c.b,T c.c,Z a c.a b]/\Bx d w f (lD []) [] [.l a b c.a])
def nY (fu:Nat)(a:BA):Option Ge:=some (⟨1,0,0,a,be,([]:List Ge)⟩:Ge)
theorem pE (fu:Nat):F9 (nY fu):=by
 intro f o b h c e;unfold nY at e;have a:=c.bx;clear c;generalize i:lD _=G at a ⊢;refine cf func46 r ?_;refine lu [(0,T b)] ⟨r,y⟩ fun p=>?_;refine q (g (nM (nV a (jX jR)) ?_));rintro _ j ⟨k,rfl,a⟩;refine n (q (g (s (lF r) (s (Fu r r) (lq (tb a 0 [V 1,V 0,V 0,T b,T be,sn] r jR r r r r r (show _=#[V 1,V 0,V 0,T b,T be,sn] from r)) ?_)))));intro m a;try dsimp only [List.set] at a
 refine n (kD ?_);replace a:=a.kC (d:=.l none 0 ([]:List Ge)) oZ;obtain rfl:=sm e;refine jB r (uE r l6 r jR r (a.bk 0 r)) ?_;exact ⟨none,0,r,a.arr [] r⟩
def Ib (m:Int->Option Ge):Prop:=∀ {d f e}{c:Ge},Pre d f [] []->m e=some c-> Calls prog 87 #[V e] d (pz fun v w=>∃ a b,v=.agg #[V c.e,V c.d,V c.g,T c.b,T c.c,Z a c.a b]/\Bx d w f (lD []) [] [.l a b c.a])
def rZ (fu:Nat)(a:Int):Option Ge:=some (⟨0,a,0,be,be,([]:List Ge)⟩:Ge)
theorem rC (fu:Nat):Ib (rZ fu):=by
 intro f o b h c e;unfold rZ at e;have a:=c.bx;clear c;generalize i:lD _=G at a ⊢;refine cf func87 r ?_;refine lu [(0,V b)] ⟨r,y⟩ fun p=>?_;refine q (g (nM (nV a (jX jR)) ?_));rintro _ j ⟨k,rfl,a⟩;refine n (q (g (s (mi r) (s (JJ r r) (lq (tb a 0 [V 0,V b,V 0,T be,T be,sn] r jR r r r r r (show _=#[V 0,V b,V 0,T be,T be,sn] from r)) ?_)))));intro m a;try dsimp only [List.set] at a
 refine n (kD ?_);replace a:=a.kC (d:=.l none 0 ([]:List Ge)) oZ;obtain rfl:=sm e;refine jB r (uE r l6 r jR r (a.bk 0 r)) ?_;exact ⟨none,0,r,a.arr [] r⟩
def Kh (m:(List Int)->Option (List Int)):Prop:=∀ {e i f a b h},Pre e i [] [.l a b f]->m f=some h-> Calls prog 16 #[Z a f b] e (pz fun v w=>∃ c d,v=Z c h d/\Bx e w i (lD []) [] [.l c d h])
def zJ (fu:Nat)(a:(List Int)):Option (List Int):=if 200 < (a.length:Int) then (sl a 0 200).bind fun b=>some b else some a
theorem Lp (fu:Nat):Kh (zJ fu):=by
 intro A D v a b B p c;unfold zJ at c;have e:=p.bx;clear p;generalize C:lD _=G at e ⊢;refine cf func16 r ?_;refine lu [(0,Z a v b)] ⟨r,y⟩ fun E=>?_;refine q (g (s (nk r) (n (q (q (g (s (mH r) (s (lK qH r) (s (uL r r) (n ?_))))))))));rcases iv c with ⟨j,c⟩|⟨j,c⟩
 ·refine jM (bt j) (q (g (s (mH r) ?_)));obtain ⟨k,m,c⟩:=bs c;obtain ⟨w,t,x,o,u,f,h⟩:=Cr m;obtain rfl:w=0:=by omega
  have i:k.length=t:=by rw [<-h,List.length_take,List.length_drop];omega
  replace e:=e.kC (d:=.l a b k) (by have F:=(e.dl 0 r).head f;rw [h] at F;exact F);refine s (show Yl _ _ _ _ _ _ _ _ _ (.slice a k.length b) from (congrArg (fun z=>Value.slice a z b) i).symm ▸ yC t qH mV r r o (Nat.le_trans f (e.dl 1 r).cap)) (s (nk r) (n (kD ?_)));obtain rfl:=sm c;refine jB r (kH r) ?_;exact ⟨a,b,r,e.dp [0]⟩
 refine jJ (bf j) (wk (q (g (s (mH r) (s (nk r) (n (kD ?_)))))));obtain rfl:=sm c;refine jB r (kH r) ?_;exact ⟨a,b,r,e⟩
def Nr (m:BA->Int->Int->Option (Int × Int)):Prop:=∀ {a h b c d R},Pre a h [] []->m b c d=some R-> Calls prog 33 #[T b,V c,V d] a (pz fun v w=>iA R fun e f=>v=.tuple #[V e,V f]/\Bx a w h (lD []) [] [])
def y8 (fu:Nat)(b:BA) (a:Int)(c:Int):Option (Ld Bool (Int × Int)):=if c=47 then if (wr (a+1)) < (b.size:Int) then (ixs b (wr (a+1))).bind fun d=>some (.go (decide (d=47))) else some (.go false) else some (.go false)
def su (fu:Nat)(b:BA):Nat→Int→Option (Ld (Int) (Int × Int))
 | 0,_=>none
 | d+1,a=>
 if a < (b.size:Int) then
  (ixs b a).bind fun c=>
  if c≠10 then
   su fu b d (wr (a+1))
  else
   some (.go a)
 else
  some (.go a)
def yV (fu:Nat)(a:Int)(b:Int)(c:Int):Option (Ld Unit (Int × Int)):=if c≠32 then if c≠9 then if c≠13 then if c≠10 then some (.out (a,b)) else some (.go ()) else some (.go ()) else some (.go ()) else some (.go ())
def pX (fu:Nat)(c:BA):Nat→Int→Int→Option (Ld (Int × Int) (Int × Int))
 | 0,_,_=>none
 | f+1,a,b=>
 if a < (c.size:Int) then
  (ixs c a).bind fun h=>
  (y8 fu c a h).bind fun i=>i.el (fun d=>
  if d=true then
   (su fu c fu a).bind fun i=>i.el (fun e=>
   pX fu c f e b
   ) (fun o=>some (.out o))
  else
   (yV fu a b h).bind fun i=>i.el (fun _=>
   if h=10 then
    pX fu c f (wr (a+1)) (wr (b+1))
   else
    pX fu c f (wr (a+1)) b
   ) (fun o=>some (.out o))
  ) (fun o=>some (.out o))
 else
  some (.go (a,b))
def yJ (fu:Nat)(c:BA) (d:Int)(e:Int):Option (Int × Int):=(pX fu c fu d e).bind fun f=>f.el (fun f=>iA f fun a b=>some (a,b)) (fun o=>some o)
theorem FQ (fu:Nat):Nr (yJ fu):=by
 intro D aj o x1 x2 R hP l;unfold yJ at l;have i:=hP.bx;clear hP;generalize hG:lD _=G at i ⊢;refine cf func33 r ?_;refine lu [(0,T o),(1,V x1),(2,V x2)] ⟨r,r,r,y⟩ fun ak=>?_;refine q (g (s (xi r) (s (xi r) (n (q ?_)))));obtain ⟨Y1,a,l⟩:=bs l;refine qF (fun f w=>∃ d c,Has f [(1,V d),(2,V c)]/\Bx D w aj G [] []/\Ld.go (d,c)=Y1) (fun J1 K=>?_) ?_
 ·refine o9 (kI (fun al f w=>∃ d c,Has f [(0,T o),(1,V d),(2,V c)]/\Bx D w aj G [] []/\pX fu o al d c=some Y1) fu ⟨x1,x2,⟨r,r,r,y⟩,i,a⟩ ?_);clear i a;rintro E f w ⟨d,c,hf,i,a⟩ K1 p;obtain ⟨ak,rfl⟩:=mY hf;cases E with
  | zero=>exact nn a
  | succ E=>
   rw [pX] at a;refine q (q (g (s (mi r) (s (lF r) (s (Dv uM r) (s (qp r r) (n ?_)))))));rcases iv a with ⟨L,a⟩|⟨L,a⟩
   ·refine jM (bt L) (wk (o9 (q (g (s (lF r) (s (mi r) ?_))))));obtain ⟨g3,M,a⟩:=bs a;refine s (Io uM r r M) (s (xi r) (n (q (q ?_))));obtain ⟨Y4,j,a⟩:=bs a;refine qF (fun f w=>∃ m,Has f [(0,T o),(1,V d),(2,V c),(8,.int .u8 g3),(31,.bool m)]/\Bx D w aj G [] []/\Ld.go m=Y4) (fun J4 t=>?_) ?_
    ·unfold y8 at j;refine g (s (mi r) (s (kR r r) (s (kQ r) ?_)));rcases iv j with ⟨N,j⟩|⟨N,j⟩
     ·rw [sQ N];refine ku r (s (mi r) (ku r (s (kS r r) (ku r (s (lF r) (ku r (s (Dv uM r) (ku r (s (qp r r) (s (kF r r) (s (kQ r) ?_)))))))))));rcases iv j with ⟨Q,j⟩|⟨Q,j⟩
      ·rw [sQ Q];refine ku r (s (lF r) (ku r (s (mi r) (ku r (s (kS r r) ?_)))));obtain ⟨g7,S,j⟩:=bs j;refine ku r (s (Io uM r r S) (ku r (s (kR r r) (s (kF r r) (n ?_)))));exact t _ _ ⟨decide (g7=47),⟨r,r,r,r,r,y⟩,i,sm j⟩
      rw [tF Q];refine jK r (jK r (jK r (jK r (jK r (s (jY r r) (n ?_))))));exact t _ _ ⟨false,⟨r,r,r,r,r,y⟩,i,sm j⟩
     rw [tF N];refine jK r (jK r (jK r (jK r (jK r (s (jY r r) (s (kQ r) (jK r (jK r (jK r (jK r (jK r (s (jY r r) (n ?_)))))))))))));exact t _ _ ⟨false,⟨r,r,r,r,r,y⟩,i,sm j⟩
    clear i;rintro f w ⟨m,hf,i,U⟩;obtain ⟨ak,rfl⟩:=mY hf;subst U;replace a:=gi a;rcases iv a with ⟨F,a⟩|⟨F,a⟩
    ·refine jM (cb F) (q ?_);obtain ⟨Y9,h,a⟩:=bs a;refine qF (fun f w=>∃ e,Has f [(0,T o),(1,V e),(2,V c)]/\Bx D w aj G [] []/\Ld.go e=Y9) (fun J9 H=>?_) ?_
     ·refine o9 (kI (fun al f w=>∃ e,Has f [(0,T o),(1,V e),(2,V c)]/\Bx D w aj G [] []/\su fu o al e=some Y9) fu ⟨d,⟨r,r,r,y⟩,i,h⟩ ?_);clear i h;rintro W f w ⟨e,hf,i,h⟩ K9 X;obtain ⟨ak,rfl⟩:=mY hf;cases W with
      | zero=>exact nn h
      | succ W=>
       rw [su] at h;refine q (q (g (s (mi r) (s (lF r) (s (Dv uM r) (s (qp r r) (s (kQ r) ?_)))))));rcases iv h with ⟨u,h⟩|⟨u,h⟩
       ·rw [sQ u];refine ku r (s (lF r) (ku r (s (mi r) ?_)));obtain ⟨aa,I,h⟩:=bs h;refine ku r (s (Io uM r r I) (ku r (s (qE r r) (s (kF r r) (n ?_)))));rcases iv h with ⟨v,h⟩|⟨v,h⟩
        ·refine jM (bt v) (wk (o9 (g (s (mi r) (s (kS r r) (s (xi r) (n ?_)))))));exact X W _ _ (Nat.lt_succ_self _) ⟨wr (e+1),⟨r,r,r,y⟩,i,h⟩
        refine jJ (bf v) (uy ?_);exact H _ _ ⟨e,⟨r,r,r,y⟩,i,sm h⟩
       rw [tF u];refine jK r (jK r (jK r (jK r (s (jY r r) (n (jJ r (uy ?_)))))));exact H _ _ ⟨e,⟨r,r,r,y⟩,i,sm h⟩
     clear i;rintro f w ⟨e,hf,i,Y⟩;obtain ⟨ak,rfl⟩:=mY hf;subst Y;replace a:=gi a;refine uy ?_;exact p E _ _ (Nat.lt_succ_self _) ⟨e,c,⟨r,r,r,y⟩,i,a⟩
    refine jJ (vY F) (wk (q ?_));obtain ⟨a0,b,a⟩:=bs a;refine IE i (fun B f w=>Has f [(0,T o),(1,V d),(2,V c),(8,.int .u8 g3)]/\B w/\Ld.go ()=a0) (fun ab k=>?_) ?_
    ·unfold yV at b;refine q (g (s (mi r) (s (qE r r) (s (kQ r) ?_))));rcases iv b with ⟨x,b⟩|⟨x,b⟩
     ·rw [sQ x];refine ku r (s (mi r) (ku r (s (qE r r) (s (kF r r) (s (kQ r) ?_)))));rcases iv b with ⟨z,b⟩|⟨z,b⟩
      ·rw [sQ z];refine ku r (s (mi r) (ku r (s (qE r r) (s (kF r r) (s (kQ r) ?_)))));rcases iv b with ⟨A,b⟩|⟨A,b⟩
       ·rw [sQ A];refine ku r (s (mi r) (ku r (s (qE r r) (s (kF r r) (n ?_)))));rcases iv b with ⟨B,b⟩|⟨B,b⟩
        ·refine jM (bt B) (q (g (s (mi r) (s (mi r) (s (xi r) (s (xi r) (n (kD ?_))))))));obtain rfl:=sm b;replace a:=oi a;obtain rfl:=sm a;replace l:=oi l;obtain rfl:=sm l;refine mR r (kH r) (kH r) ?_;exact mZ (⟨r,i⟩)
        refine jJ (bf B) (wk ?_);exact k _ _ ⟨⟨r,r,r,r,y⟩,i,sm b⟩
       rw [tF A];refine jK r (jK r (s (jY r r) (n (jJ r (wk ?_)))));exact k _ _ ⟨⟨r,r,r,r,y⟩,i,sm b⟩
      rw [tF z];refine jK r (jK r (s (jY r r) (s (kQ r) (jK r (jK r (s (jY r r) (n (jJ r (wk ?_)))))))));exact k _ _ ⟨⟨r,r,r,r,y⟩,i,sm b⟩
     rw [tF x];refine jK r (jK r (s (jY r r) (s (kQ r) (jK r (jK r (s (jY r r) (s (kQ r) (jK r (jK r (s (jY r r) (n (jJ r (wk ?_)))))))))))));exact k _ _ ⟨⟨r,r,r,r,y⟩,i,sm b⟩
    clear i;rintro f w ⟨hf,i,J⟩;obtain ⟨ak,rfl⟩:=mY hf;subst J;replace a:=gi a;refine q (q (g (s (mi r) (s (kR r r) (n ?_)))));rcases iv a with ⟨C,a⟩|⟨C,a⟩
    ·refine jM (bt C) (g (s (mi r) (s (kS r r) (s (xi r) (n (g (s (mi r) (s (kS r r) (s (xi r) (n ?_))))))))));exact p E _ _ (Nat.lt_succ_self _) ⟨wr (d+1),wr (c+1),⟨r,r,r,y⟩,i,a⟩
    refine jJ (bf C) (wk (g (s (mi r) (s (kS r r) (s (xi r) (n ?_))))));exact p E _ _ (Nat.lt_succ_self _) ⟨wr (d+1),c,⟨r,r,r,y⟩,i,a⟩
   refine jJ (bf L) (uy ?_);exact K _ _ ⟨d,c,⟨r,r,y⟩,i,sm a⟩
 clear i;rintro f w ⟨d,c,hf,i,a1⟩;obtain ⟨ak,rfl⟩:=mY hf;subst a1;replace l:=gi l;replace l:=pi l;refine q (g (s (mi r) (s (mi r) (s (xi r) (s (xi r) (n (kD ?_)))))));obtain rfl:=sm l;refine mR r (kH r) (kH r) ?_;exact mZ (⟨r,i⟩)
def Ol (m:BA->Int->Int->Option (kT × Int × Int)):Prop:=∀ {b i c d e R},Pre b i [] []->m c d e=some R-> Calls prog 34 #[T c,V d,V e] b (pz fun v w=>iA R fun a R=>iA R fun f h=>v=.tuple #[.agg #[V a.c,V a.f,T a.a,V a.d],V f,V h]/\Bx b w i (lD []) [] [])
def vE (fu:Nat)(d:BA) (a:Int):Option (Ld Bool (kT × Int × Int)):=if a < (d.size:Int) then (ixs d a).bind fun f=>(rT fu f).bind fun c=>if c=true then some (.go true) else (ixs d a).bind fun e=>(uV fu e).bind fun b=>some (.go b) else some (.go false)
def qG (fu:Nat)(c:BA):Nat→Int→Option (Ld (Int) (kT × Int × Int))
 | 0,_=>none
 | d+1,a=>
 (vE fu c a).bind fun e=>e.el (fun b=>
 if b=true then
  qG fu c d (wr (a+1))
 else
  some (.go a)
 ) (fun o=>some (.out o))
def oL (fu:Nat)(d:BA) (f:Int):Nat→Int→Int→Option (Ld (Int × Int) (kT × Int × Int))
 | 0,_,_=>none
 | e+1,a,b=>
 if a < (d.size:Int) then
  (ixs d a).bind fun h=>
  (uV fu h).bind fun c=>
  if c=true then
   if (wr (a - f)) < 18 then
    (ixs d a).bind fun i=>
    oL fu d f e (wr (a+1)) (wr ((wr (10 * b))+(wr (w8 (i - 48)))))
   else
    oL fu d f e (wr (a+1)) b
  else
   some (.go (a,b))
 else
  some (.go (a,b))
def zS (fu:Nat)(d:BA) (a:Int):Option (Ld Unit (kT × Int × Int)):=if a < (d.size:Int) then (ixs d a).bind fun c=>(rT fu c).bind fun b=>if b=true then some (.out ((⟨0,0,be,0⟩:kT),0,6)) else some (.go ()) else some (.go ())
def Bt (fu:Nat)(e:BA) (d:Int)(l:Int):Option (kT × Int × Int):=(ixs e d).bind fun p=>(rT fu p).bind fun k=>if k=true then (qG fu e fu d).bind fun t=>t.el (fun c=>if 12 < (wr (c - d)) then some ((⟨0,0,be,0⟩:kT),0,5) else (R3 e d c).bind fun f=>(uU fu f).bind fun h=>if h=true then some ((⟨3,l,f,0⟩:kT),c,0) else some ((⟨1,l,f,0⟩:kT),c,0)) (fun o=>some o) else (ixs e d).bind fun m=>(uV fu m).bind fun i=>if i=true then (oL fu e d fu d 0).bind fun t=>t.el (fun t=>iA t fun a j=>if 18 < (wr (a - d)) then some ((⟨0,0,be,0⟩:kT),0,5) else (zS fu e a).bind fun t=>t.el (fun _=>some ((⟨2,l,be,j⟩:kT),a,0)) (fun o=>some o)) (fun o=>some o) else (Aq fu e d).bind fun b=>if b=(⟨#[]⟩:BA) then some ((⟨0,0,be,0⟩:kT),0,6) else some ((⟨4,l,b,0⟩:kT),wr (d+(b.size:Int)),0)
theorem Ow (fu:Nat):Ol (Bt fu):=by
 intro X b8 F C l R hP d;unfold Bt at d;have a:=hP.bx;clear hP;generalize hG:lD _=G at a ⊢;refine cf func34 r ?_;refine lu [(0,T F),(1,V C),(2,V l)] ⟨r,r,r,y⟩ fun b9=>?_;refine q (g (nM (nV a (jX qd)) ?_));rintro _ w1 ⟨o,rfl,a⟩;refine s (xi r) (s (xi r) (n (q (g (s (mi r) (s (xi r) (n (q (q (g (s (lF r) (s (mi r) ?_))))))))))));obtain ⟨g2,a9,d⟩:=bs d;refine s (Io uM r r a9) ?_;obtain ⟨ax,h3,d⟩:=bs d;refine sc (ec RA r) (Bl fu (a.pr [] [0] [] r) h3) ?_;rintro _ w3 ⟨rfl,m⟩;replace a:=a.cl [] [0] r m r;try dsimp only [pick,nth,ca,na] at a
 refine n ?_;rcases iv d with ⟨Y,d⟩|⟨Y,d⟩
 ·refine jM (cb Y) (q ?_);obtain ⟨Y5,k,d⟩:=bs d;refine qF (fun f w=>∃ j,Has f [(0,T F),(1,V j),(2,V l),(6,Pt o),(9,V C)]/\Bx X w b8 G [.box o 109 #[V 0,V 0,T be,V 0]] []/\Ld.go j=Y5) (fun J5 aa=>?_) ?_
  ·refine o9 (kI (fun ba f w=>∃ j,Has f [(0,T F),(1,V j),(2,V l),(6,Pt o),(9,V C)]/\Bx X w b8 G [.box o 109 #[V 0,V 0,T be,V 0]] []/\qG fu F ba j=some Y5) fu ⟨C,⟨r,r,r,r,r,y⟩,a,k⟩ ?_);clear a k;rintro n5 f w ⟨j,hf,a,k⟩ K5 ac;obtain ⟨b9,rfl⟩:=mY hf;cases n5 with
   | zero=>exact nn k
   | succ n5=>
    rw [qG] at k;refine q (q ?_);obtain ⟨Y6,i,k⟩:=bs k;refine qF (fun f w=>∃ p,Has f [(0,T F),(1,V j),(2,V l),(6,Pt o),(9,V C),(33,.bool p)]/\Bx X w b8 G [.box o 109 #[V 0,V 0,T be,V 0]] []/\Ld.go p=Y6) (fun J6 K=>?_) ?_
    ·unfold vE at i;refine g (s (mi r) (s (lF r) (s (Dv uM r) (s (qp r r) (s (kQ r) ?_)))));rcases iv i with ⟨h7,i⟩|⟨h7,i⟩
     ·rw [sQ h7];refine ku r (s (lF r) (ku r (s (mi r) ?_)));obtain ⟨g8,af,i⟩:=bs i;refine ku r (s (Io uM r r af) ?_);obtain ⟨az,h9,i⟩:=bs i;refine ku r ?_;refine sc (ec RA r) (Bl fu (a.pr [] [0] [] r) h9) ?_;rintro _ w9 ⟨rfl,m⟩;replace a:=a.cl [] [0] r m r;try dsimp only [pick,nth,ca,na] at a
      refine ku r (s (kQ r) ?_);rcases iv i with ⟨t,i⟩|⟨t,i⟩
      ·rw [t];refine jK r (jK r (jK r (jK r (ku r (s (kF r r) (s (kF r r) (n ?_)))))));exact K _ _ ⟨true,⟨r,r,r,r,r,r,y⟩,a,sm i⟩
      replace t:=nt t;rw [t];refine ku r (s (lF r) (ku r (s (mi r) ?_)));obtain ⟨aD,a0,i⟩:=bs i;refine ku r (s (Io uM r r a0) ?_);obtain ⟨L,ag,i⟩:=bs i;refine ku r ?_;refine sc (ec RY r) (BS fu (a.pr [] [0] [] r) ag) ?_;rintro _ aE ⟨rfl,m⟩;replace a:=a.cl [] [0] r m r;try dsimp only [pick,nth,ca,na] at a
      refine ku r (s (jY r r) (s (kF r r) (n ?_)));exact K _ _ ⟨L,⟨r,r,r,r,r,r,y⟩,a,sm i⟩
     rw [tF h7];refine jK r (jK r (jK r (jK r (jK r (jK r (jK r (jK r (jK r (jK r (s (jY r r) (n ?_)))))))))));exact K _ _ ⟨false,⟨r,r,r,r,r,r,y⟩,a,sm i⟩
    clear a;rintro f w ⟨p,hf,a,ah⟩;obtain ⟨b9,rfl⟩:=mY hf;subst ah;replace k:=gi k;rcases iv k with ⟨u,k⟩|⟨u,k⟩
    ·refine jM (cb u) (wk (o9 (g (s (mi r) (s (kS r r) (s (xi r) (n ?_)))))));exact ac n5 _ _ (Nat.lt_succ_self _) ⟨wr (j+1),⟨r,r,r,r,r,y⟩,a,k⟩
    refine jJ (vY u) (uy ?_);exact aa _ _ ⟨j,⟨r,r,r,r,r,y⟩,a,sm k⟩
  clear a;rintro f w ⟨j,hf,a,ai⟩;obtain ⟨b9,rfl⟩:=mY hf;subst ai;replace d:=gi d;refine q (q (g (s (mi r) (s (mi r) (s (wm r r) (s (uL r r) (n ?_)))))));rcases iv d with ⟨M,d⟩|⟨M,d⟩
  ·refine jM (bt M) (q (g (s KP (lq (tb a 0 [V 0,V 0,T be,V 0] r qd r r r r r (show _=#[V 0,V 0,T be,V 0] from r)) ?_))));intro aF a;try dsimp only [List.set] at a
   refine s (xi r) (s (xi r) (n (kD ?_)));obtain rfl:=sm d;refine yD r (uE r Ba r qd r (a.bk 0 r)) (kH r) (kH r) ?_;exact mZ (mZ ⟨r,a.arr [] r⟩)
  refine jJ (bf M) (wk (q (g (s (lF r) (s (mi r) (s (mi r) ?_))))));obtain ⟨D,a1,d⟩:=bs d;refine s (XI uM r r r a1) (s (mP r) (n (q (q (g (s (lF r) ?_))))));obtain ⟨aj,ak,d⟩:=bs d;refine sc (ec YT r) (F3 fu (a.pr [] [0] [] r) ak) ?_;rintro _ aG ⟨rfl,m⟩;replace a:=a.cl [] [0] r m r;try dsimp only [pick,nth,ca,na] at a
  refine n ?_;rcases iv d with ⟨v,d⟩|⟨v,d⟩
  ·refine jM (cb v) (q (g (s (mi r) (s (lF r) (s (CJ r r r) (s (mi r) (lq (tb a 0 [V 3,V l,T D,V 0] r qd r r r r r (show _=#[V 3,V l,T D,V 0] from r)) ?_)))))));intro aH a;try dsimp only [List.set] at a
   refine s (xi r) (s (xi r) (n (kD ?_)));obtain rfl:=sm d;refine yD r (uE r Ba r qd r (a.bk 0 r)) (kH r) (kH r) ?_;exact mZ (mZ ⟨r,a.arr [] r⟩)
  refine jJ (vY v) (wk (q (g (s (mi r) (s (lF r) (s (CJ r r r) (s (mi r) (lq (tb a 0 [V 1,V l,T D,V 0] r qd r r r r r (show _=#[V 1,V l,T D,V 0] from r)) ?_))))))));intro aI a;try dsimp only [List.set] at a
  refine s (xi r) (s (xi r) (n (kD ?_)));obtain rfl:=sm d;refine yD r (uE r Ba r qd r (a.bk 0 r)) (kH r) (kH r) ?_;exact mZ (mZ ⟨r,a.arr [] r⟩)
 refine jJ (vY Y) (wk (q (q (g (s (lF r) (s (mi r) ?_))))));obtain ⟨aJ,a2,d⟩:=bs d;refine s (Io uM r r a2) ?_;obtain ⟨al,am,d⟩:=bs d;refine sc (ec RY r) (BS fu (a.pr [] [0] [] r) am) ?_;rintro _ aK ⟨rfl,m⟩;replace a:=a.cl [] [0] r m r;try dsimp only [pick,nth,ca,na] at a
 refine n ?_;rcases iv d with ⟨x,d⟩|⟨x,d⟩
 ·refine jM (cb x) (q (g (s (xi r) (n (q ?_)))));obtain ⟨a3,b,d⟩:=bs d;refine qF (fun f w=>∃ e c,Has f [(0,T F),(1,V e),(2,V l),(6,Pt o),(9,V C),(11,V c)]/\Bx X w b8 G [.box o 109 #[V 0,V 0,T be,V 0]] []/\Ld.go (e,c)=a3) (fun aL H=>?_) ?_
  ·refine o9 (kI (fun ba f w=>∃ e c,Has f [(0,T F),(1,V e),(2,V l),(6,Pt o),(9,V C),(11,V c)]/\Bx X w b8 G [.box o 109 #[V 0,V 0,T be,V 0]] []/\oL fu F C ba e c=some a3) fu ⟨C,0,⟨r,r,r,r,r,r,y⟩,a,b⟩ ?_);clear a b;rintro E f w ⟨e,c,hf,a,b⟩ aM I;obtain ⟨b9,rfl⟩:=mY hf;cases E with
   | zero=>exact nn b
   | succ E=>
    rw [oL] at b;refine q (q (g (s (mi r) (s (lF r) (s (Dv uM r) (s (qp r r) (s (kQ r) ?_)))))));rcases iv b with ⟨N,b⟩|⟨N,b⟩
    ·rw [sQ N];refine ku r (s (lF r) (ku r (s (mi r) ?_)));obtain ⟨aN,a4,b⟩:=bs b;refine ku r (s (Io uM r r a4) ?_);obtain ⟨an,ao,b⟩:=bs b;refine ku r ?_;refine sc (ec RY r) (BS fu (a.pr [] [0] [] r) ao) ?_;rintro _ aO ⟨rfl,m⟩;replace a:=a.cl [] [0] r m r;try dsimp only [pick,nth,ca,na] at a
     refine s (kF r r) (n ?_);rcases iv b with ⟨z,b⟩|⟨z,b⟩
     ·refine jM (cb z) (wk (o9 (q (q (g (s (mi r) (s (mi r) (s (wm r r) (s (qp r r) (n ?_))))))))));rcases iv b with ⟨Q,b⟩|⟨Q,b⟩
      ·refine jM (bt Q) (g (s (mi r) (s (Vw r r) (s (lF r) (s (mi r) ?_)))));obtain ⟨ap,a5,b⟩:=bs b;refine s (Io uM r r a5) (s (Zj r r) (s (acv ⟨_,u5_⟩ GV r) (s (kS r r) (s (xi r) (n (g (s (mi r) (s (kS r r) (s (xi r) (n ?_))))))))));exact I E _ _ (Nat.lt_succ_self _) ⟨wr (e+1),wr ((wr (10 * c))+(wr (w8 (ap - 48)))),⟨r,r,r,r,r,r,y⟩,a,b⟩
      refine jJ (bf Q) (wk (g (s (mi r) (s (kS r r) (s (xi r) (n ?_))))));exact I E _ _ (Nat.lt_succ_self _) ⟨wr (e+1),c,⟨r,r,r,r,r,r,y⟩,a,b⟩
     refine jJ (vY z) (uy ?_);exact H _ _ ⟨e,c,⟨r,r,r,r,r,r,y⟩,a,sm b⟩
    rw [tF N];refine jK r (jK r (jK r (jK r (s (jY r r) (n (jJ r (uy ?_)))))));exact H _ _ ⟨e,c,⟨r,r,r,r,r,r,y⟩,a,sm b⟩
  clear a;rintro f w ⟨e,c,hf,a,a6⟩;obtain ⟨b9,rfl⟩:=mY hf;subst a6;replace d:=gi d;replace d:=pi d;refine q (q (g (s (mi r) (s (mi r) (s (wm r r) (s (uL r r) (n ?_)))))));rcases iv d with ⟨S,d⟩|⟨S,d⟩
  ·refine jM (bt S) (q (g (s KP (lq (tb a 0 [V 0,V 0,T be,V 0] r qd r r r r r (show _=#[V 0,V 0,T be,V 0] from r)) ?_))));intro aP a;try dsimp only [List.set] at a
   refine s (xi r) (s (xi r) (n (kD ?_)));obtain rfl:=sm d;refine yD r (uE r Ba r qd r (a.bk 0 r)) (kH r) (kH r) ?_;exact mZ (mZ ⟨r,a.arr [] r⟩)
  refine jJ (bf S) (wk (q ?_));obtain ⟨aq,h,d⟩:=bs d;refine qF (fun f w=>Has f [(1,V e),(2,V l),(6,Pt o),(11,V c)]/\Bx X w b8 G [.box o 109 #[V 0,V 0,T be,V 0]] []/\Ld.go ()=aq) (fun aQ J=>?_) ?_
  ·unfold zS at h;refine q (g (s (mi r) (s (lF r) (s (Dv uM r) (s (qp r r) (s (kQ r) ?_))))));rcases iv h with ⟨U,h⟩|⟨U,h⟩
   ·rw [sQ U];refine ku r (s (lF r) (ku r (s (mi r) ?_)));obtain ⟨aR,a7,h⟩:=bs h;refine ku r (s (Io uM r r a7) ?_);obtain ⟨ar,au,h⟩:=bs h;refine ku r ?_;refine sc (ec RA r) (Bl fu (a.pr [] [0] [] r) au) ?_;rintro _ aS ⟨rfl,m⟩;replace a:=a.cl [] [0] r m r;try dsimp only [pick,nth,ca,na] at a
    refine s (kF r r) (n ?_);rcases iv h with ⟨A,h⟩|⟨A,h⟩
    ·refine jM (cb A) (q (g (s KP (lq (tb a 0 [V 0,V 0,T be,V 0] r qd r r r r r (show _=#[V 0,V 0,T be,V 0] from r)) ?_))));intro aT a;try dsimp only [List.set] at a
     refine s (xi r) (s (xi r) (n (kD ?_)));obtain rfl:=sm h;replace d:=oi d;obtain rfl:=sm d;refine yD r (uE r Ba r qd r (a.bk 0 r)) (kH r) (kH r) ?_;exact mZ (mZ ⟨r,a.arr [] r⟩)
    refine jJ (vY A) (wk ?_);exact J _ _ ⟨⟨r,r,r,r,y⟩,a,sm h⟩
   rw [tF U];refine jK r (jK r (jK r (jK r (s (jY r r) (n (jJ r (wk ?_)))))));exact J _ _ ⟨⟨r,r,r,r,y⟩,a,sm h⟩
  clear a;rintro f w ⟨hf,a,a8⟩;obtain ⟨b9,rfl⟩:=mY hf;subst a8;replace d:=gi d;refine q (g (s (mi r) (s (mi r) (s (Nn r r r) (s (mi r) (lq (tb a 0 [V 2,V l,T be,V c] r qd r r r r r (show _=#[V 2,V l,T be,V c] from r)) ?_))))));intro aU a;try dsimp only [List.set] at a
  refine s (xi r) (s (xi r) (n (kD ?_)));obtain rfl:=sm d;refine yD r (uE r Ba r qd r (a.bk 0 r)) (kH r) (kH r) ?_;exact mZ (mZ ⟨r,a.arr [] r⟩)
 refine jJ (vY x) (wk (q (g (s (lF r) (s (mi r) ?_)))));obtain ⟨B,av,d⟩:=bs d;refine sc (ec aaq r) (MN fu (a.pr [] [0] [] r) av) ?_;rintro _ aV ⟨rfl,m⟩;replace a:=a.cl [] [0] r m r;try dsimp only [pick,nth,ca,na] at a
 refine s (mP r) (n (q (q (g (s (lF r) (s (sj r r) (n ?_)))))));rcases iv d with ⟨W,d⟩|⟨W,d⟩
 ·refine jM (bt W) (q (g (s KP (lq (tb a 0 [V 0,V 0,T be,V 0] r qd r r r r r (show _=#[V 0,V 0,T be,V 0] from r)) ?_))));intro aW a;try dsimp only [List.set] at a
  refine s (xi r) (s (xi r) (n (kD ?_)));obtain rfl:=sm d;refine yD r (uE r Ba r qd r (a.bk 0 r)) (kH r) (kH r) ?_;exact mZ (mZ ⟨r,a.arr [] r⟩)
 refine jJ (bf W) (wk (q (g (s (mi r) (s (lF r) (s (CJ r r r) (s (mi r) (s (lF r) (s (Dv uM r) (s (kS r r) (lq (tb a 0 [V 4,V l,T B,V 0] r qd r r r r r (show _=#[V 4,V l,T B,V 0] from r)) ?_)))))))))));intro aX a;try dsimp only [List.set] at a
 refine s (xi r) (s (xi r) (n (kD ?_)));obtain rfl:=sm d;refine yD r (uE r Ba r qd r (a.bk 0 r)) (kH r) (kH r) ?_;exact mZ (mZ ⟨r,a.arr [] r⟩)
def NC (m:BA->Option ((List kT) × Int × Int)):Prop:=∀ {d:World}{j e R},Pre d j [] []->m e=some R-> Calls prog 24 #[T e] d (pz fun v w=>iA R fun f R=>iA R fun h i=>∃ a b c,v=.tuple #[Z a f b,V h,V i]/\Bx d w j (lD []) [O d.heap.size a b 109 kT c] [.els c f])
def yZ (fu:Nat)(b:List kT) (a:Int):Option (Ld Int ((List kT) × Int × Int)):=if a=0 then if 2000<=(b.length:Int) then some (.go 5) else some (.go a) else some (.go a)
def uq (fu:Nat)(k:BA):Nat→Int→Int→(List kT)→Option (Ld (Int × Int × List kT) ((List kT) × Int × Int))
 | 0,_,_,_=>none
 | m+1,b,a,c=>
 if b < (k.size:Int) then
  (Bt fu k b a).bind fun p=>
  iA p fun h p=>iA p fun i j=>
  (yZ fu c j).bind fun p=>p.el (fun d=>
  if d≠0 then
   some (.out (([]:List kT),a,d))
  else
   (app c ([h]:List kT)).bind fun l=>
   (yJ fu k i a).bind fun p=>
   iA p fun e f=>
   uq fu k m e f l
  ) (fun o=>some (.out o))
 else
  some (.go (b,a,c))
def AJ (fu:Nat)(e:BA):Option ((List kT) × Int × Int):=if 4000 < (e.size:Int) then some (([]:List kT),0,5) else (yJ fu e 0 1).bind fun i=>iA i fun a b=>(uq fu e fu a b ([]:List kT)).bind fun i=>i.el (fun i=>iA i fun h i=>iA i fun c d=>(app d ([(⟨0,c,be,0⟩:kT)]:List kT)).bind fun f=>some (f,0,0)) (fun o=>some o)
theorem M6 (fu:Nat):NC (AJ fu):=by
 intro B au K R hP l;unfold AJ at l;have c:=hP.bx;clear hP;generalize hG:lD _=G at c ⊢;refine cf func24 r ?_;refine lu [(0,T K)] ⟨r,y⟩ fun av=>?_;refine q (g (s (nk r) (s (xi r) (s (xi r) (n (q (q (g (s (lF r) (s (Dv uM r) (s (uL r r) (n ?_))))))))))));rcases iv l with ⟨L,l⟩|⟨L,l⟩
 ·refine jM (bt L) (q (g (s (nk r) (s (xi r) (s (xi r) (n (kD ?_)))))));replace c:=c.Bv kT 109;obtain rfl:=sm l;refine yD r (kH r) (kH r) (kH r) ?_;exact mZ (mZ ⟨none,0,[],r,c⟩)
 refine jJ (bf L) (wk (q (g (s (nk r) (n (q (g (s (lF r) ?_))))))));obtain ⟨⟨C,D⟩,h3,l⟩:=bs l;replace l:=pi l;refine sc (ec Wo r) (FQ fu (c.pr [] [] [] r) h3) ?_;rintro _ w3 ⟨rfl,E⟩;replace c:=c.cl [] [] r E r;try dsimp only [pick,nth,ca,na] at c
 refine s uO (s (kJ r r) (s (kJ r r) (s (xi r) (s (xi r) (n (q ?_))))));replace c:=c.Bv kT 109;obtain ⟨Y4,b,l⟩:=bs l;refine qF (fun f w=>∃ m j i d e h,Has f [(5,Z d i e),(7,V j)]/\Bx B w au G [O B.heap.size d e 109 kT h] [.els h i]/\Ld.go (m,j,i)=Y4) (fun J4 M=>?_) ?_
 ·refine o9 (kI (fun aw f w=>∃ m j i d e h,Has f [(0,T K),(5,Z d i e),(6,V m),(7,V j)]/\Bx B w au G [O B.heap.size d e 109 kT h] [.els h i]/\uq fu K aw m j i=some Y4) fu ⟨C,D,([]:List kT),none,0,[],⟨r,r,r,r,y⟩,c,b⟩ ?_);clear c b;rintro N f w ⟨m,j,i,d,e,h,hf,c,b⟩ K4 Q;obtain ⟨av,rfl⟩:=mY hf;cases N with
  | zero=>exact nn b
  | succ N=>
   rw [uq] at b;refine q (q (g (s (mi r) (s (lF r) (s (Dv uM r) (s (qp r r) (n ?_)))))));rcases iv b with ⟨S,b⟩|⟨S,b⟩
   ·refine jM (bt S) (wk (o9 (q (g (s (lF r) (s (mi r) (s (mi r) ?_)))))));obtain ⟨⟨a,F,t⟩,h7,b⟩:=bs b;replace b:=pi b;replace b:=pi b;refine sc (ec aa5 r) (Ow fu (c.pr [] [0] [] r) h7) ?_;rintro _ w7 ⟨rfl,E⟩;replace c:=c.cl [] [0] r E r;try dsimp only [pick,nth,ca,na] at c
    refine s uO (s (kJ r r) (s (kJ r r) (s (kJ r r) (nM (nV c (jX qd)) ?_))));rintro _ w8 ⟨b8,rfl,c⟩;refine lq (tb c 0 [V a.c,V a.f,T a.a,V a.d] r qd r r r r r (show _=#[V a.c,V a.f,T a.a,V a.d] from r)) ?_;intro w9 c;try dsimp only [List.set] at c
    refine s (xi r) (s (xi r) (n (q ?_)));obtain ⟨U,k,b⟩:=bs b;refine qF (fun f w=>∃ o,Has f [(0,T K),(5,Z d i e),(7,V j),(8,Pt b8),(9,V F),(10,V o)]/\Bx B w au G [.box b8 109 #[V a.c,V a.f,T a.a,V a.d],O B.heap.size d e 109 kT h] [.els h i]/\Ld.go o=U) (fun ab p=>?_) ?_
    ·unfold yZ at k;refine q (g (s (mi r) (s (kR r r) (s (kQ r) ?_))));rcases iv k with ⟨u,k⟩|⟨u,k⟩
     ·rw [sQ u];refine ku r (s (mH r) (ku r (s (lK Dj r) (ku r (s (BF r r) (s (kF r r) (n ?_)))))));rcases iv k with ⟨v,k⟩|⟨v,k⟩
      ·refine jM (bt v) (g (s (xi r) (n ?_)));exact p _ _ ⟨5,⟨r,r,r,r,r,r,y⟩,c,sm k⟩
      refine jJ (bf v) (wk ?_);exact p _ _ ⟨t,⟨r,r,r,r,r,r,y⟩,c,sm k⟩
     rw [tF u];refine jK r (jK r (jK r (s (jY r r) (n (jJ r (wk ?_))))));exact p _ _ ⟨t,⟨r,r,r,r,r,r,y⟩,c,sm k⟩
    clear c;rintro f w ⟨o,hf,c,H⟩;obtain ⟨av,rfl⟩:=mY hf;subst H;replace b:=gi b;refine q (q (g (s (mi r) (s (qE r r) (n ?_)))));rcases iv b with ⟨x,b⟩|⟨x,b⟩
    ·refine jM (bt x) (q (g (s (mi r) (s (mi r) (s (nk r) (s (xi r) (s (xi r) (n (kD ?_)))))))));replace c:=c.Bv kT 109;obtain rfl:=sm b;replace l:=oi l;obtain rfl:=sm l;refine yD r (kH r) (kH r) (kH r) ?_;exact mZ (mZ ⟨none,0,[],r,c.ad [0] [0]⟩)
    refine jJ (bf x) (wk (q (g (s (mH r) (s (mU [V a.c,V a.f,T a.a,V a.d] Ba r qd r r (Cells.part (c.bk 0 r).cells (o2:=0) r)) (nM (jN c [[V a.c,V a.f,T a.a,V a.d]] ([a]:List kT) (MB r) r r (by decide) ⟨r,y⟩) ?_))))));rintro _ ac ⟨ae,rfl,c⟩;obtain ⟨W,I,b⟩:=bs b;refine nM (kN c 2 1 r r Dj qd r (by decide) (by decide) (Nat.le_refl _) r r (c.zL 0 0 r r) I) ?_;rintro _ af ⟨X,Y,a0,rfl,c⟩;refine s (nk r) (n (g (s (lF r) (s (mi r) (s (mi r) ?_)))));obtain ⟨⟨z,A⟩,a1,b⟩:=bs b;replace b:=pi b;refine sc (ec Wo r) (FQ fu (c.pr [] [0,1,2] [] r) a1) ?_;rintro _ ag ⟨rfl,E⟩;replace c:=c.cl [] [0,1,2] r E r;try dsimp only [pick,nth,ca,na] at c
    refine s uO (s (kJ r r) (s (kJ r r) (s (xi r) (s (xi r) (n ?_)))));exact Q N _ _ (Nat.lt_succ_self _) ⟨z,A,W,X,Y,a0,⟨r,r,r,r,y⟩,c.ad [2] [1],b⟩
   refine jJ (bf S) (uy ?_);exact M _ _ ⟨m,j,i,d,e,h,⟨r,r,y⟩,c,sm b⟩
 clear c;rintro f w ⟨m,j,i,d,e,h,hf,c,a2⟩;obtain ⟨av,rfl⟩:=mY hf;subst a2;replace l:=gi l;replace l:=pi l;replace l:=pi l;refine q (g (s (mH r) (s (mi r) (s (Qn r r) (nM (jN c [[V 0,V j,T be,V 0]] ([(⟨0,j,be,0⟩:kT)]:List kT) (MB r) r r (by decide) ⟨r,y⟩) ?_)))));rintro _ ah ⟨ai,rfl,c⟩;obtain ⟨aj,J,l⟩:=bs l;refine nM (kN c 1 1 r r Dj qd r (by decide) (by decide) (Nat.le_refl _) r r (c.zL 0 0 r r) J) ?_;rintro _ ak ⟨a3,a4,a5,rfl,c⟩;refine s (nk r) (s (xi r) (s (xi r) (n (kD ?_))));obtain rfl:=sm l;refine yD r (kH r) (kH r) (kH r) ?_;exact mZ (mZ ⟨a3,a4,a5,r,c.ad [1] [1]⟩)
abbrev EC:=Int->Option (ByteArray)
def zi (m:Int->Option BA):Prop:=∀ {a d b c},Pre a d [] []->m b=some c-> Calls prog 59 #[V b] a (pz fun v w=>v=T c/\Bx a w d (lD []) [] [])
def xg (fu:Nat)(r_r03_Digits:EC) (a:Int):Option BA:=if a < 0 then if a=(-9223372036854775808) then some (⟨#[45,57,50,50,51,51,55,50,48,51,54,56,53,52,55,55,53,56,48,56]⟩:BA) else (r_r03_Digits (wr (0 - a))).bind fun c=>(cat (⟨#[45]⟩:BA) c).bind fun f=>some f else if a < 10 then some (bst ([⟨w8 (wr (48+a))⟩]:List EU)) else (r_r03_Digits (wr (a.tdiv 10))).bind fun d=>(r_r03_Digits (a.tmod 10)).bind fun b=>(cat d b).bind fun e=>some e
def CQ:Nat→(Int→Option (BA))
 | 0=>(fun _=>none)
 | fu+1=>xg fu (CQ fu)
def rJ (fu:Nat):=(CQ fu)
theorem Je (fu:Nat)(r_r03_Digits:EC) (H_r03_Digits:zi r_r03_Digits):zi (xg fu r_r03_Digits):=by
 intro x F e z m a;unfold xg at a;have b:=m.bx;clear m;generalize A:lD _=G at b ⊢;refine cf func59 r ?_;refine lu [(0,V e)] ⟨r,y⟩ fun H=>?_;refine q (g (s (mP r) (n (q (q (g (s (mi r) (s (qp r r) (n ?_)))))))));rcases iv a with ⟨f,a⟩|⟨f,a⟩
 ·refine jM (bt f) (q (q (g (s (mi r) (s (kR r r) (n ?_))))));rcases iv a with ⟨h,a⟩|⟨h,a⟩
  ·refine jM (bt h) (q (g (s (mP r) (n (kD ?_)))));obtain rfl:=sm a;refine jB r (kH r) ?_;exact ⟨r,b⟩
  refine jJ (bf h) (wk (q (g (s (mi r) (s (wm r r) ?_)))));obtain ⟨o,t,a⟩:=bs a;refine sc (ec JA r) (H_r03_Digits (b.pr [] [] [] r) t) ?_;rintro _ B ⟨rfl,c⟩;replace b:=b.cl [] [] r c r;try dsimp only [pick,nth,ca,na] at b
  obtain ⟨C,i,a⟩:=bs a;refine s (lV r r i) (s (mP r) (n (kD ?_)));obtain rfl:=sm a;refine jB r (kH r) ?_;exact ⟨r,b⟩
 refine jJ (bf f) (wk (q (q (g (s (mi r) (s (qp r r) (n ?_)))))));rcases iv a with ⟨j,a⟩|⟨j,a⟩
 ·refine jM (bt j) (q (g (s (mi r) (s (kS r r) (s (abH ⟨_,GV⟩ u5_ r) (nM (jN b [[.int .u8 (w8 (wr (48+e)))]] ([⟨w8 (wr (48+e))⟩]:List EU) (QL r) r r (by decide) ⟨r,y⟩) ?_))))));rintro _ D ⟨E,rfl,b⟩;refine s (acC PY u5_ uM r (b.vw 0 0 r r)) (s (mP r) (n (kD ?_)));obtain rfl:=sm a;refine jB r (kH r) ?_;exact ⟨r,b.ad [] []⟩
 refine jJ (bf j) (wk (q (g (s (mi r) (s (RL r r (by decide)) ?_)))));obtain ⟨p,u,a⟩:=bs a;refine sc (ec JA r) (H_r03_Digits (b.pr [] [] [] r) u) ?_;rintro _ w8 ⟨rfl,c⟩;replace b:=b.cl [] [] r c r;try dsimp only [pick,nth,ca,na] at b
 refine s (mi r) (s (P6 r r (by decide)) ?_);obtain ⟨k,l,a⟩:=bs a;refine sc (ec JA r) (H_r03_Digits (b.pr [] [] [] r) l) ?_;rintro _ v ⟨rfl,c⟩;replace b:=b.cl [] [] r c r;try dsimp only [pick,nth,ca,na] at b
 obtain ⟨w,d,a⟩:=bs a;refine s (lV r r d) (s (mP r) (n (kD ?_)));obtain rfl:=sm a;refine jB r (kH r) ?_;exact ⟨r,b⟩
theorem Gy (fu:Nat):zi (rJ fu):=by
 induction fu with
 | zero=>exact by intro a b;intros;(try intro _);intros;exact nn (by assumption)
 | succ fu ih=>exact Je fu (rJ fu) ih
theorem Bp (fu:Nat):zi (rJ fu):=(Gy fu)
end
end Go.Proofs.YtfglbdkfnphjgaaGreat
