/- Contracts, printed by gen3.py. -/
import Derived.Test.YtdkneekpdecjbaaGreatZ5
import Derived.Test.YtdkneekpdecjbaaGreatZ4
set_option linter.unusedVariables false
set_option maxHeartbeats 12800000
set_option linter.unusedSimpArgs false
set_option maxRecDepth 4000
namespace Go.Proofs.YtdkneekpdecjbaaGreat
open Go.RowKit Go.Fw Go.Proofs.Tryz
noncomputable section
def Qf (m:Int->Int->Option Int):Prop:=∀ {a e b c d},Pre a e [] []->m b c=some d-> Calls prog 93 #[V b,V c] a (sW fun v w=>v=V d/\Bx a w e (mQ []) [] [])
def CP (fu:Nat)(b a:Int):Option Int:=if a=0 then none else if (b.tmod a) < 0 then some (wr ((b.tmod a)+a)) else some (b.tmod a)
theorem QO (fu:Nat):Qf (CP fu):=by
 intro i l e f j d a;unfold CP at a;have b:=d.bx;clear d;generalize k:mQ _=G at b ⊢;refine cf func93 r ?_;refine lH [(0,V e),(1,V f)] ⟨r,r,y⟩ fun m=>?_;refine q (g (s (xi r) (n (q (g (s (mi r) (s (mi r) ?_)))))));rcases iv a with ⟨_,a⟩|⟨h,a⟩
 · exact nn a
 refine s (Ym r r h) (s (xi r) (n (q (q (g (s (mi r) (s (sj r r) (n ?_))))))));rcases iv a with ⟨c,a⟩|⟨c,a⟩
 ·refine jK (bt c) (g (s (mi r) (s (mi r) (s (kN r r) (s (xi r) (n (q (g (s (mi r) (s (xi r) (n (lS ?_))))))))))));obtain rfl:=sm a;refine jI r (nu r) ?_;exact ⟨r,b⟩
 refine jD (bf c) (wk (q (g (s (mi r) (s (xi r) (n (lS ?_)))))));obtain rfl:=sm a;refine jI r (nu r) ?_;exact ⟨r,b⟩
def O1 (m:jL->Int->Option (Int × jL)):Prop:=∀ {f j}{e:jL}{h c a b R},(fun L=>Pre f j L [.l a b e.l]->m e h=some R-> Calls prog 65 #[Pt c,V h] f (sW fun v w=>jy R fun i d=>v=V i/\Bx f w j (mQ L) [.box c 159 #[Z a d.l b,V d.a]] [.l a b d.l])) [.box c 159 #[Z a e.l b,V e.a]]
def kE (fu:Nat)(a:jL)(c:Int):Option (Int × jL):=if (a.l.length:Int)<=a.a then some (0,a) else (ix a.l (wr ((wr (a.a+1)) - 1))).bind fun d=>(CP fu d c).bind fun b=>some (b,(⟨a.l,wr (a.a+1)⟩:jL))
theorem jX (fu:Nat):O1 (kE fu):=by
 intro A F j v m c d R t e;unfold kE at e;have b:=t.bx;clear t;generalize B:mQ _=G at b ⊢;refine cf func65 r ?_;refine lH [(0,Pt m),(1,V v)] ⟨r,r,y⟩ fun H=>?_;refine q (g (s (xi r) (n (q (q (qG b [0] [] [] (by kernel_rfl) ?_))))));replace b:=b.drew;have a:=b.dp [];refine pF 0 r (mp r) a (pF 1 r (xn r) a (pF 2 r (Kk r) a (uF 3 r (fun hS=>l3 r (hS.bk 0 r) r) a (pF 4 r (mp r) a (pF 5 r (xn r) a (pF 6 r (QC r) a (uF 7 r (fun hS=>WA r (hS.bk 0 r) r) a (pF 8 r (mV Ck r) a (pF 9 r (F8 r r) a (hD ?_))))))))));rcases iv e with ⟨o,e⟩|⟨o,e⟩
 ·refine jK (bt o) (q (g (s (xi r) (n (lS ?_)))));obtain rfl:=sm e;refine jI r (nu r) ?_;exact mZ (⟨r,b⟩)
 refine jD (bf o) (wk (q (g (s (mp r) (s (xn r) (s (Kk r) (s (l3 r (b.bk 0 r) r) (s (kN r r) (s (xn r) (s (Kk r) (lg (tb b 0 [V (wr (j.a+1))] r o9 r r r r r (show _=#[Z c j.l d,V (wr (j.a+1))] from r)) ?_)))))))))));intro C b;try dsimp only [List.set] at b
 refine n (q (qG b [0] [0] [] (by kernel_rfl) ?_));replace b:=b.drew;have a:=b;refine pF 0 r (mp r) a (pF 1 r (xn r) a (pF 2 r (QC r) a (uF 3 r (fun hS=>WA r (hS.bk 0 r) r) a (pF 4 r (mp r) a (pF 5 r (xn r) a (pF 6 r (Kk r) a (uF 7 r (fun hS=>l3 r (hS.bk 0 r) r) a (pF 8 r (yh r r) a ?_))))))));obtain ⟨w,f,e⟩:=bs e;obtain ⟨D,p,f⟩:=lq f;refine pF 9 r (lu Ck o9 r r p (b.dl 0 r) f) a (tU 10 r (fun _ hS=>kC NG r r ((uE (ds:=[V w]) (hS.dl 0 r) f (fun _ h=>h)) 0 _ r)) (sF a) (pF 11 r (mi r) a ?_));obtain ⟨u,x,e⟩:=bs e;have hc:=(QO fu) (b.pr [] [0] [] r)  x;refine hO 12 (oc r r (ec abz r) hc ?_);rintro _ E ⟨rfl,z⟩;replace b:=b.cl [] [0] r z r;try dsimp only [pick,nth,ca,na] at b
 have a:=b;refine ⟨sF a,?_⟩;refine pF 13 r (xi r) a (hD (lS ?_));obtain rfl:=sm e;refine jI r (nu r) ?_;exact mZ (⟨r,b⟩)
def O4 (m:jL->Option Bool):Prop:=∀ {e h}{c:jL}{d a b f},(fun L=>Pre e h L [.l a b c.l]->m c=some f-> Calls prog 94 #[Pt d] e (sW fun v w=>v=.bool f/\Bx e w h (mQ L) L [.l a b c.l])) [.box d 159 #[Z a c.l b,V c.a]]
def Dq (fu:Nat)(a:jL):Option Bool:=some (decide (a.a < (a.l.length:Int)))
theorem OH (fu:Nat):O4 (Dq fu):=by intro m t f e b c o h j;unfold Dq at j;have d:=h.bx;clear h;generalize p:mQ _=G at d ⊢;refine cf func94 r ?_;refine lH [(0,Pt e)] ⟨r,y⟩ fun u=>?_;refine q (g (s (kG r) (n (q (qG d [0] [] [] (by kernel_rfl) ?_)))));replace d:=d.drew;have a:=d.dp [];refine pF 0 r (mp r) a (pF 1 r (xn r) a (pF 2 r (Kk r) a (uF 3 r (fun hS=>l3 r (hS.bk 0 r) r) a (pF 4 r (mp r) a (pF 5 r (xn r) a (pF 6 r (QC r) a (uF 7 r (fun hS=>WA r (hS.bk 0 r) r) a (pF 8 r (mV Ck r) a (pF 9 r (sj r r) a (pF 10 r (kG r) a (hD (lS ?_))))))))))));obtain rfl:=sm j;refine jI r (nu r) ?_;exact ⟨r,d⟩
def KU (m:jL->Option (Int × jL)):Prop:=∀ {f i}{e:jL}{c a b R},(fun L=>Pre f i L [.l a b e.l]->m e=some R-> Calls prog 139 #[Pt c] f (sW fun v w=>jy R fun h d=>v=V h/\Bx f w i (mQ L) [.box c 159 #[Z a d.l b,V d.a]] [.l a b d.l])) [.box c 159 #[Z a e.l b,V e.a]]
def yw (fu:Nat)(c:jL):Option (Int × jL):=(kE fu c ((([0,1,2,3,5,7,4,10,100,1048576,2147483648,1099511627776,999999999999999999,6,8,9]:List Int).length:Nat):Int)).bind fun e=>jy e fun a b=>(ix ([0,1,2,3,5,7,4,10,100,1048576,2147483648,1099511627776,999999999999999999,6,8,9]:List Int) a).bind fun d=>some (d,b)
theorem KH (fu:Nat):KU (yw fu):=by
 intro v C j f d e R k c;unfold yw at c;have a:=k.bx;clear k;generalize w:mQ _=G at a ⊢;refine cf func139 r ?_;refine lH [(0,Pt f)] ⟨r,y⟩ fun D=>?_;refine q (g (s (xi r) (n (q (g (l5 (jM a [[V 0],[V 1],[V 2],[V 3],[V 5],[V 7],[V 4],[V 10],[V 100],[V 1048576],[V 2147483648],[V 1099511627776],[V 999999999999999999],[V 6],[V 8],[V 9]] ([0,1,2,3,5,7,4,10,100,1048576,2147483648,1099511627776,999999999999999999,6,8,9]:List Int) (Tm r r r r r r r r r r r r r r r r) r r (by decide) ⟨r,⟨r,⟨r,⟨r,⟨r,⟨r,⟨r,⟨r,⟨r,⟨r,⟨r,⟨r,⟨r,⟨r,⟨r,⟨r,y⟩⟩⟩⟩⟩⟩⟩⟩⟩⟩⟩⟩⟩⟩⟩⟩) ?_))))));rintro _ x ⟨z,rfl,a⟩;refine s (og r) (n (q (g (s (qw r) (s (mp r) (s (qw r) (s (mV Ck r) ?_)))))));obtain ⟨⟨m,o⟩,p,c⟩:=bs c;replace c:=pi c;have hc:=(jX fu) (a.pr [1] [0] [1] r)  p;refine sc (ec oh r) hc ?_;rintro _ A ⟨rfl,t⟩;replace a:=a.cl [1] [0] r t r;try dsimp only [pick,nth,ca,na] at a
 obtain ⟨u,b,c⟩:=bs c;obtain ⟨B,i,b⟩:=lq b;refine s (lu Ck o9 r r i (a.vw 1 1 r r) b) (s (kC NG r r ((uE (ds:=[V u]) (a.vw 1 1 r r) b (fun _ h=>h)) 0 _ r)) (s (xi r) (n (lS ?_))));obtain rfl:=sm c;refine jI r (nu r) ?_;exact mZ (⟨r,a.ad [0] [0]⟩)
def Li (m:Int->Option Bool):Prop:=∀ {a d b c},Pre a d [] []->m b=some c-> Calls prog 73 #[.int .u8 b] a (sW fun v w=>v=.bool c/\Bx a w d (mQ []) [] [])
def rF (fu:Nat)(a:Int):Option Bool:=if 97<=a then if a<=122 then some true else if 65<=a then if a<=90 then some true else some (decide (a=95)) else some (decide (a=95)) else if 65<=a then if a<=90 then some true else some (decide (a=95)) else some (decide (a=95))
theorem Ch (fu:Nat):Li (rF fu):=by
 intro l p k m j a;unfold rF at a;have b:=j.bx;clear j;generalize o:mQ _=G at b ⊢;refine cf func73 r ?_;refine lH [(0,.int .u8 k)] ⟨r,y⟩ fun t=>?_;refine q (g (s (kG r) (n (q (g (s (mi r) (s (F8 r r) (s (lI r) ?_))))))));rcases iv a with ⟨c,a⟩|⟨c,a⟩
 ·rw [uD c];refine kL r (s (mi r) (kL r (s (Qo r r) (s (kU r r) (s (lI r) ?_)))));rcases iv a with ⟨d,a⟩|⟨d,a⟩
  ·rw [uD d];refine ko r (ko r (ko r (ko r (ko r (ko r (s (kU r r) (s (lI r) (ko r (ko r (s (kU r r) (s (kG r) (n (lS ?_)))))))))))));obtain rfl:=sm a;refine jI r (nu r) ?_;exact ⟨r,b⟩
  rw [uL d];refine kL r (s (mi r) (kL r (s (F8 r r) (kL r (s (lI r) ?_)))));rcases iv a with ⟨e,a⟩|⟨e,a⟩
  ·rw [uD e];refine kL r (s (mi r) (kL r (s (Qo r r) (kL r (s (kU r r) (s (kI r r) (s (lI r) ?_)))))));rcases iv a with ⟨f,a⟩|⟨f,a⟩
   ·rw [uD f];refine ko r (ko r (s (kU r r) (s (kG r) (n (lS ?_)))));obtain rfl:=sm a;refine jI r (nu r) ?_;exact ⟨r,b⟩
   rw [uL f];refine kL r (s (mi r) (kL r (s (kH r r) (s (kI r r) (s (kG r) (n (lS ?_)))))));obtain rfl:=sm a;refine jI r (nu r) ?_;exact ⟨r,b⟩
  rw [uL e];refine ko r (ko r (kL r (s (kI r r) (s (kI r r) (s (lI r) (kL r (s (mi r) (kL r (s (kH r r) (s (kI r r) (s (kG r) (n (lS ?_)))))))))))));obtain rfl:=sm a;refine jI r (nu r) ?_;exact ⟨r,b⟩
 rw [uL c];refine ko r (ko r (s (kI r r) (s (lI r) (kL r (s (mi r) (kL r (s (F8 r r) (kL r (s (lI r) ?_)))))))));rcases iv a with ⟨h,a⟩|⟨h,a⟩
 ·rw [uD h];refine kL r (s (mi r) (kL r (s (Qo r r) (kL r (s (kU r r) (s (kI r r) (s (lI r) ?_)))))));rcases iv a with ⟨i,a⟩|⟨i,a⟩
  ·rw [uD i];refine ko r (ko r (s (kU r r) (s (kG r) (n (lS ?_)))));obtain rfl:=sm a;refine jI r (nu r) ?_;exact ⟨r,b⟩
  rw [uL i];refine kL r (s (mi r) (kL r (s (kH r r) (s (kI r r) (s (kG r) (n (lS ?_)))))));obtain rfl:=sm a;refine jI r (nu r) ?_;exact ⟨r,b⟩
 rw [uL h];refine ko r (ko r (kL r (s (kI r r) (s (kI r r) (s (lI r) (kL r (s (mi r) (kL r (s (kH r r) (s (kI r r) (s (kG r) (n (lS ?_)))))))))))));obtain rfl:=sm a;refine jI r (nu r) ?_;exact ⟨r,b⟩
def M9 (m:Int->Option Bool):Prop:=∀ {a d b c},Pre a d [] []->m b=some c-> Calls prog 74 #[.int .u8 b] a (sW fun v w=>v=.bool c/\Bx a w d (mQ []) [] [])
def vv (fu:Nat)(a:Int):Option Bool:=if 48<=a then some (decide (a<=57)) else some false
theorem Di (fu:Nat):M9 (vv fu):=by
 intro f j e h d a;unfold vv at a;have b:=d.bx;clear d;generalize i:mQ _=G at b ⊢;refine cf func74 r ?_;refine lH [(0,.int .u8 e)] ⟨r,y⟩ fun k=>?_;refine q (g (s (kG r) (n (q (g (s (mi r) (s (F8 r r) (s (lI r) ?_))))))));rcases iv a with ⟨c,a⟩|⟨c,a⟩
 ·rw [uD c];refine kL r (s (mi r) (kL r (s (Qo r r) (s (kU r r) (s (kG r) (n (lS ?_)))))));obtain rfl:=sm a;refine jI r (nu r) ?_;exact ⟨r,b⟩
 rw [uL c];refine ko r (ko r (s (kI r r) (s (kG r) (n (lS ?_)))));obtain rfl:=sm a;refine jI r (nu r) ?_;exact ⟨r,b⟩
def IC (m:BA->Option Bool):Prop:=∀ {a d b c},Pre a d [] []->m b=some c-> Calls prog 75 #[T b] a (sW fun v w=>v=.bool c/\Bx a w d (mQ []) [] [])
def o7 (fu:Nat)(a:BA):List BA→Nat→Option (Ld (Unit) (Bool))
 | [],_=>some (.go ())
 | b :: c,d=>
 if b=a then
  some (.out true)
 else
  o7 fu a c (d+1)
def vk (fu:Nat)(a:BA):Option Bool:=(o7 fu a ([(⟨#[114,101,99,111,114,100]⟩:BA),(⟨#[102,117,110,99]⟩:BA),(⟨#[118,97,114]⟩:BA),(⟨#[105,110,116]⟩:BA),(⟨#[105,102]⟩:BA),(⟨#[101,108,115,101]⟩:BA),(⟨#[119,104,105,108,101]⟩:BA),(⟨#[114,101,116,117,114,110]⟩:BA),(⟨#[116,104,114,111,119]⟩:BA),(⟨#[116,114,121]⟩:BA),(⟨#[99,97,116,99,104]⟩:BA),(⟨#[112,114,105,110,116]⟩:BA)]:List BA) 0).bind fun b=>b.el (fun _=>some false) (fun o=>some o)
theorem IU (fu:Nat):IC (vk fu):=by
 intro j I k C v d;unfold vk at d;have b:=v.bx;clear v;generalize D:mQ _=G at b ⊢;refine cf func75 r ?_;refine lH [(0,T k)] ⟨r,y⟩ fun J=>?_;refine q (g (s (kG r) (n (q (q (g (l5 (jM b [[T (⟨#[114,101,99,111,114,100]⟩:BA)],[T (⟨#[102,117,110,99]⟩:BA)],[T (⟨#[118,97,114]⟩:BA)],[T (⟨#[105,110,116]⟩:BA)],[T (⟨#[105,102]⟩:BA)],[T (⟨#[101,108,115,101]⟩:BA)],[T (⟨#[119,104,105,108,101]⟩:BA)],[T (⟨#[114,101,116,117,114,110]⟩:BA)],[T (⟨#[116,104,114,111,119]⟩:BA)],[T (⟨#[116,114,121]⟩:BA)],[T (⟨#[99,97,116,99,104]⟩:BA)],[T (⟨#[112,114,105,110,116]⟩:BA)]] ([(⟨#[114,101,99,111,114,100]⟩:BA),(⟨#[102,117,110,99]⟩:BA),(⟨#[118,97,114]⟩:BA),(⟨#[105,110,116]⟩:BA),(⟨#[105,102]⟩:BA),(⟨#[101,108,115,101]⟩:BA),(⟨#[119,104,105,108,101]⟩:BA),(⟨#[114,101,116,117,114,110]⟩:BA),(⟨#[116,104,114,111,119]⟩:BA),(⟨#[116,114,121]⟩:BA),(⟨#[99,97,116,99,104]⟩:BA),(⟨#[112,114,105,110,116]⟩:BA)]:List BA) (Hr r r r r r r r r r r r r) r r (by decide) ⟨r,⟨r,⟨r,⟨r,⟨r,⟨r,⟨r,⟨r,⟨r,⟨r,⟨r,⟨r,y⟩⟩⟩⟩⟩⟩⟩⟩⟩⟩⟩⟩) ?_)))))));rintro _ E ⟨m,rfl,b⟩;refine s (mV kW r) (s (mi r) (n ?_));have z:=(b.vw 0 0 r r).bd;obtain ⟨x,a,d⟩:=bs d
 refine oD (fun f w=>Has f []/\Bx j w I G [O j.heap.size (ad m) 12 9 BA [[T (⟨#[114,101,99,111,114,100]⟩:BA)],[T (⟨#[102,117,110,99]⟩:BA)],[T (⟨#[118,97,114]⟩:BA)],[T (⟨#[105,110,116]⟩:BA)],[T (⟨#[105,102]⟩:BA)],[T (⟨#[101,108,115,101]⟩:BA)],[T (⟨#[119,104,105,108,101]⟩:BA)],[T (⟨#[114,101,116,117,114,110]⟩:BA)],[T (⟨#[116,104,114,111,119]⟩:BA)],[T (⟨#[116,114,121]⟩:BA)],[T (⟨#[99,97,116,99,104]⟩:BA)],[T (⟨#[112,114,105,110,116]⟩:BA)]]] [.els [[T (⟨#[114,101,99,111,114,100]⟩:BA)],[T (⟨#[102,117,110,99]⟩:BA)],[T (⟨#[118,97,114]⟩:BA)],[T (⟨#[105,110,116]⟩:BA)],[T (⟨#[105,102]⟩:BA)],[T (⟨#[101,108,115,101]⟩:BA)],[T (⟨#[119,104,105,108,101]⟩:BA)],[T (⟨#[114,101,116,117,114,110]⟩:BA)],[T (⟨#[116,104,114,111,119]⟩:BA)],[T (⟨#[116,114,121]⟩:BA)],[T (⟨#[99,97,116,99,104]⟩:BA)],[T (⟨#[112,114,105,110,116]⟩:BA)]] ([(⟨#[114,101,99,111,114,100]⟩:BA),(⟨#[102,117,110,99]⟩:BA),(⟨#[118,97,114]⟩:BA),(⟨#[105,110,116]⟩:BA),(⟨#[105,102]⟩:BA),(⟨#[101,108,115,101]⟩:BA),(⟨#[119,104,105,108,101]⟩:BA),(⟨#[114,101,116,117,114,110]⟩:BA),(⟨#[116,104,114,111,119]⟩:BA),(⟨#[116,114,121]⟩:BA),(⟨#[99,97,116,99,104]⟩:BA),(⟨#[112,114,105,110,116]⟩:BA)]:List BA)]/\Ld.go ()=x) (fun F o=>?_) ?_
 ·refine qb (kM (fun K f w=>∃ (c:Nat),K=([(⟨#[114,101,99,111,114,100]⟩:BA),(⟨#[102,117,110,99]⟩:BA),(⟨#[118,97,114]⟩:BA),(⟨#[105,110,116]⟩:BA),(⟨#[105,102]⟩:BA),(⟨#[101,108,115,101]⟩:BA),(⟨#[119,104,105,108,101]⟩:BA),(⟨#[114,101,116,117,114,110]⟩:BA),(⟨#[116,104,114,111,119]⟩:BA),(⟨#[116,114,121]⟩:BA),(⟨#[99,97,116,99,104]⟩:BA),(⟨#[112,114,105,110,116]⟩:BA)]:List BA).length - c/\c<=([(⟨#[114,101,99,111,114,100]⟩:BA),(⟨#[102,117,110,99]⟩:BA),(⟨#[118,97,114]⟩:BA),(⟨#[105,110,116]⟩:BA),(⟨#[105,102]⟩:BA),(⟨#[101,108,115,101]⟩:BA),(⟨#[119,104,105,108,101]⟩:BA),(⟨#[114,101,116,117,114,110]⟩:BA),(⟨#[116,104,114,111,119]⟩:BA),(⟨#[116,114,121]⟩:BA),(⟨#[99,97,116,99,104]⟩:BA),(⟨#[112,114,105,110,116]⟩:BA)]:List BA).length/\Has f [(7,V (c:Int)),(0,T k),(5,.slice (ad m) ([(⟨#[114,101,99,111,114,100]⟩:BA),(⟨#[102,117,110,99]⟩:BA),(⟨#[118,97,114]⟩:BA),(⟨#[105,110,116]⟩:BA),(⟨#[105,102]⟩:BA),(⟨#[101,108,115,101]⟩:BA),(⟨#[119,104,105,108,101]⟩:BA),(⟨#[114,101,116,117,114,110]⟩:BA),(⟨#[116,104,114,111,119]⟩:BA),(⟨#[116,114,121]⟩:BA),(⟨#[99,97,116,99,104]⟩:BA),(⟨#[112,114,105,110,116]⟩:BA)]:List BA).length 12),(6,V ((([(⟨#[114,101,99,111,114,100]⟩:BA),(⟨#[102,117,110,99]⟩:BA),(⟨#[118,97,114]⟩:BA),(⟨#[105,110,116]⟩:BA),(⟨#[105,102]⟩:BA),(⟨#[101,108,115,101]⟩:BA),(⟨#[119,104,105,108,101]⟩:BA),(⟨#[114,101,116,117,114,110]⟩:BA),(⟨#[116,104,114,111,119]⟩:BA),(⟨#[116,114,121]⟩:BA),(⟨#[99,97,116,99,104]⟩:BA),(⟨#[112,114,105,110,116]⟩:BA)]:List BA).length:Nat):Int))]/\Bx j w I G [O j.heap.size (ad m) 12 9 BA [[T (⟨#[114,101,99,111,114,100]⟩:BA)],[T (⟨#[102,117,110,99]⟩:BA)],[T (⟨#[118,97,114]⟩:BA)],[T (⟨#[105,110,116]⟩:BA)],[T (⟨#[105,102]⟩:BA)],[T (⟨#[101,108,115,101]⟩:BA)],[T (⟨#[119,104,105,108,101]⟩:BA)],[T (⟨#[114,101,116,117,114,110]⟩:BA)],[T (⟨#[116,104,114,111,119]⟩:BA)],[T (⟨#[116,114,121]⟩:BA)],[T (⟨#[99,97,116,99,104]⟩:BA)],[T (⟨#[112,114,105,110,116]⟩:BA)]]] [.els [[T (⟨#[114,101,99,111,114,100]⟩:BA)],[T (⟨#[102,117,110,99]⟩:BA)],[T (⟨#[118,97,114]⟩:BA)],[T (⟨#[105,110,116]⟩:BA)],[T (⟨#[105,102]⟩:BA)],[T (⟨#[101,108,115,101]⟩:BA)],[T (⟨#[119,104,105,108,101]⟩:BA)],[T (⟨#[114,101,116,117,114,110]⟩:BA)],[T (⟨#[116,104,114,111,119]⟩:BA)],[T (⟨#[116,114,121]⟩:BA)],[T (⟨#[99,97,116,99,104]⟩:BA)],[T (⟨#[112,114,105,110,116]⟩:BA)]] ([(⟨#[114,101,99,111,114,100]⟩:BA),(⟨#[102,117,110,99]⟩:BA),(⟨#[118,97,114]⟩:BA),(⟨#[105,110,116]⟩:BA),(⟨#[105,102]⟩:BA),(⟨#[101,108,115,101]⟩:BA),(⟨#[119,104,105,108,101]⟩:BA),(⟨#[114,101,116,117,114,110]⟩:BA),(⟨#[116,104,114,111,119]⟩:BA),(⟨#[116,114,121]⟩:BA),(⟨#[99,97,116,99,104]⟩:BA),(⟨#[112,114,105,110,116]⟩:BA)]:List BA)]/\o7 fu k (([(⟨#[114,101,99,111,114,100]⟩:BA),(⟨#[102,117,110,99]⟩:BA),(⟨#[118,97,114]⟩:BA),(⟨#[105,110,116]⟩:BA),(⟨#[105,102]⟩:BA),(⟨#[101,108,115,101]⟩:BA),(⟨#[119,104,105,108,101]⟩:BA),(⟨#[114,101,116,117,114,110]⟩:BA),(⟨#[116,104,114,111,119]⟩:BA),(⟨#[116,114,121]⟩:BA),(⟨#[99,97,116,99,104]⟩:BA),(⟨#[112,114,105,110,116]⟩:BA)]:List BA).drop c) c=some x) (([(⟨#[114,101,99,111,114,100]⟩:BA),(⟨#[102,117,110,99]⟩:BA),(⟨#[118,97,114]⟩:BA),(⟨#[105,110,116]⟩:BA),(⟨#[105,102]⟩:BA),(⟨#[101,108,115,101]⟩:BA),(⟨#[119,104,105,108,101]⟩:BA),(⟨#[114,101,116,117,114,110]⟩:BA),(⟨#[116,104,114,111,119]⟩:BA),(⟨#[116,114,121]⟩:BA),(⟨#[99,97,116,99,104]⟩:BA),(⟨#[112,114,105,110,116]⟩:BA)]:List BA).length) ⟨0,r,uS _,⟨r,r,r,r,y⟩,b,a⟩ ?_)
  clear b a;rintro K f w ⟨c,rfl,A,hf,b,a⟩ H p;obtain ⟨J,rfl⟩:=ng hf;rcases wY c ([(⟨#[114,101,99,111,114,100]⟩:BA),(⟨#[102,117,110,99]⟩:BA),(⟨#[118,97,114]⟩:BA),(⟨#[105,110,116]⟩:BA),(⟨#[105,102]⟩:BA),(⟨#[101,108,115,101]⟩:BA),(⟨#[119,104,105,108,101]⟩:BA),(⟨#[114,101,116,117,114,110]⟩:BA),(⟨#[116,104,114,111,119]⟩:BA),(⟨#[116,114,121]⟩:BA),(⟨#[99,97,116,99,104]⟩:BA),(⟨#[112,114,105,110,116]⟩:BA)]:List BA).length with i | i
  ·obtain ⟨B,e⟩:=mU (l:=([(⟨#[114,101,99,111,114,100]⟩:BA),(⟨#[102,117,110,99]⟩:BA),(⟨#[118,97,114]⟩:BA),(⟨#[105,110,116]⟩:BA),(⟨#[105,102]⟩:BA),(⟨#[101,108,115,101]⟩:BA),(⟨#[119,104,105,108,101]⟩:BA),(⟨#[114,101,116,117,114,110]⟩:BA),(⟨#[116,104,114,111,119]⟩:BA),(⟨#[116,114,121]⟩:BA),(⟨#[99,97,116,99,104]⟩:BA),(⟨#[112,114,105,110,116]⟩:BA)]:List BA)) i;rw [mR e,o7] at a;refine q (g (s (sO r r (by omega)) (n (q (jK r (wk (q (qb (q (g (s (lu kW pJ r r r (b.vw 0 0 r r) e) (s (kC vg r r ((uE (ds:=[T B]) (b.vw 0 0 r r) e (fun _ h=>h)) 0 _ r)) (s (mP r) ?_)))))))))))));refine n (q (g (s (lF r) (s (lF r) (s (rY r r) (n ?_))))));rcases iv a with ⟨t,a⟩|⟨t,a⟩
   ·refine jK (bt t) (q (g (s (kG r) (n (lS ?_)))));obtain rfl:=sm a;replace d:=oi d;obtain rfl:=sm d;refine jI r (nu r) ?_;exact ⟨r,b.ad [] []⟩
   refine jD (bf t) (wk (g (s (mE r r (by omega) (by omega)) (s (mi r) (n ?_)))));exact p (([(⟨#[114,101,99,111,114,100]⟩:BA),(⟨#[102,117,110,99]⟩:BA),(⟨#[118,97,114]⟩:BA),(⟨#[105,110,116]⟩:BA),(⟨#[105,102]⟩:BA),(⟨#[101,108,115,101]⟩:BA),(⟨#[119,104,105,108,101]⟩:BA),(⟨#[114,101,116,117,114,110]⟩:BA),(⟨#[116,104,114,111,119]⟩:BA),(⟨#[116,114,121]⟩:BA),(⟨#[99,97,116,99,104]⟩:BA),(⟨#[112,114,105,110,116]⟩:BA)]:List BA).length - (c+1)) _ _ (by omega) ⟨c+1,r,by omega,⟨r,r,r,r,y⟩,b,a⟩
  obtain rfl:c=([(⟨#[114,101,99,111,114,100]⟩:BA),(⟨#[102,117,110,99]⟩:BA),(⟨#[118,97,114]⟩:BA),(⟨#[105,110,116]⟩:BA),(⟨#[105,102]⟩:BA),(⟨#[101,108,115,101]⟩:BA),(⟨#[119,104,105,108,101]⟩:BA),(⟨#[114,101,116,117,114,110]⟩:BA),(⟨#[116,104,114,111,119]⟩:BA),(⟨#[116,114,121]⟩:BA),(⟨#[99,97,116,99,104]⟩:BA),(⟨#[112,114,105,110,116]⟩:BA)]:List BA).length:=by omega
  rw [lU,o7] at a;refine q (g (s (sM r r (by omega)) (n (q (jD r (vE ?_))))));exact o _ _ ⟨y,b,sm a⟩
 clear b;rintro f w ⟨hf,b,u⟩;obtain ⟨J,rfl⟩:=ng hf;subst u;replace d:=gi d;refine q (g (s (kG r) (n (lS ?_))));obtain rfl:=sm d;refine jI r (nu r) ?_;exact ⟨r,b.ad [] []⟩
def Ol (m:BA->Int->Option BA):Prop:=∀ {a e b c d},Pre a e [] []->m b c=some d-> Calls prog 76 #[T b,V c] a (sW fun v w=>v=T d/\Bx a w e (mQ []) [] [])
def su (fu:Nat)(b:BA)(a:Int):List BA→Nat→Option (Ld (Unit) (BA))
 | [],_=>some (.go ())
 | c :: d,e=>
 (UG b a (wr (a+2))).bind fun f=>
 if f=c then
  some (.out c)
 else
  su fu b a d (e+1)
def zG (fu:Nat)(a:BA)(b:Int):Option (Ld Unit BA):=if (wr (b+1)) < (a.size:Int) then (su fu a b ([(⟨#[60,61]⟩:BA),(⟨#[61,61]⟩:BA),(⟨#[33,61]⟩:BA)]:List BA) 0).bind fun c=>c.el (fun _=>some (.go ())) (fun o=>some (.out o)) else some (.go ())
def sD (fu:Nat)(b:BA)(a:Int):List G5→Nat→Option (Ld (Unit) (BA))
 | [],_=>some (.go ())
 | e :: f,h=>
 (ixs b a).bind fun c=>
 if c=e.n then
  (UG b a (wr (a+1))).bind fun d=>
  some (.out d)
 else
  sD fu b a f (h+1)
def Bq (fu:Nat)(a:BA)(b:Int):Option BA:=(zG fu a b).bind fun c=>c.el (fun _=>(sD fu a b ([⟨40⟩,⟨41⟩,⟨123⟩,⟨125⟩,⟨91⟩,⟨93⟩,⟨44⟩,⟨59⟩,⟨58⟩,⟨46⟩,⟨43⟩,⟨45⟩,⟨42⟩,⟨47⟩,⟨37⟩,⟨38⟩,⟨124⟩,⟨94⟩,⟨60⟩,⟨61⟩,⟨33⟩]:List G5) 0).bind fun c=>c.el (fun _=>some (⟨#[]⟩:BA)) (fun o=>some o)) (fun o=>some o)
theorem Qb (fu:Nat):Ol (Bq fu):=by
 intro k ah m o r0 R e;unfold Bq at e;have a:=R.bx;clear R;generalize hG:mQ _=G at a ⊢;refine cf func76 r ?_;refine lH [(0,T m),(1,V o)] ⟨r,r,y⟩ fun ai=>?_;refine q (g (s (mP r) (n (q ?_))));obtain ⟨W,c,e⟩:=bs e;refine oD (fun f w=>Has f [(0,T m),(1,V o)]/\Bx k w ah G [] []/\Ld.go ()=W) (fun J1 v=>?_) ?_
 ·unfold zG at c;refine q (g (s (mi r) (s (kN r r) (s (lF r) (s (EW vg r) (s (sj r r) (n ?_)))))));rcases iv c with ⟨C,c⟩|⟨C,c⟩
  ·refine jK (bt C) (q (g (l5 (jM a [[T (⟨#[60,61]⟩:BA)],[T (⟨#[61,61]⟩:BA)],[T (⟨#[33,61]⟩:BA)]] ([(⟨#[60,61]⟩:BA),(⟨#[61,61]⟩:BA),(⟨#[33,61]⟩:BA)]:List BA) (UJ r r r) r r (by decide) ⟨r,⟨r,⟨r,y⟩⟩⟩) ?_)));rintro _ w3 ⟨D,rfl,a⟩;refine s (mV kW r) (s (mi r) (n ?_));have X:=(a.vw 0 0 r r).bd;obtain ⟨S,d,c⟩:=bs c;refine oD (fun f w=>Has f [(0,T m),(1,V o)]/\Bx k w ah G [O k.heap.size (ad D) 3 9 BA [[T (⟨#[60,61]⟩:BA)],[T (⟨#[61,61]⟩:BA)],[T (⟨#[33,61]⟩:BA)]]] [.els [[T (⟨#[60,61]⟩:BA)],[T (⟨#[61,61]⟩:BA)],[T (⟨#[33,61]⟩:BA)]] ([(⟨#[60,61]⟩:BA),(⟨#[61,61]⟩:BA),(⟨#[33,61]⟩:BA)]:List BA)]/\Ld.go ()=S) (fun J4 E=>?_) ?_
   ·refine qb (kM (fun aj f w=>∃ (i:Nat),aj=([(⟨#[60,61]⟩:BA),(⟨#[61,61]⟩:BA),(⟨#[33,61]⟩:BA)]:List BA).length - i/\i<=([(⟨#[60,61]⟩:BA),(⟨#[61,61]⟩:BA),(⟨#[33,61]⟩:BA)]:List BA).length/\Has f [(16,V (i:Int)),(0,T m),(1,V o),(14,.slice (ad D) ([(⟨#[60,61]⟩:BA),(⟨#[61,61]⟩:BA),(⟨#[33,61]⟩:BA)]:List BA).length 3),(15,V ((([(⟨#[60,61]⟩:BA),(⟨#[61,61]⟩:BA),(⟨#[33,61]⟩:BA)]:List BA).length:Nat):Int))]/\Bx k w ah G [O k.heap.size (ad D) 3 9 BA [[T (⟨#[60,61]⟩:BA)],[T (⟨#[61,61]⟩:BA)],[T (⟨#[33,61]⟩:BA)]]] [.els [[T (⟨#[60,61]⟩:BA)],[T (⟨#[61,61]⟩:BA)],[T (⟨#[33,61]⟩:BA)]] ([(⟨#[60,61]⟩:BA),(⟨#[61,61]⟩:BA),(⟨#[33,61]⟩:BA)]:List BA)]/\su fu m o (([(⟨#[60,61]⟩:BA),(⟨#[61,61]⟩:BA),(⟨#[33,61]⟩:BA)]:List BA).drop i) i=some S) (([(⟨#[60,61]⟩:BA),(⟨#[61,61]⟩:BA),(⟨#[33,61]⟩:BA)]:List BA).length) ⟨0,r,uS _,⟨r,r,r,r,r,y⟩,a,d⟩ ?_);clear a d;rintro aj f w ⟨i,rfl,Y,hf,a,d⟩ K4 F;obtain ⟨ai,rfl⟩:=ng hf;rcases wY i ([(⟨#[60,61]⟩:BA),(⟨#[61,61]⟩:BA),(⟨#[33,61]⟩:BA)]:List BA).length with x | x
    ·obtain ⟨u4,p⟩:=mU (l:=([(⟨#[60,61]⟩:BA),(⟨#[61,61]⟩:BA),(⟨#[33,61]⟩:BA)]:List BA)) x;rw [mR p,su] at d;refine q (g (s (sO r r (by omega)) (n (q (jK r (wk (q (qb (q (g (s (lu kW pJ r r r (a.vw 0 0 r r) p) (s (kC vg r r ((uE (ds:=[T u4]) (a.vw 0 0 r r) p (fun _ h=>h)) 0 _ r)) (s (mP r) ?_)))))))))))));refine n (q (g (s (lF r) (s (mi r) (s (mi r) (s (kN r r) ?_))))));obtain ⟨g5,H,d⟩:=bs d;refine s (Zb vg r r r H) (s (lF r) (s (rY r r) (n ?_)));rcases iv d with ⟨I,d⟩|⟨I,d⟩
     ·refine jK (bt I) (q (g (s (lF r) (s (mP r) (n (lS ?_))))));obtain rfl:=sm d;replace c:=oi c;obtain rfl:=sm c;replace e:=oi e;obtain rfl:=sm e;refine jI r (nu r) ?_;exact ⟨r,a.ad [] []⟩
     refine jD (bf I) (wk (g (s (mE r r (by omega) (by omega)) (s (mi r) (n ?_)))));exact F (([(⟨#[60,61]⟩:BA),(⟨#[61,61]⟩:BA),(⟨#[33,61]⟩:BA)]:List BA).length - (i+1)) _ _ (by omega) ⟨i+1,r,by omega,⟨r,r,r,r,r,y⟩,a,d⟩
    obtain rfl:i=([(⟨#[60,61]⟩:BA),(⟨#[61,61]⟩:BA),(⟨#[33,61]⟩:BA)]:List BA).length:=by omega
    rw [lU,su] at d;refine q (g (s (sM r r (by omega)) (n (q (jD r (vE ?_))))));exact E _ _ ⟨⟨r,r,y⟩,a,sm d⟩
   clear a;rintro f w ⟨hf,a,J⟩;obtain ⟨ai,rfl⟩:=ng hf;subst J;replace c:=gi c;exact v _ _ ⟨⟨r,r,y⟩,a.ad [] [],sm c⟩
  refine jD (bf C) (wk ?_);exact v _ _ ⟨⟨r,r,y⟩,a,sm c⟩
 clear a;rintro f w ⟨hf,a,K⟩;obtain ⟨ai,rfl⟩:=ng hf;subst K;replace e:=gi e;refine q (q (g (l5 (jM a [[.int .u8 40],[.int .u8 41],[.int .u8 123],[.int .u8 125],[.int .u8 91],[.int .u8 93],[.int .u8 44],[.int .u8 59],[.int .u8 58],[.int .u8 46],[.int .u8 43],[.int .u8 45],[.int .u8 42],[.int .u8 47],[.int .u8 37],[.int .u8 38],[.int .u8 124],[.int .u8 94],[.int .u8 60],[.int .u8 61],[.int .u8 33]] ([⟨40⟩,⟨41⟩,⟨123⟩,⟨125⟩,⟨91⟩,⟨93⟩,⟨44⟩,⟨59⟩,⟨58⟩,⟨46⟩,⟨43⟩,⟨45⟩,⟨42⟩,⟨47⟩,⟨37⟩,⟨38⟩,⟨124⟩,⟨94⟩,⟨60⟩,⟨61⟩,⟨33⟩]:List G5) (QZ r r r r r r r r r r r r r r r r r r r r r) r r (by decide) ⟨r,⟨r,⟨r,⟨r,⟨r,⟨r,⟨r,⟨r,⟨r,⟨r,⟨r,⟨r,⟨r,⟨r,⟨r,⟨r,⟨r,⟨r,⟨r,⟨r,⟨r,y⟩⟩⟩⟩⟩⟩⟩⟩⟩⟩⟩⟩⟩⟩⟩⟩⟩⟩⟩⟩⟩) ?_)));rintro _ w7 ⟨L,rfl,a⟩;refine l5 (ab0 a 0 0 r r R8 u5_ r) ?_;rintro _ w8 ⟨rfl,a⟩;try dsimp only [List.eraseIdx] at a
 refine s (mV R8 r) (s (mi r) (n ?_));have a1:=(a.dl 0 r).bd;obtain ⟨U,b,e⟩:=bs e;refine oD (fun f w=>Has f []/\Bx k w ah G [] [.l (ad L) 21 ([⟨40⟩,⟨41⟩,⟨123⟩,⟨125⟩,⟨91⟩,⟨93⟩,⟨44⟩,⟨59⟩,⟨58⟩,⟨46⟩,⟨43⟩,⟨45⟩,⟨42⟩,⟨47⟩,⟨37⟩,⟨38⟩,⟨124⟩,⟨94⟩,⟨60⟩,⟨61⟩,⟨33⟩]:List G5)]/\Ld.go ()=U) (fun J9 M=>?_) ?_
 ·refine qb (kM (fun aj f w=>∃ (j:Nat),aj=([⟨40⟩,⟨41⟩,⟨123⟩,⟨125⟩,⟨91⟩,⟨93⟩,⟨44⟩,⟨59⟩,⟨58⟩,⟨46⟩,⟨43⟩,⟨45⟩,⟨42⟩,⟨47⟩,⟨37⟩,⟨38⟩,⟨124⟩,⟨94⟩,⟨60⟩,⟨61⟩,⟨33⟩]:List G5).length - j/\j<=([⟨40⟩,⟨41⟩,⟨123⟩,⟨125⟩,⟨91⟩,⟨93⟩,⟨44⟩,⟨59⟩,⟨58⟩,⟨46⟩,⟨43⟩,⟨45⟩,⟨42⟩,⟨47⟩,⟨37⟩,⟨38⟩,⟨124⟩,⟨94⟩,⟨60⟩,⟨61⟩,⟨33⟩]:List G5).length/\Has f [(32,V (j:Int)),(0,T m),(1,V o),(30,.slice (ad L) ([⟨40⟩,⟨41⟩,⟨123⟩,⟨125⟩,⟨91⟩,⟨93⟩,⟨44⟩,⟨59⟩,⟨58⟩,⟨46⟩,⟨43⟩,⟨45⟩,⟨42⟩,⟨47⟩,⟨37⟩,⟨38⟩,⟨124⟩,⟨94⟩,⟨60⟩,⟨61⟩,⟨33⟩]:List G5).length 21),(31,V ((([⟨40⟩,⟨41⟩,⟨123⟩,⟨125⟩,⟨91⟩,⟨93⟩,⟨44⟩,⟨59⟩,⟨58⟩,⟨46⟩,⟨43⟩,⟨45⟩,⟨42⟩,⟨47⟩,⟨37⟩,⟨38⟩,⟨124⟩,⟨94⟩,⟨60⟩,⟨61⟩,⟨33⟩]:List G5).length:Nat):Int))]/\Bx k w ah G [] [.l (ad L) 21 ([⟨40⟩,⟨41⟩,⟨123⟩,⟨125⟩,⟨91⟩,⟨93⟩,⟨44⟩,⟨59⟩,⟨58⟩,⟨46⟩,⟨43⟩,⟨45⟩,⟨42⟩,⟨47⟩,⟨37⟩,⟨38⟩,⟨124⟩,⟨94⟩,⟨60⟩,⟨61⟩,⟨33⟩]:List G5)]/\sD fu m o (([⟨40⟩,⟨41⟩,⟨123⟩,⟨125⟩,⟨91⟩,⟨93⟩,⟨44⟩,⟨59⟩,⟨58⟩,⟨46⟩,⟨43⟩,⟨45⟩,⟨42⟩,⟨47⟩,⟨37⟩,⟨38⟩,⟨124⟩,⟨94⟩,⟨60⟩,⟨61⟩,⟨33⟩]:List G5).drop j) j=some U) (([⟨40⟩,⟨41⟩,⟨123⟩,⟨125⟩,⟨91⟩,⟨93⟩,⟨44⟩,⟨59⟩,⟨58⟩,⟨46⟩,⟨43⟩,⟨45⟩,⟨42⟩,⟨47⟩,⟨37⟩,⟨38⟩,⟨124⟩,⟨94⟩,⟨60⟩,⟨61⟩,⟨33⟩]:List G5).length) ⟨0,r,uS _,⟨r,r,r,r,r,y⟩,a,b⟩ ?_);clear a b;rintro aj f w ⟨j,rfl,a2,hf,a,b⟩ K9 N;obtain ⟨ai,rfl⟩:=ng hf;rcases wY j ([⟨40⟩,⟨41⟩,⟨123⟩,⟨125⟩,⟨91⟩,⟨93⟩,⟨44⟩,⟨59⟩,⟨58⟩,⟨46⟩,⟨43⟩,⟨45⟩,⟨42⟩,⟨47⟩,⟨37⟩,⟨38⟩,⟨124⟩,⟨94⟩,⟨60⟩,⟨61⟩,⟨33⟩]:List G5).length with z | z
  ·obtain ⟨u9,t⟩:=mU (l:=([⟨40⟩,⟨41⟩,⟨123⟩,⟨125⟩,⟨91⟩,⟨93⟩,⟨44⟩,⟨59⟩,⟨58⟩,⟨46⟩,⟨43⟩,⟨45⟩,⟨42⟩,⟨47⟩,⟨37⟩,⟨38⟩,⟨124⟩,⟨94⟩,⟨60⟩,⟨61⟩,⟨33⟩]:List G5)) z;rw [mR t,sD] at b;refine q (g (s (sO r r (by omega)) (n (q (jK r (wk (q (qb (q (g (s (lu R8 ti5 r r r (a.dl 0 r) t) (s (kC u5_ r r ((uE (ds:=[.int .u8 u9.n]) (a.dl 0 r) t (fun _ h=>h)) 0 _ r)) (s (xi r) ?_)))))))))))));refine n (q (g (s (lF r) (s (mi r) ?_))));obtain ⟨a4,A,b⟩:=bs b;refine s (Jz vg r r A) (s (mi r) (s (kH r r) (n ?_)));rcases iv b with ⟨u,b⟩|⟨u,b⟩
   ·refine jK (bt u) (q (g (s (lF r) (s (mi r) (s (mi r) (s (kN r r) ?_))))));obtain ⟨a5,B,b⟩:=bs b;refine s (Zb vg r r r B) (s (mP r) (n (lS ?_)));obtain rfl:=sm b;replace e:=oi e;obtain rfl:=sm e;refine jI r (nu r) ?_;exact ⟨r,a.dp []⟩
   refine jD (bf u) (wk (g (s (mE r r (by omega) (by omega)) (s (mi r) (n ?_)))));exact N (([⟨40⟩,⟨41⟩,⟨123⟩,⟨125⟩,⟨91⟩,⟨93⟩,⟨44⟩,⟨59⟩,⟨58⟩,⟨46⟩,⟨43⟩,⟨45⟩,⟨42⟩,⟨47⟩,⟨37⟩,⟨38⟩,⟨124⟩,⟨94⟩,⟨60⟩,⟨61⟩,⟨33⟩]:List G5).length - (j+1)) _ _ (by omega) ⟨j+1,r,by omega,⟨r,r,r,r,r,y⟩,a,b⟩
  obtain rfl:j=([⟨40⟩,⟨41⟩,⟨123⟩,⟨125⟩,⟨91⟩,⟨93⟩,⟨44⟩,⟨59⟩,⟨58⟩,⟨46⟩,⟨43⟩,⟨45⟩,⟨42⟩,⟨47⟩,⟨37⟩,⟨38⟩,⟨124⟩,⟨94⟩,⟨60⟩,⟨61⟩,⟨33⟩]:List G5).length:=by omega
  rw [lU,sD] at b;refine q (g (s (sM r r (by omega)) (n (q (jD r (vE ?_))))));exact M _ _ ⟨y,a,sm b⟩
 clear a;rintro f w ⟨hf,a,Q⟩;obtain ⟨ai,rfl⟩:=ng hf;subst Q;replace e:=gi e;refine q (g (s (mP r) (n (lS ?_))));obtain rfl:=sm e;refine jI r (nu r) ?_;exact ⟨r,a.dp []⟩
def O3 (m:Int->Option Int):Prop:=∀ {a d b c},Pre a d [] []->m b=some c-> Calls prog 136 #[V b] a (sW fun v w=>v=V c/\Bx a w d (mQ []) [] [])
def zA (fu:Nat)(a:Int):Option (Ld Bool Int):=if a=14 then some (.go (decide (a=14))) else if a=15 then some (.go (decide (a=15))) else if a=16 then some (.go (decide (a=16))) else some (.go (decide (a=17)))
def zu (fu:Nat)(a:Int):Option (Ld Bool Int):=if a=11 then some (.go (decide (a=11))) else if a=12 then some (.go (decide (a=12))) else some (.go (decide (a=13)))
def zl (fu:Nat)(a:Int):Option (Ld Bool Int):=if a=6 then some (.go (decide (a=6))) else some (.go (decide (a=7)))
def Bp (fu:Nat)(a:Int):Option Int:=(zA fu a).bind fun e=>e.el (fun c=>if c=true then some 1 else (zu fu a).bind fun e=>e.el (fun d=>if d=true then some 2 else (zl fu a).bind fun e=>e.el (fun b=>if b=true then some 3 else if a=8 then some 4 else if a=9 then some 4 else if a=10 then some 4 else if a=4 then some 5 else if a=5 then some 5 else some 6) (fun o=>some o)) (fun o=>some o)) (fun o=>some o)
theorem OT (fu:Nat):O3 (Bp fu):=by
 intro E a1 i W Q a;unfold Bp at a;have c:=Q.bx;clear Q;generalize X:mQ _=G at c ⊢;refine cf func136 r ?_;refine lH [(0,V i)] ⟨r,y⟩ fun a2=>?_;refine q (g (s (xi r) (n (q (q (g (s (mi r) (n (qb (q ?_))))))))));obtain ⟨R,b,a⟩:=bs a;refine oD (fun f w=>∃ (j:Bool),Has f [(3,V i),(4,.bool j)]/\Bx E w a1 G [] []/\Ld.go j=R) (fun Y m=>?_) ?_
 ·unfold zA at b;refine q (g (s (kH r r) (s (kG r) (n ?_))));rcases iv b with ⟨F,b⟩|⟨F,b⟩
  ·refine jK (bt F) (wk ?_);exact m _ _ ⟨decide (i=14),⟨r,r,y⟩,c,sm b⟩
  refine jD (bf F) (q (g (s (kH r r) (s (kG r) (n ?_)))));rcases iv b with ⟨H,b⟩|⟨H,b⟩
  ·refine jK (bt H) (wk ?_);exact m _ _ ⟨decide (i=15),⟨r,r,y⟩,c,sm b⟩
  refine jD (bf H) (q (g (s (kH r r) (s (kG r) (n ?_)))));rcases iv b with ⟨I,b⟩|⟨I,b⟩
  ·refine jK (bt I) (wk ?_);exact m _ _ ⟨decide (i=16),⟨r,r,y⟩,c,sm b⟩
  refine jD (bf I) (g (s (kH r r) (s (kG r) (n ?_))));exact m _ _ ⟨decide (i=17),⟨r,r,y⟩,c,sm b⟩
 clear c;rintro f w ⟨j,hf,c,J⟩;obtain ⟨a2,rfl⟩:=ng hf;subst J;replace a:=gi a;rcases iv a with ⟨B,a⟩|⟨B,a⟩
 ·refine jK (cb B) (q (g (s (xi r) (n (lS ?_)))));obtain rfl:=sm a;refine jI r (nu r) ?_;exact ⟨r,c⟩
 refine jD (wV B) (q ?_);obtain ⟨S,d,a⟩:=bs a;refine oD (fun f w=>∃ (k:Bool),Has f [(3,V i),(9,.bool k)]/\Bx E w a1 G [] []/\Ld.go k=S) (fun J6 v=>?_) ?_
 ·unfold zu at d;refine q (g (s (kH r r) (s (kG r) (n ?_))));rcases iv d with ⟨K,d⟩|⟨K,d⟩
  ·refine jK (bt K) (wk ?_);exact v _ _ ⟨decide (i=11),⟨r,r,y⟩,c,sm d⟩
  refine jD (bf K) (q (g (s (kH r r) (s (kG r) (n ?_)))));rcases iv d with ⟨L,d⟩|⟨L,d⟩
  ·refine jK (bt L) (wk ?_);exact v _ _ ⟨decide (i=12),⟨r,r,y⟩,c,sm d⟩
  refine jD (bf L) (g (s (kH r r) (s (kG r) (n ?_))));exact v _ _ ⟨decide (i=13),⟨r,r,y⟩,c,sm d⟩
 clear c;rintro f w ⟨k,hf,c,M⟩;obtain ⟨a2,rfl⟩:=ng hf;subst M;replace a:=gi a;rcases iv a with ⟨C,a⟩|⟨C,a⟩
 ·refine jK (cb C) (q (g (s (xi r) (n (lS ?_)))));obtain rfl:=sm a;refine jI r (nu r) ?_;exact ⟨r,c⟩
 refine jD (wV C) (q ?_);obtain ⟨N,e,a⟩:=bs a;refine oD (fun f w=>∃ (h:Bool),Has f [(3,V i),(13,.bool h)]/\Bx E w a1 G [] []/\Ld.go h=N) (fun U u=>?_) ?_
 ·unfold zl at e;refine q (g (s (kH r r) (s (kG r) (n ?_))));rcases iv e with ⟨x,e⟩|⟨x,e⟩
  ·refine jK (bt x) (wk ?_);exact u _ _ ⟨decide (i=6),⟨r,r,y⟩,c,sm e⟩
  refine jD (bf x) (g (s (kH r r) (s (kG r) (n ?_))));exact u _ _ ⟨decide (i=7),⟨r,r,y⟩,c,sm e⟩
 clear c;rintro f w ⟨h,hf,c,D⟩;obtain ⟨a2,rfl⟩:=ng hf;subst D;replace a:=gi a;rcases iv a with ⟨l,a⟩|⟨l,a⟩
 ·refine jK (cb l) (q (g (s (xi r) (n (lS ?_)))));obtain rfl:=sm a;refine jI r (nu r) ?_;exact ⟨r,c⟩
 refine jD (wV l) (q (q (g (s (kH r r) (s (kG r) (n ?_))))));rcases iv a with ⟨o,a⟩|⟨o,a⟩
 ·refine jK (bt o) (wk ?_);rw [uD o];refine jK r (q (g (s (xi r) (n (lS ?_)))));obtain rfl:=sm a;refine jI r (nu r) ?_;exact ⟨r,c⟩
 refine jD (bf o) (q (g (s (kH r r) (s (kG r) (n ?_)))));rcases iv a with ⟨p,a⟩|⟨p,a⟩
 ·refine jK (bt p) (wk ?_);rw [uD p];refine jK r (q (g (s (xi r) (n (lS ?_)))));obtain rfl:=sm a;refine jI r (nu r) ?_;exact ⟨r,c⟩
 refine jD (bf p) (g (s (kH r r) (s (kG r) (n ?_))));rcases iv a with ⟨z,a⟩|⟨z,a⟩
 ·refine jK (bt z) (q (g (s (xi r) (n (lS ?_)))));obtain rfl:=sm a;refine jI r (nu r) ?_;exact ⟨r,c⟩
 refine jD (bf z) (q (q (g (s (kH r r) (s (kG r) (n ?_))))));rcases iv a with ⟨t,a⟩|⟨t,a⟩
 ·refine jK (bt t) (wk ?_);rw [uD t];refine jK r (q (g (s (xi r) (n (lS ?_)))));obtain rfl:=sm a;refine jI r (nu r) ?_;exact ⟨r,c⟩
 refine jD (bf t) (g (s (kH r r) (s (kG r) (n ?_))));rcases iv a with ⟨A,a⟩|⟨A,a⟩
 ·refine jK (bt A) (q (g (s (xi r) (n (lS ?_)))));obtain rfl:=sm a;refine jI r (nu r) ?_;exact ⟨r,c⟩
 refine jD (bf A) (wk (q (g (s (xi r) (n (lS ?_))))));obtain rfl:=sm a;refine jI r (nu r) ?_;exact ⟨r,c⟩
def II (m:BA->Option Ge):Prop:=∀ {d f e}{c:Ge},Pre d f [] []->m e=some c-> Calls prog 67 #[T e] d (sW fun v w=>∃ (a:OA)(b:Nat),v=.agg #[V c.e,V c.d,V c.g,T c.b,T c.c,Z a c.a b]/\Bx d w f (mQ []) [] [.l a b c.a])
def nW (fu:Nat)(a:BA):Option Ge:=some (⟨1,0,0,a,be,([]:List Ge)⟩:Ge)
theorem pz (fu:Nat):II (nW fu):=by
 intro f o b h c e;unfold nW at e;have a:=c.bx;clear c;generalize i:mQ _=G at a ⊢;refine cf func67 r ?_;refine lH [(0,T b)] ⟨r,y⟩ fun p=>?_;refine q (g (l5 (kD a (jP jS)) ?_));rintro _ j ⟨k,rfl,a⟩;refine n (q (g (s (lF r) (s (Hg r r) (lg (tb a 0 [V 1,V 0,V 0,T b,T be,sn] r jS r r r r r (show _=#[V 1,V 0,V 0,T b,T be,sn] from r)) ?_)))));intro m a;try dsimp only [List.set] at a
 refine n (lS ?_);replace a:=a.jZ (d:=.l none 0 ([]:List Ge)) oL;obtain rfl:=sm e;refine jI r (tH r nI r jS r (a.bk 0 r)) ?_;exact ⟨none,0,r,a.arr [] r⟩
def Ku (m:Int->Option Ge):Prop:=∀ {d f e}{c:Ge},Pre d f [] []->m e=some c-> Calls prog 138 #[V e] d (sW fun v w=>∃ (a:OA)(b:Nat),v=.agg #[V c.e,V c.d,V c.g,T c.b,T c.c,Z a c.a b]/\Bx d w f (mQ []) [] [.l a b c.a])
def rZ (fu:Nat)(a:Int):Option Ge:=some (⟨0,a,0,be,be,([]:List Ge)⟩:Ge)
theorem qW (fu:Nat):Ku (rZ fu):=by
 intro f o b h c e;unfold rZ at e;have a:=c.bx;clear c;generalize i:mQ _=G at a ⊢;refine cf func138 r ?_;refine lH [(0,V b)] ⟨r,y⟩ fun p=>?_;refine q (g (l5 (kD a (jP jS)) ?_));rintro _ j ⟨k,rfl,a⟩;refine n (q (g (s (mi r) (s (LQ r r) (lg (tb a 0 [V 0,V b,V 0,T be,T be,sn] r jS r r r r r (show _=#[V 0,V b,V 0,T be,T be,sn] from r)) ?_)))));intro m a;try dsimp only [List.set] at a
 refine n (lS ?_);replace a:=a.jZ (d:=.l none 0 ([]:List Ge)) oL;obtain rfl:=sm e;refine jI r (tH r nI r jS r (a.bk 0 r)) ?_;exact ⟨none,0,r,a.arr [] r⟩
def M8 (m:(List Int)->Option (List Int)):Prop:=∀ {e i f a b h},Pre e i [] [.l a b f]->m f=some h-> Calls prog 21 #[Z a f b] e (sW fun v w=>∃ (c:OA)(d:Nat),v=Z c h d/\Bx e w i (mQ []) [] [.l c d h])
def zN (fu:Nat)(a:(List Int)):Option (List Int):=if 200 < (a.length:Int) then (sl a 0 200).bind fun b=>some b else some a
theorem Mx (fu:Nat):M8 (zN fu):=by
 intro A D v a b B p c;unfold zN at c;have e:=p.bx;clear p;generalize C:mQ _=G at e ⊢;refine cf func21 r ?_;refine lH [(0,Z a v b)] ⟨r,y⟩ fun E=>?_;refine q (g (s (og r) (n (q (q (g (s (qw r) (s (mV Ck r) (s (vJ r r) (n ?_))))))))));rcases iv c with ⟨j,c⟩|⟨j,c⟩
 ·refine jK (bt j) (q (g (s (qw r) ?_)));obtain ⟨k,m,c⟩:=bs c;obtain ⟨w,t,x,o,u,f,h⟩:=D8 m;obtain rfl:w=0:=by omega
  have i:k.length=t:=by rw [<-h,yS,FR];omega
  replace e:=e.jZ (d:=.l a b k) (by have F:=(e.dl 0 r).head f;rw [h] at F;exact F);refine s (show Yl _ _ _ _ _ _ _ _ _ (.slice a k.length b) from (congrArg (fun z=>Value.slice a z b) i).symm ▸ zR t Ck o9 r r o (rA f (e.dl 1 r).cap)) (s (og r) (n (lS ?_)));obtain rfl:=sm c;refine jI r (nu r) ?_;exact ⟨a,b,r,e.dp [0]⟩
 refine jD (bf j) (wk (q (g (s (qw r) (s (og r) (n (lS ?_)))))));obtain rfl:=sm c;refine jI r (nu r) ?_;exact ⟨a,b,r,e⟩
def OM (m:BA->Int->Int->Option (Int × Int)):Prop:=∀ {a h b c d R},Pre a h [] []->m b c d=some R-> Calls prog 48 #[T b,V c,V d] a (sW fun v w=>jy R fun e f=>v=.tuple #[V e,V f]/\Bx a w h (mQ []) [] [])
def zF (fu:Nat)(b:BA)(a c:Int):Option (Ld Bool (Int × Int)):=if c=47 then if (wr (a+1)) < (b.size:Int) then (ixs b (wr (a+1))).bind fun d=>some (.go (decide (d=47))) else some (.go false) else some (.go false)
def rT (fu:Nat)(b:BA):Nat→Int→Option (Ld (Int) (Int × Int))
 | 0,_=>none
 | d+1,a=>
 if a < (b.size:Int) then
  (ixs b a).bind fun c=>
  if c≠10 then
   rT fu b d (wr (a+1))
  else
   some (.go a)
 else
  some (.go a)
def zH (fu:Nat)(a b c:Int):Option (Ld Unit (Int × Int)):=if c≠32 then if c≠9 then if c≠13 then if c≠10 then some (.out (a,b)) else some (.go ()) else some (.go ()) else some (.go ()) else some (.go ())
def pV (fu:Nat)(c:BA):Nat→Int→Int→Option (Ld (Int × Int) (Int × Int))
 | 0,_,_=>none
 | f+1,a,b=>
 if a < (c.size:Int) then
  (ixs c a).bind fun h=>
  (zF fu c a h).bind fun i=>i.el (fun d=>
  if d=true then
   (rT fu c fu a).bind fun i=>i.el (fun e=>
   pV fu c f e b
   ) (fun o=>some (.out o))
  else
   (zH fu a b h).bind fun i=>i.el (fun _=>
   if h=10 then
    pV fu c f (wr (a+1)) (wr (b+1))
   else
    pV fu c f (wr (a+1)) b
   ) (fun o=>some (.out o))
  ) (fun o=>some (.out o))
 else
  some (.go (a,b))
def za (fu:Nat)(c:BA)(d e:Int):Option (Int × Int):=(pV fu c fu d e).bind fun f=>f.el (fun f=>jy f fun a b=>some (a,b)) (fun o=>some o)
theorem Iz (fu:Nat):OM (za fu):=by
 intro D aj o x1 x2 R hP l;unfold za at l;have i:=hP.bx;clear hP;generalize hG:mQ _=G at i ⊢;refine cf func48 r ?_;refine lH [(0,T o),(1,V x1),(2,V x2)] ⟨r,r,r,y⟩ fun ak=>?_;refine q (g (s (xi r) (s (xi r) (n (q ?_)))));obtain ⟨Y1,a,l⟩:=bs l;refine oD (fun f w=>∃ (d c:Int),Has f [(1,V d),(2,V c)]/\Bx D w aj G [] []/\Ld.go (d,c)=Y1) (fun J1 K=>?_) ?_
 ·refine qb (kM (fun al f w=>∃ (d c:Int),Has f [(0,T o),(1,V d),(2,V c)]/\Bx D w aj G [] []/\pV fu o al d c=some Y1) fu ⟨x1,x2,⟨r,r,r,y⟩,i,a⟩ ?_);clear i a;rintro E f w ⟨d,c,hf,i,a⟩ K1 p;obtain ⟨ak,rfl⟩:=ng hf;cases E with
  | zero=>exact nn a
  | succ E=>
   rw [pV] at a;refine q (q (g (s (mi r) (s (lF r) (s (EW vg r) (s (sj r r) (n ?_)))))));rcases iv a with ⟨L,a⟩|⟨L,a⟩
   ·refine jK (bt L) (wk (qb (q (g (s (lF r) (s (mi r) ?_))))));obtain ⟨g3,M,a⟩:=bs a;refine s (Jz vg r r M) (s (xi r) (n (q (q ?_))));obtain ⟨Y4,j,a⟩:=bs a;refine oD (fun f w=>∃ (m:Bool),Has f [(0,T o),(1,V d),(2,V c),(8,.int .u8 g3),(31,.bool m)]/\Bx D w aj G [] []/\Ld.go m=Y4) (fun J4 t=>?_) ?_
    ·unfold zF at j;refine g (s (mi r) (s (kH r r) (s (lI r) ?_)));rcases iv j with ⟨N,j⟩|⟨N,j⟩
     ·rw [uD N];refine kL r (s (mi r) (kL r (s (kN r r) (kL r (s (lF r) (kL r (s (EW vg r) (kL r (s (sj r r) (s (kU r r) (s (lI r) ?_)))))))))));rcases iv j with ⟨Q,j⟩|⟨Q,j⟩
      ·rw [uD Q];refine kL r (s (lF r) (kL r (s (mi r) (kL r (s (kN r r) ?_)))));obtain ⟨g7,S,j⟩:=bs j;refine kL r (s (Jz vg r r S) (kL r (s (kH r r) (s (kU r r) (n ?_)))));exact t _ _ ⟨decide (g7=47),⟨r,r,r,r,r,y⟩,i,sm j⟩
      rw [uL Q];refine ko r (ko r (ko r (ko r (ko r (s (kI r r) (n ?_))))));exact t _ _ ⟨false,⟨r,r,r,r,r,y⟩,i,sm j⟩
     rw [uL N];refine ko r (ko r (ko r (ko r (ko r (s (kI r r) (s (lI r) (ko r (ko r (ko r (ko r (ko r (s (kI r r) (n ?_)))))))))))));exact t _ _ ⟨false,⟨r,r,r,r,r,y⟩,i,sm j⟩
    clear i;rintro f w ⟨m,hf,i,U⟩;obtain ⟨ak,rfl⟩:=ng hf;subst U;replace a:=gi a;rcases iv a with ⟨F,a⟩|⟨F,a⟩
    ·refine jK (cb F) (q ?_);obtain ⟨Y9,h,a⟩:=bs a;refine oD (fun f w=>∃ (e:Int),Has f [(0,T o),(1,V e),(2,V c)]/\Bx D w aj G [] []/\Ld.go e=Y9) (fun J9 H=>?_) ?_
     ·refine qb (kM (fun al f w=>∃ (e:Int),Has f [(0,T o),(1,V e),(2,V c)]/\Bx D w aj G [] []/\rT fu o al e=some Y9) fu ⟨d,⟨r,r,r,y⟩,i,h⟩ ?_);clear i h;rintro W f w ⟨e,hf,i,h⟩ K9 X;obtain ⟨ak,rfl⟩:=ng hf;cases W with
      | zero=>exact nn h
      | succ W=>
       rw [rT] at h;refine q (q (g (s (mi r) (s (lF r) (s (EW vg r) (s (sj r r) (s (lI r) ?_)))))));rcases iv h with ⟨u,h⟩|⟨u,h⟩
       ·rw [uD u];refine kL r (s (lF r) (kL r (s (mi r) ?_)));obtain ⟨aa,I,h⟩:=bs h;refine kL r (s (Jz vg r r I) (kL r (s (tF r r) (s (kU r r) (n ?_)))));rcases iv h with ⟨v,h⟩|⟨v,h⟩
        ·refine jK (bt v) (wk (qb (g (s (mi r) (s (kN r r) (s (xi r) (n ?_)))))));exact X W _ _ (Ec _) ⟨wr (e+1),⟨r,r,r,y⟩,i,h⟩
        refine jD (bf v) (vE ?_);exact H _ _ ⟨e,⟨r,r,r,y⟩,i,sm h⟩
       rw [uL u];refine ko r (ko r (ko r (ko r (s (kI r r) (n (jD r (vE ?_)))))));exact H _ _ ⟨e,⟨r,r,r,y⟩,i,sm h⟩
     clear i;rintro f w ⟨e,hf,i,Y⟩;obtain ⟨ak,rfl⟩:=ng hf;subst Y;replace a:=gi a;refine vE ?_;exact p E _ _ (Ec _) ⟨e,c,⟨r,r,r,y⟩,i,a⟩
    refine jD (wV F) (wk (q ?_));obtain ⟨a0,b,a⟩:=bs a;refine oD (fun f w=>Has f [(0,T o),(1,V d),(2,V c),(8,.int .u8 g3)]/\Bx D w aj G [] []/\Ld.go ()=a0) (fun ab k=>?_) ?_
    ·unfold zH at b;refine q (g (s (mi r) (s (tF r r) (s (lI r) ?_))));rcases iv b with ⟨x,b⟩|⟨x,b⟩
     ·rw [uD x];refine kL r (s (mi r) (kL r (s (tF r r) (s (kU r r) (s (lI r) ?_)))));rcases iv b with ⟨z,b⟩|⟨z,b⟩
      ·rw [uD z];refine kL r (s (mi r) (kL r (s (tF r r) (s (kU r r) (s (lI r) ?_)))));rcases iv b with ⟨A,b⟩|⟨A,b⟩
       ·rw [uD A];refine kL r (s (mi r) (kL r (s (tF r r) (s (kU r r) (n ?_)))));rcases iv b with ⟨B,b⟩|⟨B,b⟩
        ·refine jK (bt B) (q (g (s (mi r) (s (mi r) (s (xi r) (s (xi r) (n (lS ?_))))))));obtain rfl:=sm b;replace a:=oi a;obtain rfl:=sm a;replace l:=oi l;obtain rfl:=sm l;refine Cc r (nu r) (nu r) ?_;exact mZ (⟨r,i⟩)
        refine jD (bf B) (wk ?_);exact k _ _ ⟨⟨r,r,r,r,y⟩,i,sm b⟩
       rw [uL A];refine ko r (ko r (s (kI r r) (n (jD r (wk ?_)))));exact k _ _ ⟨⟨r,r,r,r,y⟩,i,sm b⟩
      rw [uL z];refine ko r (ko r (s (kI r r) (s (lI r) (ko r (ko r (s (kI r r) (n (jD r (wk ?_)))))))));exact k _ _ ⟨⟨r,r,r,r,y⟩,i,sm b⟩
     rw [uL x];refine ko r (ko r (s (kI r r) (s (lI r) (ko r (ko r (s (kI r r) (s (lI r) (ko r (ko r (s (kI r r) (n (jD r (wk ?_)))))))))))));exact k _ _ ⟨⟨r,r,r,r,y⟩,i,sm b⟩
    clear i;rintro f w ⟨hf,i,J⟩;obtain ⟨ak,rfl⟩:=ng hf;subst J;replace a:=gi a;refine q (q (g (s (mi r) (s (kH r r) (n ?_)))));rcases iv a with ⟨C,a⟩|⟨C,a⟩
    ·refine jK (bt C) (g (s (mi r) (s (kN r r) (s (xi r) (n (g (s (mi r) (s (kN r r) (s (xi r) (n ?_))))))))));exact p E _ _ (Ec _) ⟨wr (d+1),wr (c+1),⟨r,r,r,y⟩,i,a⟩
    refine jD (bf C) (wk (g (s (mi r) (s (kN r r) (s (xi r) (n ?_))))));exact p E _ _ (Ec _) ⟨wr (d+1),c,⟨r,r,r,y⟩,i,a⟩
   refine jD (bf L) (vE ?_);exact K _ _ ⟨d,c,⟨r,r,y⟩,i,sm a⟩
 clear i;rintro f w ⟨d,c,hf,i,a1⟩;obtain ⟨ak,rfl⟩:=ng hf;subst a1;replace l:=gi l;replace l:=pi l;refine q (g (s (mi r) (s (mi r) (s (xi r) (s (xi r) (n (lS ?_)))))));obtain rfl:=sm l;refine Cc r (nu r) (nu r) ?_;exact mZ (⟨r,i⟩)
def Qz (m:BA->Int->Int->Option (kg × Int × Int)):Prop:=∀ {b i c d e R},Pre b i [] []->m c d e=some R-> Calls prog 49 #[T c,V d,V e] b (sW fun v w=>jy R fun a R=>jy R fun f h=>v=.tuple #[.agg #[V a.c,V a.f,T a.a,V a.d],V f,V h]/\Bx b w i (mQ []) [] [])
def vM (fu:Nat)(d:BA)(a:Int):Option (Ld Bool (kg × Int × Int)):=if a < (d.size:Int) then (ixs d a).bind fun f=>(rF fu f).bind fun c=>if c=true then some (.go true) else (ixs d a).bind fun e=>(vv fu e).bind fun b=>some (.go b) else some (.go false)
def qH (fu:Nat)(c:BA):Nat→Int→Option (Ld (Int) (kg × Int × Int))
 | 0,_=>none
 | d+1,a=>
 (vM fu c a).bind fun e=>e.el (fun b=>
 if b=true then
  qH fu c d (wr (a+1))
 else
  some (.go a)
 ) (fun o=>some (.out o))
def oU (fu:Nat)(d:BA)(f:Int):Nat→Int→Int→Option (Ld (Int × Int) (kg × Int × Int))
 | 0,_,_=>none
 | e+1,a,b=>
 if a < (d.size:Int) then
  (ixs d a).bind fun h=>
  (vv fu h).bind fun c=>
  if c=true then
   if (wr (a - f)) < 18 then
    (ixs d a).bind fun i=>
    oU fu d f e (wr (a+1)) (wr ((wr (10 * b))+(wr (w8 (i - 48)))))
   else
    oU fu d f e (wr (a+1)) b
  else
   some (.go (a,b))
 else
  some (.go (a,b))
def AV (fu:Nat)(d:BA)(a:Int):Option (Ld Unit (kg × Int × Int)):=if a < (d.size:Int) then (ixs d a).bind fun c=>(rF fu c).bind fun b=>if b=true then some (.out ((⟨0,0,be,0⟩:kg),0,6)) else some (.go ()) else some (.go ())
def CO (fu:Nat)(e:BA)(d l:Int):Option (kg × Int × Int):=(ixs e d).bind fun p=>(rF fu p).bind fun k=>if k=true then (qH fu e fu d).bind fun t=>t.el (fun c=>if 12 < (wr (c - d)) then some ((⟨0,0,be,0⟩:kg),0,5) else (UG e d c).bind fun f=>(vk fu f).bind fun h=>if h=true then some ((⟨3,l,f,0⟩:kg),c,0) else some ((⟨1,l,f,0⟩:kg),c,0)) (fun o=>some o) else (ixs e d).bind fun m=>(vv fu m).bind fun i=>if i=true then (oU fu e d fu d 0).bind fun t=>t.el (fun t=>jy t fun a j=>if 18 < (wr (a - d)) then some ((⟨0,0,be,0⟩:kg),0,5) else (AV fu e a).bind fun t=>t.el (fun _=>some ((⟨2,l,be,j⟩:kg),a,0)) (fun o=>some o)) (fun o=>some o) else (Bq fu e d).bind fun b=>if b=(⟨#[]⟩:BA) then some ((⟨0,0,be,0⟩:kg),0,6) else some ((⟨4,l,b,0⟩:kg),wr (d+(b.size:Int)),0)
theorem Rc (fu:Nat):Qz (CO fu):=by
 intro X b8 F C l R hP d;unfold CO at d;have a:=hP.bx;clear hP;generalize hG:mQ _=G at a ⊢;refine cf func49 r ?_;refine lH [(0,T F),(1,V C),(2,V l)] ⟨r,r,r,y⟩ fun b9=>?_;refine q (g (l5 (kD a (jP qj)) ?_));rintro _ w1 ⟨o,rfl,a⟩;refine s (xi r) (s (xi r) (n (q (g (s (mi r) (s (xi r) (n (q (q (g (s (lF r) (s (mi r) ?_))))))))))));obtain ⟨g2,a9,d⟩:=bs d;refine s (Jz vg r r a9) ?_;obtain ⟨ax,h3,d⟩:=bs d;have hc:=(Ch fu) (a.pr [] [0] [] r)  h3;refine sc (ec VX r) hc ?_;rintro _ w3 ⟨rfl,m⟩;replace a:=a.cl [] [0] r m r;try dsimp only [pick,nth,ca,na] at a
 refine n ?_;rcases iv d with ⟨Y,d⟩|⟨Y,d⟩
 ·refine jK (cb Y) (q ?_);obtain ⟨Y5,k,d⟩:=bs d;refine oD (fun f w=>∃ (j:Int),Has f [(0,T F),(1,V j),(2,V l),(6,Pt o),(9,V C)]/\Bx X w b8 G [.box o 137 #[V 0,V 0,T be,V 0]] []/\Ld.go j=Y5) (fun J5 aa=>?_) ?_
  ·refine qb (kM (fun ba f w=>∃ (j:Int),Has f [(0,T F),(1,V j),(2,V l),(6,Pt o),(9,V C)]/\Bx X w b8 G [.box o 137 #[V 0,V 0,T be,V 0]] []/\qH fu F ba j=some Y5) fu ⟨C,⟨r,r,r,r,r,y⟩,a,k⟩ ?_);clear a k;rintro n5 f w ⟨j,hf,a,k⟩ K5 ac;obtain ⟨b9,rfl⟩:=ng hf;cases n5 with
   | zero=>exact nn k
   | succ n5=>
    rw [qH] at k;refine q (q ?_);obtain ⟨Y6,i,k⟩:=bs k;refine oD (fun f w=>∃ (p:Bool),Has f [(0,T F),(1,V j),(2,V l),(6,Pt o),(9,V C),(33,.bool p)]/\Bx X w b8 G [.box o 137 #[V 0,V 0,T be,V 0]] []/\Ld.go p=Y6) (fun J6 K=>?_) ?_
    ·unfold vM at i;refine g (s (mi r) (s (lF r) (s (EW vg r) (s (sj r r) (s (lI r) ?_)))));rcases iv i with ⟨h7,i⟩|⟨h7,i⟩
     ·rw [uD h7];refine kL r (s (lF r) (kL r (s (mi r) ?_)));obtain ⟨g8,af,i⟩:=bs i;refine kL r (s (Jz vg r r af) ?_);obtain ⟨az,h9,i⟩:=bs i;refine kL r ?_;have hc:=(Ch fu) (a.pr [] [0] [] r)  h9;refine sc (ec VX r) hc ?_;rintro _ w9 ⟨rfl,m⟩;replace a:=a.cl [] [0] r m r;try dsimp only [pick,nth,ca,na] at a
      refine kL r (s (lI r) ?_);rcases iv i with ⟨t,i⟩|⟨t,i⟩
      ·rw [t];refine ko r (ko r (ko r (ko r (kL r (s (kU r r) (s (kU r r) (n ?_)))))));exact K _ _ ⟨true,⟨r,r,r,r,r,r,y⟩,a,sm i⟩
      replace t:=nt t;rw [t];refine kL r (s (lF r) (kL r (s (mi r) ?_)));obtain ⟨aD,a0,i⟩:=bs i;refine kL r (s (Jz vg r r a0) ?_);obtain ⟨L,ag,i⟩:=bs i;refine kL r ?_;have hc:=(Di fu) (a.pr [] [0] [] r)  ag;refine sc (ec UN r) hc ?_;rintro _ aE ⟨rfl,m⟩;replace a:=a.cl [] [0] r m r;try dsimp only [pick,nth,ca,na] at a
      refine kL r (s (kI r r) (s (kU r r) (n ?_)));exact K _ _ ⟨L,⟨r,r,r,r,r,r,y⟩,a,sm i⟩
     rw [uL h7];refine ko r (ko r (ko r (ko r (ko r (ko r (ko r (ko r (ko r (ko r (s (kI r r) (n ?_)))))))))));exact K _ _ ⟨false,⟨r,r,r,r,r,r,y⟩,a,sm i⟩
    clear a;rintro f w ⟨p,hf,a,ah⟩;obtain ⟨b9,rfl⟩:=ng hf;subst ah;replace k:=gi k;rcases iv k with ⟨u,k⟩|⟨u,k⟩
    ·refine jK (cb u) (wk (qb (g (s (mi r) (s (kN r r) (s (xi r) (n ?_)))))));exact ac n5 _ _ (Ec _) ⟨wr (j+1),⟨r,r,r,r,r,y⟩,a,k⟩
    refine jD (wV u) (vE ?_);exact aa _ _ ⟨j,⟨r,r,r,r,r,y⟩,a,sm k⟩
  clear a;rintro f w ⟨j,hf,a,ai⟩;obtain ⟨b9,rfl⟩:=ng hf;subst ai;replace d:=gi d;refine q (q (g (s (mi r) (s (mi r) (s (yh r r) (s (vJ r r) (n ?_)))))));rcases iv d with ⟨M,d⟩|⟨M,d⟩
  ·refine jK (bt M) (q (g (s MB (lg (tb a 0 [V 0,V 0,T be,V 0] r qj r r r r r (show _=#[V 0,V 0,T be,V 0] from r)) ?_))));intro aF a;try dsimp only [List.set] at a
   refine s (xi r) (s (xi r) (n (lS ?_)));obtain rfl:=sm d;refine AJ r (tH r EG r qj r (a.bk 0 r)) (nu r) (nu r) ?_;exact mZ (mZ ⟨r,a.arr [] r⟩)
  refine jD (bf M) (wk (q (g (s (lF r) (s (mi r) (s (mi r) ?_))))));obtain ⟨D,a1,d⟩:=bs d;refine s (Zb vg r r r a1) (s (mP r) (n (q (q (g (s (lF r) ?_))))));obtain ⟨aj,ak,d⟩:=bs d;have hc:=(IU fu) (a.pr [] [0] [] r)  ak;refine sc (ec ach r) hc ?_;rintro _ aG ⟨rfl,m⟩;replace a:=a.cl [] [0] r m r;try dsimp only [pick,nth,ca,na] at a
  refine n ?_;rcases iv d with ⟨v,d⟩|⟨v,d⟩
  ·refine jK (cb v) (q (g (s (mi r) (s (lF r) (s (DT r r r) (s (mi r) (lg (tb a 0 [V 3,V l,T D,V 0] r qj r r r r r (show _=#[V 3,V l,T D,V 0] from r)) ?_)))))));intro aH a;try dsimp only [List.set] at a
   refine s (xi r) (s (xi r) (n (lS ?_)));obtain rfl:=sm d;refine AJ r (tH r EG r qj r (a.bk 0 r)) (nu r) (nu r) ?_;exact mZ (mZ ⟨r,a.arr [] r⟩)
  refine jD (wV v) (wk (q (g (s (mi r) (s (lF r) (s (DT r r r) (s (mi r) (lg (tb a 0 [V 1,V l,T D,V 0] r qj r r r r r (show _=#[V 1,V l,T D,V 0] from r)) ?_))))))));intro aI a;try dsimp only [List.set] at a
  refine s (xi r) (s (xi r) (n (lS ?_)));obtain rfl:=sm d;refine AJ r (tH r EG r qj r (a.bk 0 r)) (nu r) (nu r) ?_;exact mZ (mZ ⟨r,a.arr [] r⟩)
 refine jD (wV Y) (wk (q (q (g (s (lF r) (s (mi r) ?_))))));obtain ⟨aJ,a2,d⟩:=bs d;refine s (Jz vg r r a2) ?_;obtain ⟨al,am,d⟩:=bs d;have hc:=(Di fu) (a.pr [] [0] [] r)  am;refine sc (ec UN r) hc ?_;rintro _ aK ⟨rfl,m⟩;replace a:=a.cl [] [0] r m r;try dsimp only [pick,nth,ca,na] at a
 refine n ?_;rcases iv d with ⟨x,d⟩|⟨x,d⟩
 ·refine jK (cb x) (q (g (s (xi r) (n (q ?_)))));obtain ⟨a3,b,d⟩:=bs d;refine oD (fun f w=>∃ (e c:Int),Has f [(0,T F),(1,V e),(2,V l),(6,Pt o),(9,V C),(11,V c)]/\Bx X w b8 G [.box o 137 #[V 0,V 0,T be,V 0]] []/\Ld.go (e,c)=a3) (fun aL H=>?_) ?_
  ·refine qb (kM (fun ba f w=>∃ (e c:Int),Has f [(0,T F),(1,V e),(2,V l),(6,Pt o),(9,V C),(11,V c)]/\Bx X w b8 G [.box o 137 #[V 0,V 0,T be,V 0]] []/\oU fu F C ba e c=some a3) fu ⟨C,0,⟨r,r,r,r,r,r,y⟩,a,b⟩ ?_);clear a b;rintro E f w ⟨e,c,hf,a,b⟩ aM I;obtain ⟨b9,rfl⟩:=ng hf;cases E with
   | zero=>exact nn b
   | succ E=>
    rw [oU] at b;refine q (q (g (s (mi r) (s (lF r) (s (EW vg r) (s (sj r r) (s (lI r) ?_)))))));rcases iv b with ⟨N,b⟩|⟨N,b⟩
    ·rw [uD N];refine kL r (s (lF r) (kL r (s (mi r) ?_)));obtain ⟨aN,a4,b⟩:=bs b;refine kL r (s (Jz vg r r a4) ?_);obtain ⟨an,ao,b⟩:=bs b;refine kL r ?_;have hc:=(Di fu) (a.pr [] [0] [] r)  ao;refine sc (ec UN r) hc ?_;rintro _ aO ⟨rfl,m⟩;replace a:=a.cl [] [0] r m r;try dsimp only [pick,nth,ca,na] at a
     refine s (kU r r) (n ?_);rcases iv b with ⟨z,b⟩|⟨z,b⟩
     ·refine jK (cb z) (wk (qb (q (q (g (s (mi r) (s (mi r) (s (yh r r) (s (sj r r) (n ?_))))))))));rcases iv b with ⟨Q,b⟩|⟨Q,b⟩
      ·refine jK (bt Q) (g (s (mi r) (s (YC r r) (s (lF r) (s (mi r) ?_)))));obtain ⟨ap,a5,b⟩:=bs b;refine s (Jz vg r r a5) (s (abP r r) (s (ad9 ⟨_,u5_⟩ NG r) (s (kN r r) (s (xi r) (n (g (s (mi r) (s (kN r r) (s (xi r) (n ?_))))))))));exact I E _ _ (Ec _) ⟨wr (e+1),wr ((wr (10 * c))+(wr (w8 (ap - 48)))),⟨r,r,r,r,r,r,y⟩,a,b⟩
      refine jD (bf Q) (wk (g (s (mi r) (s (kN r r) (s (xi r) (n ?_))))));exact I E _ _ (Ec _) ⟨wr (e+1),c,⟨r,r,r,r,r,r,y⟩,a,b⟩
     refine jD (wV z) (vE ?_);exact H _ _ ⟨e,c,⟨r,r,r,r,r,r,y⟩,a,sm b⟩
    rw [uL N];refine ko r (ko r (ko r (ko r (s (kI r r) (n (jD r (vE ?_)))))));exact H _ _ ⟨e,c,⟨r,r,r,r,r,r,y⟩,a,sm b⟩
  clear a;rintro f w ⟨e,c,hf,a,a6⟩;obtain ⟨b9,rfl⟩:=ng hf;subst a6;replace d:=gi d;replace d:=pi d;refine q (q (g (s (mi r) (s (mi r) (s (yh r r) (s (vJ r r) (n ?_)))))));rcases iv d with ⟨S,d⟩|⟨S,d⟩
  ·refine jK (bt S) (q (g (s MB (lg (tb a 0 [V 0,V 0,T be,V 0] r qj r r r r r (show _=#[V 0,V 0,T be,V 0] from r)) ?_))));intro aP a;try dsimp only [List.set] at a
   refine s (xi r) (s (xi r) (n (lS ?_)));obtain rfl:=sm d;refine AJ r (tH r EG r qj r (a.bk 0 r)) (nu r) (nu r) ?_;exact mZ (mZ ⟨r,a.arr [] r⟩)
  refine jD (bf S) (wk (q ?_));obtain ⟨aq,h,d⟩:=bs d;refine oD (fun f w=>Has f [(1,V e),(2,V l),(6,Pt o),(11,V c)]/\Bx X w b8 G [.box o 137 #[V 0,V 0,T be,V 0]] []/\Ld.go ()=aq) (fun aQ J=>?_) ?_
  ·unfold AV at h;refine q (g (s (mi r) (s (lF r) (s (EW vg r) (s (sj r r) (s (lI r) ?_))))));rcases iv h with ⟨U,h⟩|⟨U,h⟩
   ·rw [uD U];refine kL r (s (lF r) (kL r (s (mi r) ?_)));obtain ⟨aR,a7,h⟩:=bs h;refine kL r (s (Jz vg r r a7) ?_);obtain ⟨ar,au,h⟩:=bs h;refine kL r ?_;have hc:=(Ch fu) (a.pr [] [0] [] r)  au;refine sc (ec VX r) hc ?_;rintro _ aS ⟨rfl,m⟩;replace a:=a.cl [] [0] r m r;try dsimp only [pick,nth,ca,na] at a
    refine s (kU r r) (n ?_);rcases iv h with ⟨A,h⟩|⟨A,h⟩
    ·refine jK (cb A) (q (g (s MB (lg (tb a 0 [V 0,V 0,T be,V 0] r qj r r r r r (show _=#[V 0,V 0,T be,V 0] from r)) ?_))));intro aT a;try dsimp only [List.set] at a
     refine s (xi r) (s (xi r) (n (lS ?_)));obtain rfl:=sm h;replace d:=oi d;obtain rfl:=sm d;refine AJ r (tH r EG r qj r (a.bk 0 r)) (nu r) (nu r) ?_;exact mZ (mZ ⟨r,a.arr [] r⟩)
    refine jD (wV A) (wk ?_);exact J _ _ ⟨⟨r,r,r,r,y⟩,a,sm h⟩
   rw [uL U];refine ko r (ko r (ko r (ko r (s (kI r r) (n (jD r (wk ?_)))))));exact J _ _ ⟨⟨r,r,r,r,y⟩,a,sm h⟩
  clear a;rintro f w ⟨hf,a,a8⟩;obtain ⟨b9,rfl⟩:=ng hf;subst a8;replace d:=gi d;refine q (g (s (mi r) (s (mi r) (s (Px r r r) (s (mi r) (lg (tb a 0 [V 2,V l,T be,V c] r qj r r r r r (show _=#[V 2,V l,T be,V c] from r)) ?_))))));intro aU a;try dsimp only [List.set] at a
  refine s (xi r) (s (xi r) (n (lS ?_)));obtain rfl:=sm d;refine AJ r (tH r EG r qj r (a.bk 0 r)) (nu r) (nu r) ?_;exact mZ (mZ ⟨r,a.arr [] r⟩)
 refine jD (wV x) (wk (q (g (s (lF r) (s (mi r) ?_)))));obtain ⟨B,av,d⟩:=bs d;have hc:=(Qb fu) (a.pr [] [0] [] r)  av;refine sc (ec aa9 r) hc ?_;rintro _ aV ⟨rfl,m⟩;replace a:=a.cl [] [0] r m r;try dsimp only [pick,nth,ca,na] at a
 refine s (mP r) (n (q (q (g (s (lF r) (s (rY r r) (n ?_)))))));rcases iv d with ⟨W,d⟩|⟨W,d⟩
 ·refine jK (bt W) (q (g (s MB (lg (tb a 0 [V 0,V 0,T be,V 0] r qj r r r r r (show _=#[V 0,V 0,T be,V 0] from r)) ?_))));intro aW a;try dsimp only [List.set] at a
  refine s (xi r) (s (xi r) (n (lS ?_)));obtain rfl:=sm d;refine AJ r (tH r EG r qj r (a.bk 0 r)) (nu r) (nu r) ?_;exact mZ (mZ ⟨r,a.arr [] r⟩)
 refine jD (bf W) (wk (q (g (s (mi r) (s (lF r) (s (DT r r r) (s (mi r) (s (lF r) (s (EW vg r) (s (kN r r) (lg (tb a 0 [V 4,V l,T B,V 0] r qj r r r r r (show _=#[V 4,V l,T B,V 0] from r)) ?_)))))))))));intro aX a;try dsimp only [List.set] at a
 refine s (xi r) (s (xi r) (n (lS ?_)));obtain rfl:=sm d;refine AJ r (tH r EG r qj r (a.bk 0 r)) (nu r) (nu r) ?_;exact mZ (mZ ⟨r,a.arr [] r⟩)
def OJ (m:BA->Option ((List kg) × Int × Int)):Prop:=∀ {d:World}{j e R},Pre d j [] []->m e=some R-> Calls prog 27 #[T e] d (sW fun v w=>jy R fun f R=>jy R fun h i=>∃ (a:OA)(b:Nat)(c:LV),v=.tuple #[Z a f b,V h,V i]/\Bx d w j (mQ []) [O d.heap.size a b 137 kg c] [.els c f])
def zk (fu:Nat)(b:List kg)(a:Int):Option (Ld Int ((List kg) × Int × Int)):=if a=0 then if 2000<=(b.length:Int) then some (.go 5) else some (.go a) else some (.go a)
def uy (fu:Nat)(k:BA):Nat→Int→Int→(List kg)→Option (Ld (Int × Int × List kg) ((List kg) × Int × Int))
 | 0,_,_,_=>none
 | m+1,b,a,c=>
 if b < (k.size:Int) then
  (CO fu k b a).bind fun p=>
  jy p fun h p=>jy p fun i j=>
  (zk fu c j).bind fun p=>p.el (fun d=>
  if d≠0 then
   some (.out (([]:List kg),a,d))
  else
   (app c ([h]:List kg)).bind fun l=>
   (za fu k i a).bind fun p=>
   jy p fun e f=>
   uy fu k m e f l
  ) (fun o=>some (.out o))
 else
  some (.go (b,a,c))
def Bc (fu:Nat)(e:BA):Option ((List kg) × Int × Int):=if 4000 < (e.size:Int) then some (([]:List kg),0,5) else (za fu e 0 1).bind fun i=>jy i fun a b=>(uy fu e fu a b ([]:List kg)).bind fun i=>i.el (fun i=>jy i fun h i=>jy i fun c d=>(app d ([(⟨0,c,be,0⟩:kg)]:List kg)).bind fun f=>some (f,0,0)) (fun o=>some o)
theorem OW (fu:Nat):OJ (Bc fu):=by
 intro B au K R hP l;unfold Bc at l;have c:=hP.bx;clear hP;generalize hG:mQ _=G at c ⊢;refine cf func27 r ?_;refine lH [(0,T K)] ⟨r,y⟩ fun av=>?_;refine q (g (s (og r) (s (xi r) (s (xi r) (n (q (q (g (s (lF r) (s (EW vg r) (s (vJ r r) (n ?_))))))))))));rcases iv l with ⟨L,l⟩|⟨L,l⟩
 ·refine jK (bt L) (q (g (s (og r) (s (xi r) (s (xi r) (n (lS ?_)))))));replace c:=c.EK kg 137;obtain rfl:=sm l;refine AJ r (nu r) (nu r) (nu r) ?_;exact mZ (mZ ⟨none,0,[],r,c⟩)
 refine jD (bf L) (wk (q (g (s (og r) (n (q (g (s (lF r) ?_))))))));obtain ⟨⟨C,D⟩,h3,l⟩:=bs l;replace l:=pi l;have hc:=(Iz fu) (c.pr [] [] [] r)  h3;refine sc (ec X6 r) hc ?_;rintro _ w3 ⟨rfl,E⟩;replace c:=c.cl [] [] r E r;try dsimp only [pick,nth,ca,na] at c
 refine s vX (s (kF r r) (s (kF r r) (s (xi r) (s (xi r) (n (q ?_))))));replace c:=c.EK kg 137;obtain ⟨Y4,b,l⟩:=bs l;refine oD (fun f w=>∃ (m j:Int)(i:List kg)(d:OA)(e:Nat)(h:LV),Has f [(5,Z d i e),(7,V j)]/\Bx B w au G [O B.heap.size d e 137 kg h] [.els h i]/\Ld.go (m,j,i)=Y4) (fun J4 M=>?_) ?_
 ·refine qb (kM (fun aw f w=>∃ (m j:Int)(i:List kg)(d:OA)(e:Nat)(h:LV),Has f [(0,T K),(5,Z d i e),(6,V m),(7,V j)]/\Bx B w au G [O B.heap.size d e 137 kg h] [.els h i]/\uy fu K aw m j i=some Y4) fu ⟨C,D,([]:List kg),none,0,[],⟨r,r,r,r,y⟩,c,b⟩ ?_);clear c b;rintro N f w ⟨m,j,i,d,e,h,hf,c,b⟩ K4 Q;obtain ⟨av,rfl⟩:=ng hf;cases N with
  | zero=>exact nn b
  | succ N=>
   rw [uy] at b;refine q (q (g (s (mi r) (s (lF r) (s (EW vg r) (s (sj r r) (n ?_)))))));rcases iv b with ⟨S,b⟩|⟨S,b⟩
   ·refine jK (bt S) (wk (qb (q (g (s (lF r) (s (mi r) (s (mi r) ?_)))))));obtain ⟨⟨a,F,t⟩,h7,b⟩:=bs b;replace b:=pi b;replace b:=pi b;have hc:=(Rc fu) (c.pr [] [0] [] r)  h7;refine sc (ec abM r) hc ?_;rintro _ w7 ⟨rfl,E⟩;replace c:=c.cl [] [0] r E r;try dsimp only [pick,nth,ca,na] at c
    refine s vX (s (kF r r) (s (kF r r) (s (kF r r) (l5 (kD c (jP qj)) ?_))));rintro _ w8 ⟨b8,rfl,c⟩;refine lg (tb c 0 [V a.c,V a.f,T a.a,V a.d] r qj r r r r r (show _=#[V a.c,V a.f,T a.a,V a.d] from r)) ?_;intro w9 c;try dsimp only [List.set] at c
    refine s (xi r) (s (xi r) (n (q ?_)));obtain ⟨U,k,b⟩:=bs b;refine oD (fun f w=>∃ (o:Int),Has f [(0,T K),(5,Z d i e),(7,V j),(8,Pt b8),(9,V F),(10,V o)]/\Bx B w au G [.box b8 137 #[V a.c,V a.f,T a.a,V a.d],O B.heap.size d e 137 kg h] [.els h i]/\Ld.go o=U) (fun ab p=>?_) ?_
    ·unfold zk at k;refine q (g (s (mi r) (s (kH r r) (s (lI r) ?_))));rcases iv k with ⟨u,k⟩|⟨u,k⟩
     ·rw [uD u];refine kL r (s (qw r) (kL r (s (mV FE r) (kL r (s (F8 r r) (s (kU r r) (n ?_)))))));rcases iv k with ⟨v,k⟩|⟨v,k⟩
      ·refine jK (bt v) (g (s (xi r) (n ?_)));exact p _ _ ⟨5,⟨r,r,r,r,r,r,y⟩,c,sm k⟩
      refine jD (bf v) (wk ?_);exact p _ _ ⟨t,⟨r,r,r,r,r,r,y⟩,c,sm k⟩
     rw [uL u];refine ko r (ko r (ko r (s (kI r r) (n (jD r (wk ?_))))));exact p _ _ ⟨t,⟨r,r,r,r,r,r,y⟩,c,sm k⟩
    clear c;rintro f w ⟨o,hf,c,H⟩;obtain ⟨av,rfl⟩:=ng hf;subst H;replace b:=gi b;refine q (q (g (s (mi r) (s (tF r r) (n ?_)))));rcases iv b with ⟨x,b⟩|⟨x,b⟩
    ·refine jK (bt x) (q (g (s (mi r) (s (mi r) (s (og r) (s (xi r) (s (xi r) (n (lS ?_)))))))));replace c:=c.EK kg 137;obtain rfl:=sm b;replace l:=oi l;obtain rfl:=sm l;refine AJ r (nu r) (nu r) (nu r) ?_;exact mZ (mZ ⟨none,0,[],r,c.ad [0] [0]⟩)
    refine jD (bf x) (wk (q (g (s (qw r) (s (jQ [V a.c,V a.f,T a.a,V a.d] EG r qj r r (Cells.part (c.bk 0 r).cells (o2:=0) r)) (l5 (jM c [[V a.c,V a.f,T a.a,V a.d]] ([a]:List kg) (PY r) r r (by decide) ⟨r,y⟩) ?_))))));rintro _ ac ⟨ae,rfl,c⟩;obtain ⟨W,I,b⟩:=bs b;refine l5 (kR c 2 1 r r FE qj r (by decide) (by decide) (nJ _) r r (c.BU 0 0 r r) I) ?_;rintro _ af ⟨X,Y,a0,rfl,c⟩;refine s (og r) (n (g (s (lF r) (s (mi r) (s (mi r) ?_)))));obtain ⟨⟨z,A⟩,a1,b⟩:=bs b;replace b:=pi b;have hc:=(Iz fu) (c.pr [] [0,1,2] [] r)  a1;refine sc (ec X6 r) hc ?_;rintro _ ag ⟨rfl,E⟩;replace c:=c.cl [] [0,1,2] r E r;try dsimp only [pick,nth,ca,na] at c
    refine s vX (s (kF r r) (s (kF r r) (s (xi r) (s (xi r) (n ?_)))));exact Q N _ _ (Ec _) ⟨z,A,W,X,Y,a0,⟨r,r,r,r,y⟩,c.ad [2] [1],b⟩
   refine jD (bf S) (vE ?_);exact M _ _ ⟨m,j,i,d,e,h,⟨r,r,y⟩,c,sm b⟩
 clear c;rintro f w ⟨m,j,i,d,e,h,hf,c,a2⟩;obtain ⟨av,rfl⟩:=ng hf;subst a2;replace l:=gi l;replace l:=pi l;replace l:=pi l;refine q (g (s (qw r) (s (mi r) (s (SE r r) (l5 (jM c [[V 0,V j,T be,V 0]] ([(⟨0,j,be,0⟩:kg)]:List kg) (PY r) r r (by decide) ⟨r,y⟩) ?_)))));rintro _ ah ⟨ai,rfl,c⟩;obtain ⟨aj,J,l⟩:=bs l;refine l5 (kR c 1 1 r r FE qj r (by decide) (by decide) (nJ _) r r (c.BU 0 0 r r) J) ?_;rintro _ ak ⟨a3,a4,a5,rfl,c⟩;refine s (og r) (s (xi r) (s (xi r) (n (lS ?_))));obtain rfl:=sm l;refine AJ r (nu r) (nu r) (nu r) ?_;exact mZ (mZ ⟨a3,a4,a5,r,c.ad [1] [1]⟩)
abbrev F9:=Int->Option (ByteArray)
def zy (m:Int->Option BA):Prop:=∀ {a d b c},Pre a d [] []->m b=some c-> Calls prog 91 #[V b] a (sW fun v w=>v=T c/\Bx a w d (mQ []) [] [])
def xI (fu:Nat)(r_r03_Digits:F9)(a:Int):Option BA:=if a < 0 then if a=(-9223372036854775808) then some (⟨#[45,57,50,50,51,51,55,50,48,51,54,56,53,52,55,55,53,56,48,56]⟩:BA) else (r_r03_Digits (wr (0 - a))).bind fun c=>(cat (⟨#[45]⟩:BA) c).bind fun f=>some f else if a < 10 then some (pq ([⟨w8 (wr (48+a))⟩]:List G5)) else (r_r03_Digits (wr (a.tdiv 10))).bind fun d=>(r_r03_Digits (a.tmod 10)).bind fun b=>(cat d b).bind fun e=>some e
def Eh:Nat→(Int→Option (BA))
 | 0=>(fun _=>none)
 | fu+1=>xI fu (Eh fu)
def rR (fu:Nat):=(Eh fu)
theorem KJ (fu:Nat)(r_r03_Digits:F9)(H_r03_Digits:zy r_r03_Digits):zy (xI fu r_r03_Digits):=by
 intro x F e z m a;unfold xI at a;have b:=m.bx;clear m;generalize A:mQ _=G at b ⊢;refine cf func91 r ?_;refine lH [(0,V e)] ⟨r,y⟩ fun H=>?_;refine q (g (s (mP r) (n (q (q (g (s (mi r) (s (sj r r) (n ?_)))))))));rcases iv a with ⟨f,a⟩|⟨f,a⟩
 ·refine jK (bt f) (q (q (g (s (mi r) (s (kH r r) (n ?_))))));rcases iv a with ⟨h,a⟩|⟨h,a⟩
  ·refine jK (bt h) (q (g (s (mP r) (n (lS ?_)))));obtain rfl:=sm a;refine jI r (nu r) ?_;exact ⟨r,b⟩
  refine jD (bf h) (wk (q (g (s (mi r) (s (yh r r) ?_)))));obtain ⟨o,t,a⟩:=bs a;have hc:=H_r03_Digits (b.pr [] [] [] r)  t;refine sc (ec LJ r) hc ?_;rintro _ B ⟨rfl,c⟩;replace b:=b.cl [] [] r c r;try dsimp only [pick,nth,ca,na] at b
  obtain ⟨C,i,a⟩:=bs a;refine s (lV r r i) (s (mP r) (n (lS ?_)));obtain rfl:=sm a;refine jI r (nu r) ?_;exact ⟨r,b⟩
 refine jD (bf f) (wk (q (q (g (s (mi r) (s (sj r r) (n ?_)))))));rcases iv a with ⟨j,a⟩|⟨j,a⟩
 ·refine jK (bt j) (q (g (s (mi r) (s (kN r r) (s (aef ⟨_,NG⟩ u5_ r) (l5 (jM b [[.int .u8 (w8 (wr (48+e)))]] ([⟨w8 (wr (48+e))⟩]:List G5) (SS r) r r (by decide) ⟨r,y⟩) ?_))))));rintro _ D ⟨E,rfl,b⟩;refine s (adW R8 u5_ vg r (b.vw 0 0 r r)) (s (mP r) (n (lS ?_)));obtain rfl:=sm a;refine jI r (nu r) ?_;exact ⟨r,b.ad [] []⟩
 refine jD (bf j) (wk (q (g (s (mi r) (s (acA r r (by decide)) ?_)))));obtain ⟨p,u,a⟩:=bs a;have hc:=H_r03_Digits (b.pr [] [] [] r)  u;refine sc (ec LJ r) hc ?_;rintro _ w8 ⟨rfl,c⟩;replace b:=b.cl [] [] r c r;try dsimp only [pick,nth,ca,na] at b
 refine s (mi r) (s (Ym r r (by decide)) ?_);obtain ⟨k,l,a⟩:=bs a;have hc:=H_r03_Digits (b.pr [] [] [] r)  l;refine sc (ec LJ r) hc ?_;rintro _ v ⟨rfl,c⟩;replace b:=b.cl [] [] r c r;try dsimp only [pick,nth,ca,na] at b
 obtain ⟨w,d,a⟩:=bs a;refine s (lV r r d) (s (mP r) (n (lS ?_)));obtain rfl:=sm a;refine jI r (nu r) ?_;exact ⟨r,b⟩
theorem JQ (fu:Nat):zy (rR fu):=by
 induction fu with
 | zero=>exact by intro a b;intros;(try intro _);intros;exact nn (by assumption)
 | succ fu ih=>exact KJ fu (rR fu) ih
theorem Cq (fu:Nat):zy (rR fu):=(JQ fu)
end
end Go.Proofs.YtdkneekpdecjbaaGreat
