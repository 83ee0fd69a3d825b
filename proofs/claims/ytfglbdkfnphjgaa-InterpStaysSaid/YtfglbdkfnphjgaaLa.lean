/- Contracts, printed by gen3.py. -/
import Derived.Test.YtfglbdkfnphjgaaZ5
import Derived.Test.YtfglbdkfnphjgaaLt
set_option linter.unusedVariables false
set_option maxHeartbeats 12800000
set_option linter.unusedSimpArgs false
set_option maxRecDepth 4000
namespace Go.Proofs.Ytfglbdkfnphjgaa
open Go.RowKit Go.Fw
noncomputable section
def Ms (m:Int→Int→Option (Int)):Prop:=∀ {a:World} {e:Nat→Prop} {b:Int} {c:Int}  {d:Int},Pre a e [] []→m b c=some d→
 Calls Try.prog 16 #[V b,V c] a (qW fun v w=>v=V d∧Bx a w e (lT []) [] [])
def zi (fu:Nat)(b:Int)(a:Int):Option (Int):=
 if a=0 then
  none
 else
  if (b.tmod a) < 0 then
   some (wr ((b.tmod a)+a))
  else
   some (b.tmod a)
theorem F5 (fu:Nat):Ms (zi fu):=by
 intro i l e f j d a
 unfold zi at a
 have b:=d.bx
 clear d
 generalize k:lT _=G at b ⊢
 refine cf Try.func16 r ?_
 refine lK [(0,V e),(1,V f)] ⟨r,r,y⟩ fun m=>?_
 refine q (g (s (xi r) (n (q (g (s (mi r) (s (mi r) ?_)))))))
 rcases iv a with ⟨_,a⟩|⟨h,a⟩
 · exact nn a
 refine s (Pm r r h) (s (xi r) (n (q (q (g (s (mi r) (s (qo r r) (n ?_))))))))
 rcases iv a with ⟨c,a⟩|⟨c,a⟩
 ·refine jN (bt c) (g (s (mi r) (s (mi r) (s (kE r r) (s (xi r) (n (q (g (s (mi r) (s (xi r) (n (kT ?_))))))))))))
  obtain rfl:=sm a
  refine jI r (lq r) ?_
  exact ⟨r,b⟩
 refine jK (bf c) (wk (q (g (s (mi r) (s (xi r) (n (kT ?_)))))))
 obtain rfl:=sm a
 refine jI r (lq r) ?_
 exact ⟨r,b⟩
def KQ (m:jM→Int→Option (Int × jM)):Prop:=∀ {f:World} {j:Nat→Prop} {e:jM} {h:Int} {c:Nat} {a:Option Addr} {b:Nat} {R:Int × jM},Pre f j [.box c 132 #[Z a e.l b,V e.a]] [.l a b e.l]→m e h=some R→
 Calls Try.prog 57 #[Pt c,V h] f (qW fun v w=>jy R fun i d=>v=V i∧Bx f w j (lT [.box c 132 #[Z a e.l b,V e.a]]) [.box c 132 #[Z a d.l b,V d.a]] [.l a b d.l])
def kF (fu:Nat)(a:jM) (c:Int):Option (Int × jM):=
 if (a.l.length:Int)≤a.a then
  some (0,a)
 else
  (ix a.l (wr ((wr (a.a+1)) - 1))).bind fun d=>
  (zi fu d c).bind fun b=>
  some (b,(⟨a.l,(wr (a.a+1))⟩:jM))
theorem jW (fu:Nat):KQ (kF fu):=by
 intro A F j v m c d R t e
 unfold kF at e
 have b:=t.bx
 clear t
 generalize B:lT _=G at b ⊢
 refine cf Try.func57 r ?_
 refine lK [(0,Pt m),(1,V v)] ⟨r,r,y⟩ fun H=>?_
 refine q (g (s (xi r) (n (q (q (pX b [0] [] [] (by kernel_rfl) ?_))))))
 replace b:=b.drew
 have a:=(b.dp [])
 refine pF 0 r (mp r) a (pF 1 r (xn r) a (pF 2 r (EK r) a (uF 3 r (fun hS=>l3 r (hS.bk 0 r) r) a (pF 4 r (mp r) a (pF 5 r (xn r) a (pF 6 r (MQ r) a (uF 7 r (fun hS=>OP r (hS.bk 0 r) r) a (pF 8 r (lX ug r) a (pF 9 r (Bq r r) a (hD ?_))))))))))
 rcases iv e with ⟨o,e⟩|⟨o,e⟩
 ·refine jN (bt o) (q (g (s (xi r) (n (kT ?_)))))
  obtain rfl:=sm e
  refine jI r (lq r) ?_
  exact mM (⟨r,b⟩)
 refine jK (bf o) (wk (q (g (s (mp r) (s (xn r) (s (EK r) (s (l3 r (b.bk 0 r) r) (s (kE r r) (s (xn r) (s (EK r) (lg (tb b 0 [V (wr (j.a+1))] r nO r r r r r (show _=#[Z c j.l d,V (wr (j.a+1))] from r)) ?_)))))))))))
 intro C b
 try dsimp only [List.set] at b
 refine n (q (pX b [0] [0] [] (by kernel_rfl) ?_))
 replace b:=b.drew
 have a:=b
 refine pF 0 r (mp r) a (pF 1 r (xn r) a (pF 2 r (MQ r) a (uF 3 r (fun hS=>OP r (hS.bk 0 r) r) a (pF 4 r (mp r) a (pF 5 r (xn r) a (pF 6 r (EK r) a (uF 7 r (fun hS=>l3 r (hS.bk 0 r) r) a (pF 8 r (vW r r) a ?_))))))))
 obtain ⟨w,f,e⟩:=bs e
 obtain ⟨D,p,f⟩:=kJ f
 refine pF 9 r (kW ug nO r r p (b.dl 0 r) f) a (tU 10 r (fun _ hS=>jT EC r r ((uy (ds:=[V w]) (hS.dl 0 r) f (fun _ h=>h)) 0 _ r)) (sF a) (pF 11 r (mi r) a ?_))
 obtain ⟨u,x,e⟩:=bs e
 have hc:=(F5 fu) (b.pr [] [0] [] r)  x
 refine hO 12 (oc r r (ec TV r) hc ?_)
 rintro _ E ⟨rfl,z⟩
 replace b:=b.cl [] [0] r z r
 try dsimp only [pick,nth,ca,na] at b
 have a:=b
 refine ⟨(sF a),?_⟩
 refine pF 13 r (xi r) a (hD (kT ?_))
 obtain rfl:=sm e
 refine jI r (lq r) ?_
 exact mM (⟨r,b⟩)
def KS (m:jM→Option (Bool)):Prop:=∀ {e:World} {h:Nat→Prop} {c:jM} {d:Nat} {a:Option Addr} {b:Nat} {f:Bool},Pre e h [.box d 132 #[Z a c.l b,V c.a]] [.l a b c.l]→m c=some f→
 Calls Try.prog 81 #[Pt d] e (qW fun v w=>v=.bool f∧Bx e w h (lT [.box d 132 #[Z a c.l b,V c.a]]) [.box d 132 #[Z a c.l b,V c.a]] [.l a b c.l])
def AR (fu:Nat)(a:jM):Option (Bool):=
 some (decide (a.a < (a.l.length:Int)))
theorem KM (fu:Nat):KS (AR fu):=by
 intro m t f e b c o h j
 unfold AR at j
 have d:=h.bx
 clear h
 generalize p:lT _=G at d ⊢
 refine cf Try.func81 r ?_
 refine lK [(0,Pt e)] ⟨r,y⟩ fun u=>?_
 refine q (g (s (kC r) (n (q (pX d [0] [] [] (by kernel_rfl) ?_)))))
 replace d:=d.drew
 have a:=(d.dp [])
 refine pF 0 r (mp r) a (pF 1 r (xn r) a (pF 2 r (EK r) a (uF 3 r (fun hS=>l3 r (hS.bk 0 r) r) a (pF 4 r (mp r) a (pF 5 r (xn r) a (pF 6 r (MQ r) a (uF 7 r (fun hS=>OP r (hS.bk 0 r) r) a (pF 8 r (lX ug r) a (pF 9 r (qo r r) a (pF 10 r (kC r) a (hD (kT ?_))))))))))))
 obtain rfl:=sm j
 refine jI r (lq r) ?_
 exact ⟨r,d⟩
def Hf (m:jM→Option (Int × jM)):Prop:=∀ {f:World} {i:Nat→Prop} {e:jM} {c:Nat} {a:Option Addr} {b:Nat} {R:Int × jM},Pre f i [.box c 132 #[Z a e.l b,V e.a]] [.l a b e.l]→m e=some R→
 Calls Try.prog 109 #[Pt c] f (qW fun v w=>jy R fun h d=>v=V h∧Bx f w i (lT [.box c 132 #[Z a e.l b,V e.a]]) [.box c 132 #[Z a d.l b,V d.a]] [.l a b d.l])
def xq (fu:Nat)(c:jM):Option (Int × jM):=
 (kF fu c ((([0,1,2,3,5,7,4,10,100,1048576,2147483648,1099511627776,999999999999999999,6,8,9]:List Int).length:Nat):Int)).bind fun e=>
 jy e fun a b=>
 (ix ([0,1,2,3,5,7,4,10,100,1048576,2147483648,1099511627776,999999999999999999,6,8,9]:List Int) a).bind fun d=>
 some (d,b)
theorem Hl (fu:Nat):Hf (xq fu):=by
 intro v C j f d e R k c
 unfold xq at c
 have a:=k.bx
 clear k
 generalize w:lT _=G at a ⊢
 refine cf Try.func109 r ?_
 refine lK [(0,Pt f)] ⟨r,y⟩ fun D=>?_
 refine q (g (s (xi r) (n (q (g (nU (jP a [[V 0],[V 1],[V 2],[V 3],[V 5],[V 7],[V 4],[V 10],[V 100],[V 1048576],[V 2147483648],[V 1099511627776],[V 999999999999999999],[V 6],[V 8],[V 9]] ([0,1,2,3,5,7,4,10,100,1048576,2147483648,1099511627776,999999999999999999,6,8,9]:List Int) (NY r r r r r r r r r r r r r r r r) r r (by decide) ⟨r,⟨r,⟨r,⟨r,⟨r,⟨r,⟨r,⟨r,⟨r,⟨r,⟨r,⟨r,⟨r,⟨r,⟨r,⟨r,y⟩⟩⟩⟩⟩⟩⟩⟩⟩⟩⟩⟩⟩⟩⟩⟩) ?_))))))
 rintro _ x ⟨z,rfl,a⟩
 refine s (nk r) (n (q (g (s (nC r) (s (mp r) (s (nC r) (s (lX ug r) ?_)))))))
 obtain ⟨⟨m,o⟩,p,c⟩:=bs c
 replace c:=pi c
 have hc:=(jW fu) (a.pr [1] [0] [1] r)  p
 refine sc (ec nW r) hc ?_
 rintro _ A ⟨rfl,t⟩
 replace a:=a.cl [1] [0] r t r
 try dsimp only [pick,nth,ca,na] at a
 obtain ⟨u,b,c⟩:=bs c
 obtain ⟨B,i,b⟩:=kJ b
 refine s (kW ug nO r r i (a.vw 1 1 r r) b) (s (jT EC r r ((uy (ds:=[V u]) (a.vw 1 1 r r) b (fun _ h=>h)) 0 _ r)) (s (xi r) (n (kT ?_))))
 obtain rfl:=sm c
 refine jI r (lq r) ?_
 exact mM (⟨r,(a.ad [0] [0])⟩)
def Ho (m:Int→Option (Bool)):Prop:=∀ {a:World} {d:Nat→Prop} {b:Int}  {c:Bool},Pre a d [] []→m b=some c→
 Calls Try.prog 89 #[.int .u8 b] a (qW fun v w=>v=.bool c∧Bx a w d (lT []) [] [])
def rJ (fu:Nat)(a:Int):Option (Bool):=
 if 97≤a then
  if a≤122 then
   some true
  else
   if 65≤a then
    if a≤90 then
     some true
    else
     some (decide (a=95))
   else
    some (decide (a=95))
 else
  if 65≤a then
   if a≤90 then
    some true
   else
    some (decide (a=95))
  else
   some (decide (a=95))
theorem Ad (fu:Nat):Ho (rJ fu):=by
 intro l p k m j a
 unfold rJ at a
 have b:=j.bx
 clear j
 generalize o:lT _=G at b ⊢
 refine cf Try.func89 r ?_
 refine lK [(0,.int .u8 k)] ⟨r,y⟩ fun t=>?_
 refine q (g (s (kC r) (n (q (g (s (mi r) (s (Bq r r) (s (kL r) ?_))))))))
 rcases iv a with ⟨c,a⟩|⟨c,a⟩
 ·rw [decide_eq_true c]
  refine kg r (s (mi r) (kg r (s (M6 r r) (s (kr r r) (s (kL r) ?_)))))
  rcases iv a with ⟨d,a⟩|⟨d,a⟩
  ·rw [decide_eq_true d]
   refine jC r (jC r (jC r (jC r (jC r (jC r (s (kr r r) (s (kL r) (jC r (jC r (s (kr r r) (s (kC r) (n (kT ?_)))))))))))))
   obtain rfl:=sm a
   refine jI r (lq r) ?_
   exact ⟨r,b⟩
  rw [decide_eq_false d]
  refine kg r (s (mi r) (kg r (s (Bq r r) (kg r (s (kL r) ?_)))))
  rcases iv a with ⟨e,a⟩|⟨e,a⟩
  ·rw [decide_eq_true e]
   refine kg r (s (mi r) (kg r (s (M6 r r) (kg r (s (kr r r) (s (jY r r) (s (kL r) ?_)))))))
   rcases iv a with ⟨f,a⟩|⟨f,a⟩
   ·rw [decide_eq_true f]
    refine jC r (jC r (s (kr r r) (s (kC r) (n (kT ?_)))))
    obtain rfl:=sm a
    refine jI r (lq r) ?_
    exact ⟨r,b⟩
   rw [decide_eq_false f]
   refine kg r (s (mi r) (kg r (s (kD r r) (s (jY r r) (s (kC r) (n (kT ?_)))))))
   obtain rfl:=sm a
   refine jI r (lq r) ?_
   exact ⟨r,b⟩
  rw [decide_eq_false e]
  refine jC r (jC r (kg r (s (jY r r) (s (jY r r) (s (kL r) (kg r (s (mi r) (kg r (s (kD r r) (s (jY r r) (s (kC r) (n (kT ?_)))))))))))))
  obtain rfl:=sm a
  refine jI r (lq r) ?_
  exact ⟨r,b⟩
 rw [decide_eq_false c]
 refine jC r (jC r (s (jY r r) (s (kL r) (kg r (s (mi r) (kg r (s (Bq r r) (kg r (s (kL r) ?_)))))))))
 rcases iv a with ⟨h,a⟩|⟨h,a⟩
 ·rw [decide_eq_true h]
  refine kg r (s (mi r) (kg r (s (M6 r r) (kg r (s (kr r r) (s (jY r r) (s (kL r) ?_)))))))
  rcases iv a with ⟨i,a⟩|⟨i,a⟩
  ·rw [decide_eq_true i]
   refine jC r (jC r (s (kr r r) (s (kC r) (n (kT ?_)))))
   obtain rfl:=sm a
   refine jI r (lq r) ?_
   exact ⟨r,b⟩
  rw [decide_eq_false i]
  refine kg r (s (mi r) (kg r (s (kD r r) (s (jY r r) (s (kC r) (n (kT ?_)))))))
  obtain rfl:=sm a
  refine jI r (lq r) ?_
  exact ⟨r,b⟩
 rw [decide_eq_false h]
 refine jC r (jC r (kg r (s (jY r r) (s (jY r r) (s (kL r) (kg r (s (mi r) (kg r (s (kD r r) (s (jY r r) (s (kC r) (n (kT ?_)))))))))))))
 obtain rfl:=sm a
 refine jI r (lq r) ?_
 exact ⟨r,b⟩
def Jp (m:Int→Option (Bool)):Prop:=∀ {a:World} {d:Nat→Prop} {b:Int}  {c:Bool},Pre a d [] []→m b=some c→
 Calls Try.prog 90 #[.int .u8 b] a (qW fun v w=>v=.bool c∧Bx a w d (lT []) [] [])
def uI (fu:Nat)(a:Int):Option (Bool):=
 if 48≤a then
  some (decide (a≤57))
 else
  some false
theorem Au (fu:Nat):Jp (uI fu):=by
 intro f j e h d a
 unfold uI at a
 have b:=d.bx
 clear d
 generalize i:lT _=G at b ⊢
 refine cf Try.func90 r ?_
 refine lK [(0,.int .u8 e)] ⟨r,y⟩ fun k=>?_
 refine q (g (s (kC r) (n (q (g (s (mi r) (s (Bq r r) (s (kL r) ?_))))))))
 rcases iv a with ⟨c,a⟩|⟨c,a⟩
 ·rw [decide_eq_true c]
  refine kg r (s (mi r) (kg r (s (M6 r r) (s (kr r r) (s (kC r) (n (kT ?_)))))))
  obtain rfl:=sm a
  refine jI r (lq r) ?_
  exact ⟨r,b⟩
 rw [decide_eq_false c]
 refine jC r (jC r (s (jY r r) (s (kC r) (n (kT ?_)))))
 obtain rfl:=sm a
 refine jI r (lq r) ?_
 exact ⟨r,b⟩
def Et (m:BA→Option (Bool)):Prop:=∀ {a:World} {d:Nat→Prop} {b:BA}  {c:Bool},Pre a d [] []→m b=some c→
 Calls Try.prog 91 #[T b] a (qW fun v w=>v=.bool c∧Bx a w d (lT []) [] [])
def ou (fu:Nat)(a:BA):List BA→Nat→Option (Ld (Unit) (Bool))
 | [],_=>some (.go ())
 | b :: c,d=>
 if b=a then
  some (.out true)
 else
  ou fu a c (d+1)
def uj (fu:Nat)(a:BA):Option (Bool):=
 (ou fu a ([(⟨#[114,101,99,111,114,100]⟩:BA),(⟨#[102,117,110,99]⟩:BA),(⟨#[118,97,114]⟩:BA),(⟨#[105,110,116]⟩:BA),(⟨#[105,102]⟩:BA),(⟨#[101,108,115,101]⟩:BA),(⟨#[119,104,105,108,101]⟩:BA),(⟨#[114,101,116,117,114,110]⟩:BA),(⟨#[116,104,114,111,119]⟩:BA),(⟨#[116,114,121]⟩:BA),(⟨#[99,97,116,99,104]⟩:BA),(⟨#[112,114,105,110,116]⟩:BA)]:List BA) 0).bind fun b=>b.el (fun _=>
 some false
 ) (fun o=>some o)
theorem Eo (fu:Nat):Et (uj fu):=by
 intro j I k C v d
 unfold uj at d
 have b:=v.bx
 clear v
 generalize D:lT _=G at b ⊢
 refine cf Try.func91 r ?_
 refine lK [(0,T k)] ⟨r,y⟩ fun J=>?_
 refine q (g (s (kC r) (n (q (q (g (nU (jP b [[T (⟨#[114,101,99,111,114,100]⟩:BA)],[T (⟨#[102,117,110,99]⟩:BA)],[T (⟨#[118,97,114]⟩:BA)],[T (⟨#[105,110,116]⟩:BA)],[T (⟨#[105,102]⟩:BA)],[T (⟨#[101,108,115,101]⟩:BA)],[T (⟨#[119,104,105,108,101]⟩:BA)],[T (⟨#[114,101,116,117,114,110]⟩:BA)],[T (⟨#[116,104,114,111,119]⟩:BA)],[T (⟨#[116,114,121]⟩:BA)],[T (⟨#[99,97,116,99,104]⟩:BA)],[T (⟨#[112,114,105,110,116]⟩:BA)]] ([(⟨#[114,101,99,111,114,100]⟩:BA),(⟨#[102,117,110,99]⟩:BA),(⟨#[118,97,114]⟩:BA),(⟨#[105,110,116]⟩:BA),(⟨#[105,102]⟩:BA),(⟨#[101,108,115,101]⟩:BA),(⟨#[119,104,105,108,101]⟩:BA),(⟨#[114,101,116,117,114,110]⟩:BA),(⟨#[116,104,114,111,119]⟩:BA),(⟨#[116,114,121]⟩:BA),(⟨#[99,97,116,99,104]⟩:BA),(⟨#[112,114,105,110,116]⟩:BA)]:List BA) (DJ r r r r r r r r r r r r) r r (by decide) ⟨r,⟨r,⟨r,⟨r,⟨r,⟨r,⟨r,⟨r,⟨r,⟨r,⟨r,⟨r,y⟩⟩⟩⟩⟩⟩⟩⟩⟩⟩⟩⟩) ?_)))))))
 rintro _ E ⟨m,rfl,b⟩
 refine s (lX kQ r) (s (mi r) (n ?_))
 have z:=(b.vw 0 0 r r).bd
 obtain ⟨x,a,d⟩:=bs d
 refine oq (fun f w=>Has f []∧Bx j w I G [O j.heap.size (ad m) 12 9 BA [[T (⟨#[114,101,99,111,114,100]⟩:BA)],[T (⟨#[102,117,110,99]⟩:BA)],[T (⟨#[118,97,114]⟩:BA)],[T (⟨#[105,110,116]⟩:BA)],[T (⟨#[105,102]⟩:BA)],[T (⟨#[101,108,115,101]⟩:BA)],[T (⟨#[119,104,105,108,101]⟩:BA)],[T (⟨#[114,101,116,117,114,110]⟩:BA)],[T (⟨#[116,104,114,111,119]⟩:BA)],[T (⟨#[116,114,121]⟩:BA)],[T (⟨#[99,97,116,99,104]⟩:BA)],[T (⟨#[112,114,105,110,116]⟩:BA)]]] [.els [[T (⟨#[114,101,99,111,114,100]⟩:BA)],[T (⟨#[102,117,110,99]⟩:BA)],[T (⟨#[118,97,114]⟩:BA)],[T (⟨#[105,110,116]⟩:BA)],[T (⟨#[105,102]⟩:BA)],[T (⟨#[101,108,115,101]⟩:BA)],[T (⟨#[119,104,105,108,101]⟩:BA)],[T (⟨#[114,101,116,117,114,110]⟩:BA)],[T (⟨#[116,104,114,111,119]⟩:BA)],[T (⟨#[116,114,121]⟩:BA)],[T (⟨#[99,97,116,99,104]⟩:BA)],[T (⟨#[112,114,105,110,116]⟩:BA)]] ([(⟨#[114,101,99,111,114,100]⟩:BA),(⟨#[102,117,110,99]⟩:BA),(⟨#[118,97,114]⟩:BA),(⟨#[105,110,116]⟩:BA),(⟨#[105,102]⟩:BA),(⟨#[101,108,115,101]⟩:BA),(⟨#[119,104,105,108,101]⟩:BA),(⟨#[114,101,116,117,114,110]⟩:BA),(⟨#[116,104,114,111,119]⟩:BA),(⟨#[116,114,121]⟩:BA),(⟨#[99,97,116,99,104]⟩:BA),(⟨#[112,114,105,110,116]⟩:BA)]:List BA)]∧Ld.go ()=x) (fun F o=>?_) ?_
 ·refine oM (kM (fun K f w=>∃ (c:Nat),K=([(⟨#[114,101,99,111,114,100]⟩:BA),(⟨#[102,117,110,99]⟩:BA),(⟨#[118,97,114]⟩:BA),(⟨#[105,110,116]⟩:BA),(⟨#[105,102]⟩:BA),(⟨#[101,108,115,101]⟩:BA),(⟨#[119,104,105,108,101]⟩:BA),(⟨#[114,101,116,117,114,110]⟩:BA),(⟨#[116,104,114,111,119]⟩:BA),(⟨#[116,114,121]⟩:BA),(⟨#[99,97,116,99,104]⟩:BA),(⟨#[112,114,105,110,116]⟩:BA)]:List BA).length - c∧c≤([(⟨#[114,101,99,111,114,100]⟩:BA),(⟨#[102,117,110,99]⟩:BA),(⟨#[118,97,114]⟩:BA),(⟨#[105,110,116]⟩:BA),(⟨#[105,102]⟩:BA),(⟨#[101,108,115,101]⟩:BA),(⟨#[119,104,105,108,101]⟩:BA),(⟨#[114,101,116,117,114,110]⟩:BA),(⟨#[116,104,114,111,119]⟩:BA),(⟨#[116,114,121]⟩:BA),(⟨#[99,97,116,99,104]⟩:BA),(⟨#[112,114,105,110,116]⟩:BA)]:List BA).length∧Has f [(7,V (c:Int)),(0,T k),(5,.slice (ad m) ([(⟨#[114,101,99,111,114,100]⟩:BA),(⟨#[102,117,110,99]⟩:BA),(⟨#[118,97,114]⟩:BA),(⟨#[105,110,116]⟩:BA),(⟨#[105,102]⟩:BA),(⟨#[101,108,115,101]⟩:BA),(⟨#[119,104,105,108,101]⟩:BA),(⟨#[114,101,116,117,114,110]⟩:BA),(⟨#[116,104,114,111,119]⟩:BA),(⟨#[116,114,121]⟩:BA),(⟨#[99,97,116,99,104]⟩:BA),(⟨#[112,114,105,110,116]⟩:BA)]:List BA).length 12),(6,V ((([(⟨#[114,101,99,111,114,100]⟩:BA),(⟨#[102,117,110,99]⟩:BA),(⟨#[118,97,114]⟩:BA),(⟨#[105,110,116]⟩:BA),(⟨#[105,102]⟩:BA),(⟨#[101,108,115,101]⟩:BA),(⟨#[119,104,105,108,101]⟩:BA),(⟨#[114,101,116,117,114,110]⟩:BA),(⟨#[116,104,114,111,119]⟩:BA),(⟨#[116,114,121]⟩:BA),(⟨#[99,97,116,99,104]⟩:BA),(⟨#[112,114,105,110,116]⟩:BA)]:List BA).length:Nat):Int))]∧Bx j w I G [O j.heap.size (ad m) 12 9 BA [[T (⟨#[114,101,99,111,114,100]⟩:BA)],[T (⟨#[102,117,110,99]⟩:BA)],[T (⟨#[118,97,114]⟩:BA)],[T (⟨#[105,110,116]⟩:BA)],[T (⟨#[105,102]⟩:BA)],[T (⟨#[101,108,115,101]⟩:BA)],[T (⟨#[119,104,105,108,101]⟩:BA)],[T (⟨#[114,101,116,117,114,110]⟩:BA)],[T (⟨#[116,104,114,111,119]⟩:BA)],[T (⟨#[116,114,121]⟩:BA)],[T (⟨#[99,97,116,99,104]⟩:BA)],[T (⟨#[112,114,105,110,116]⟩:BA)]]] [.els [[T (⟨#[114,101,99,111,114,100]⟩:BA)],[T (⟨#[102,117,110,99]⟩:BA)],[T (⟨#[118,97,114]⟩:BA)],[T (⟨#[105,110,116]⟩:BA)],[T (⟨#[105,102]⟩:BA)],[T (⟨#[101,108,115,101]⟩:BA)],[T (⟨#[119,104,105,108,101]⟩:BA)],[T (⟨#[114,101,116,117,114,110]⟩:BA)],[T (⟨#[116,104,114,111,119]⟩:BA)],[T (⟨#[116,114,121]⟩:BA)],[T (⟨#[99,97,116,99,104]⟩:BA)],[T (⟨#[112,114,105,110,116]⟩:BA)]] ([(⟨#[114,101,99,111,114,100]⟩:BA),(⟨#[102,117,110,99]⟩:BA),(⟨#[118,97,114]⟩:BA),(⟨#[105,110,116]⟩:BA),(⟨#[105,102]⟩:BA),(⟨#[101,108,115,101]⟩:BA),(⟨#[119,104,105,108,101]⟩:BA),(⟨#[114,101,116,117,114,110]⟩:BA),(⟨#[116,104,114,111,119]⟩:BA),(⟨#[116,114,121]⟩:BA),(⟨#[99,97,116,99,104]⟩:BA),(⟨#[112,114,105,110,116]⟩:BA)]:List BA)]∧ou fu k (([(⟨#[114,101,99,111,114,100]⟩:BA),(⟨#[102,117,110,99]⟩:BA),(⟨#[118,97,114]⟩:BA),(⟨#[105,110,116]⟩:BA),(⟨#[105,102]⟩:BA),(⟨#[101,108,115,101]⟩:BA),(⟨#[119,104,105,108,101]⟩:BA),(⟨#[114,101,116,117,114,110]⟩:BA),(⟨#[116,104,114,111,119]⟩:BA),(⟨#[116,114,121]⟩:BA),(⟨#[99,97,116,99,104]⟩:BA),(⟨#[112,114,105,110,116]⟩:BA)]:List BA).drop c) c=some x) (([(⟨#[114,101,99,111,114,100]⟩:BA),(⟨#[102,117,110,99]⟩:BA),(⟨#[118,97,114]⟩:BA),(⟨#[105,110,116]⟩:BA),(⟨#[105,102]⟩:BA),(⟨#[101,108,115,101]⟩:BA),(⟨#[119,104,105,108,101]⟩:BA),(⟨#[114,101,116,117,114,110]⟩:BA),(⟨#[116,104,114,111,119]⟩:BA),(⟨#[116,114,121]⟩:BA),(⟨#[99,97,116,99,104]⟩:BA),(⟨#[112,114,105,110,116]⟩:BA)]:List BA).length) ⟨0,r,Nat.zero_le _,⟨r,r,r,r,y⟩,b,a⟩ ?_)
  clear b a
  rintro K f w ⟨c,rfl,A,hf,b,a⟩ H p
  obtain ⟨J,rfl⟩:=iA _ _ hf
  clear hf
  rcases Nat.lt_or_ge c ([(⟨#[114,101,99,111,114,100]⟩:BA),(⟨#[102,117,110,99]⟩:BA),(⟨#[118,97,114]⟩:BA),(⟨#[105,110,116]⟩:BA),(⟨#[105,102]⟩:BA),(⟨#[101,108,115,101]⟩:BA),(⟨#[119,104,105,108,101]⟩:BA),(⟨#[114,101,116,117,114,110]⟩:BA),(⟨#[116,104,114,111,119]⟩:BA),(⟨#[116,114,121]⟩:BA),(⟨#[99,97,116,99,104]⟩:BA),(⟨#[112,114,105,110,116]⟩:BA)]:List BA).length with i | i
  ·obtain ⟨B,e⟩:=mh (l:=([(⟨#[114,101,99,111,114,100]⟩:BA),(⟨#[102,117,110,99]⟩:BA),(⟨#[118,97,114]⟩:BA),(⟨#[105,110,116]⟩:BA),(⟨#[105,102]⟩:BA),(⟨#[101,108,115,101]⟩:BA),(⟨#[119,104,105,108,101]⟩:BA),(⟨#[114,101,116,117,114,110]⟩:BA),(⟨#[116,104,114,111,119]⟩:BA),(⟨#[116,114,121]⟩:BA),(⟨#[99,97,116,99,104]⟩:BA),(⟨#[112,114,105,110,116]⟩:BA)]:List BA)) i
   rw [mP e,ou] at a
   refine q (g (s (sS r r (by omega)) (n (q (jN r (wk (q (oM (q (g (s (kW kQ oQ r r r (b.vw 0 0 r r) e) (s (jT uq r r ((uy (ds:=[T B]) (b.vw 0 0 r r) e (fun _ h=>h)) 0 _ r)) (s (mF r) ?_)))))))))))))
   refine n (q (g (s (kY r) (s (kY r) (s (rR r r) (n ?_))))))
   rcases iv a with ⟨t,a⟩|⟨t,a⟩
   ·refine jN (bt t) (q (g (s (kC r) (n (kT ?_)))))
    obtain rfl:=sm a
    replace d:=oi d
    obtain rfl:=sm d
    refine jI r (lq r) ?_
    exact ⟨r,(b.ad [] [])⟩
   refine jK (bf t) (wk (g (s (mR r r (by omega) (by omega)) (s (mi r) (n ?_)))))
   exact p (([(⟨#[114,101,99,111,114,100]⟩:BA),(⟨#[102,117,110,99]⟩:BA),(⟨#[118,97,114]⟩:BA),(⟨#[105,110,116]⟩:BA),(⟨#[105,102]⟩:BA),(⟨#[101,108,115,101]⟩:BA),(⟨#[119,104,105,108,101]⟩:BA),(⟨#[114,101,116,117,114,110]⟩:BA),(⟨#[116,104,114,111,119]⟩:BA),(⟨#[116,114,121]⟩:BA),(⟨#[99,97,116,99,104]⟩:BA),(⟨#[112,114,105,110,116]⟩:BA)]:List BA).length - (c+1)) _ _ (by omega) ⟨c+1,r,by omega,⟨r,r,r,r,y⟩,b,a⟩
  obtain rfl:c=([(⟨#[114,101,99,111,114,100]⟩:BA),(⟨#[102,117,110,99]⟩:BA),(⟨#[118,97,114]⟩:BA),(⟨#[105,110,116]⟩:BA),(⟨#[105,102]⟩:BA),(⟨#[101,108,115,101]⟩:BA),(⟨#[119,104,105,108,101]⟩:BA),(⟨#[114,101,116,117,114,110]⟩:BA),(⟨#[116,104,114,111,119]⟩:BA),(⟨#[116,114,121]⟩:BA),(⟨#[99,97,116,99,104]⟩:BA),(⟨#[112,114,105,110,116]⟩:BA)]:List BA).length:=by omega
  rw [lV,ou] at a
  refine q (g (s (sU r r (by omega)) (n (q (jK r (tT ?_))))))
  exact o _ _ ⟨y,b,sm a⟩
 clear b
 rintro f w ⟨hf,b,u⟩
 obtain ⟨J,rfl⟩:=iA _ _ hf
 clear hf
 subst u
 replace d:=gi d
 refine q (g (s (kC r) (n (kT ?_))))
 obtain rfl:=sm d
 refine jI r (lq r) ?_
 exact ⟨r,(b.ad [] [])⟩
def JZ (m:BA→Int→Option (BA)):Prop:=∀ {a:World} {e:Nat→Prop} {b:BA} {c:Int}  {d:BA},Pre a e [] []→m b c=some d→
 Calls Try.prog 92 #[T b,V c] a (qW fun v w=>v=T d∧Bx a w e (lT []) [] [])
def rP (fu:Nat)(b:BA) (a:Int):List BA→Nat→Option (Ld (Unit) (BA))
 | [],_=>some (.go ())
 | c :: d,e=>
 (QL b a (wr (a+2))).bind fun f=>
 if f=c then
  some (.out c)
 else
  rP fu b a d (e+1)
def xU (fu:Nat)(a:BA) (b:Int):Option (Ld (Unit) (BA)):=
 if (wr (b+1)) < (a.size:Int) then
  (rP fu a b ([(⟨#[60,61]⟩:BA),(⟨#[61,61]⟩:BA),(⟨#[33,61]⟩:BA)]:List BA) 0).bind fun c=>c.el (fun _=>
  some (.go ())
  ) (fun o=>some (.out o))
 else
  some (.go ())
def rT (fu:Nat)(b:BA) (a:Int):List DF→Nat→Option (Ld (Unit) (BA))
 | [],_=>some (.go ())
 | e :: f,h=>
 (ixs b a).bind fun c=>
 if c=e.n then
  (QL b a (wr (a+1))).bind fun d=>
  some (.out d)
 else
  rT fu b a f (h+1)
def zH (fu:Nat)(a:BA) (b:Int):Option (BA):=
 (xU fu a b).bind fun c=>c.el (fun _=>
 (rT fu a b ([⟨40⟩,⟨41⟩,⟨123⟩,⟨125⟩,⟨91⟩,⟨93⟩,⟨44⟩,⟨59⟩,⟨58⟩,⟨46⟩,⟨43⟩,⟨45⟩,⟨42⟩,⟨47⟩,⟨37⟩,⟨38⟩,⟨124⟩,⟨94⟩,⟨60⟩,⟨61⟩,⟨33⟩]:List DF) 0).bind fun c=>c.el (fun _=>
 some (⟨#[]⟩:BA)
 ) (fun o=>some o)
 ) (fun o=>some o)
theorem Ls (fu:Nat):JZ (zH fu):=by
 intro k ah m o r0 R e
 unfold zH at e
 have a:=R.bx
 clear R
 generalize hG:lT _=G at a ⊢
 refine cf Try.func92 r ?_
 refine lK [(0,T m),(1,V o)] ⟨r,r,y⟩ fun ai=>?_
 refine q (g (s (mF r) (n (q ?_))))
 obtain ⟨W,c,e⟩:=bs e
 refine oq (fun f w=>Has f [(0,T m),(1,V o)]∧Bx k w ah G [] []∧Ld.go ()=W) (fun J1 v=>?_) ?_
 ·unfold xU at c
  refine q (g (s (mi r) (s (kE r r) (s (kY r) (s (BR uq r) (s (qo r r) (n ?_)))))))
  rcases iv c with ⟨C,c⟩|⟨C,c⟩
  ·refine jN (bt C) (q (g (nU (jP a [[T (⟨#[60,61]⟩:BA)],[T (⟨#[61,61]⟩:BA)],[T (⟨#[33,61]⟩:BA)]] ([(⟨#[60,61]⟩:BA),(⟨#[61,61]⟩:BA),(⟨#[33,61]⟩:BA)]:List BA) (Qu r r r) r r (by decide) ⟨r,⟨r,⟨r,y⟩⟩⟩) ?_)))
   rintro _ w3 ⟨D,rfl,a⟩
   refine s (lX kQ r) (s (mi r) (n ?_))
   have X:=(a.vw 0 0 r r).bd
   obtain ⟨S,d,c⟩:=bs c
   refine oq (fun f w=>Has f [(0,T m),(1,V o)]∧Bx k w ah G [O k.heap.size (ad D) 3 9 BA [[T (⟨#[60,61]⟩:BA)],[T (⟨#[61,61]⟩:BA)],[T (⟨#[33,61]⟩:BA)]]] [.els [[T (⟨#[60,61]⟩:BA)],[T (⟨#[61,61]⟩:BA)],[T (⟨#[33,61]⟩:BA)]] ([(⟨#[60,61]⟩:BA),(⟨#[61,61]⟩:BA),(⟨#[33,61]⟩:BA)]:List BA)]∧Ld.go ()=S) (fun J4 E=>?_) ?_
   ·refine oM (kM (fun aj f w=>∃ (i:Nat),aj=([(⟨#[60,61]⟩:BA),(⟨#[61,61]⟩:BA),(⟨#[33,61]⟩:BA)]:List BA).length - i∧i≤([(⟨#[60,61]⟩:BA),(⟨#[61,61]⟩:BA),(⟨#[33,61]⟩:BA)]:List BA).length∧Has f [(16,V (i:Int)),(0,T m),(1,V o),(14,.slice (ad D) ([(⟨#[60,61]⟩:BA),(⟨#[61,61]⟩:BA),(⟨#[33,61]⟩:BA)]:List BA).length 3),(15,V ((([(⟨#[60,61]⟩:BA),(⟨#[61,61]⟩:BA),(⟨#[33,61]⟩:BA)]:List BA).length:Nat):Int))]∧Bx k w ah G [O k.heap.size (ad D) 3 9 BA [[T (⟨#[60,61]⟩:BA)],[T (⟨#[61,61]⟩:BA)],[T (⟨#[33,61]⟩:BA)]]] [.els [[T (⟨#[60,61]⟩:BA)],[T (⟨#[61,61]⟩:BA)],[T (⟨#[33,61]⟩:BA)]] ([(⟨#[60,61]⟩:BA),(⟨#[61,61]⟩:BA),(⟨#[33,61]⟩:BA)]:List BA)]∧rP fu m o (([(⟨#[60,61]⟩:BA),(⟨#[61,61]⟩:BA),(⟨#[33,61]⟩:BA)]:List BA).drop i) i=some S) (([(⟨#[60,61]⟩:BA),(⟨#[61,61]⟩:BA),(⟨#[33,61]⟩:BA)]:List BA).length) ⟨0,r,Nat.zero_le _,⟨r,r,r,r,r,y⟩,a,d⟩ ?_)
    clear a d
    rintro aj f w ⟨i,rfl,Y,hf,a,d⟩ K4 F
    obtain ⟨ai,rfl⟩:=iA _ _ hf
    clear hf
    rcases Nat.lt_or_ge i ([(⟨#[60,61]⟩:BA),(⟨#[61,61]⟩:BA),(⟨#[33,61]⟩:BA)]:List BA).length with x | x
    ·obtain ⟨u4,p⟩:=mh (l:=([(⟨#[60,61]⟩:BA),(⟨#[61,61]⟩:BA),(⟨#[33,61]⟩:BA)]:List BA)) x
     rw [mP p,rP] at d
     refine q (g (s (sS r r (by omega)) (n (q (jN r (wk (q (oM (q (g (s (kW kQ oQ r r r (a.vw 0 0 r r) p) (s (jT uq r r ((uy (ds:=[T u4]) (a.vw 0 0 r r) p (fun _ h=>h)) 0 _ r)) (s (mF r) ?_)))))))))))))
     refine n (q (g (s (kY r) (s (mi r) (s (mi r) (s (kE r r) ?_))))))
     obtain ⟨g5,H,d⟩:=bs d
     refine s (VW uq r r r H) (s (kY r) (s (rR r r) (n ?_)))
     rcases iv d with ⟨I,d⟩|⟨I,d⟩
     ·refine jN (bt I) (q (g (s (kY r) (s (mF r) (n (kT ?_))))))
      obtain rfl:=sm d
      replace c:=oi c
      obtain rfl:=sm c
      replace e:=oi e
      obtain rfl:=sm e
      refine jI r (lq r) ?_
      exact ⟨r,(a.ad [] [])⟩
     refine jK (bf I) (wk (g (s (mR r r (by omega) (by omega)) (s (mi r) (n ?_)))))
     exact F (([(⟨#[60,61]⟩:BA),(⟨#[61,61]⟩:BA),(⟨#[33,61]⟩:BA)]:List BA).length - (i+1)) _ _ (by omega) ⟨i+1,r,by omega,⟨r,r,r,r,r,y⟩,a,d⟩
    obtain rfl:i=([(⟨#[60,61]⟩:BA),(⟨#[61,61]⟩:BA),(⟨#[33,61]⟩:BA)]:List BA).length:=by omega
    rw [lV,rP] at d
    refine q (g (s (sU r r (by omega)) (n (q (jK r (tT ?_))))))
    exact E _ _ ⟨⟨r,r,y⟩,a,sm d⟩
   clear a
   rintro f w ⟨hf,a,J⟩
   obtain ⟨ai,rfl⟩:=iA _ _ hf
   clear hf
   subst J
   replace c:=gi c
   exact v _ _ ⟨⟨r,r,y⟩,(a.ad [] []),sm c⟩
  refine jK (bf C) (wk ?_)
  exact v _ _ ⟨⟨r,r,y⟩,a,sm c⟩
 clear a
 rintro f w ⟨hf,a,K⟩
 obtain ⟨ai,rfl⟩:=iA _ _ hf
 clear hf
 subst K
 replace e:=gi e
 refine q (q (g (nU (jP a [[.int .u8 40],[.int .u8 41],[.int .u8 123],[.int .u8 125],[.int .u8 91],[.int .u8 93],[.int .u8 44],[.int .u8 59],[.int .u8 58],[.int .u8 46],[.int .u8 43],[.int .u8 45],[.int .u8 42],[.int .u8 47],[.int .u8 37],[.int .u8 38],[.int .u8 124],[.int .u8 94],[.int .u8 60],[.int .u8 61],[.int .u8 33]] ([⟨40⟩,⟨41⟩,⟨123⟩,⟨125⟩,⟨91⟩,⟨93⟩,⟨44⟩,⟨59⟩,⟨58⟩,⟨46⟩,⟨43⟩,⟨45⟩,⟨42⟩,⟨47⟩,⟨37⟩,⟨38⟩,⟨124⟩,⟨94⟩,⟨60⟩,⟨61⟩,⟨33⟩]:List DF) (MF r r r r r r r r r r r r r r r r r r r r r) r r (by decide) ⟨r,⟨r,⟨r,⟨r,⟨r,⟨r,⟨r,⟨r,⟨r,⟨r,⟨r,⟨r,⟨r,⟨r,⟨r,⟨r,⟨r,⟨r,⟨r,⟨r,⟨r,y⟩⟩⟩⟩⟩⟩⟩⟩⟩⟩⟩⟩⟩⟩⟩⟩⟩⟩⟩⟩⟩) ?_)))
 rintro _ w7 ⟨L,rfl,a⟩
 refine nU (Yj a 0 0 r r NC Yw r) ?_
 rintro _ w8 ⟨rfl,a⟩
 try dsimp only [List.eraseIdx] at a
 refine s (lX NC r) (s (mi r) (n ?_))
 have a1:=(a.dl 0 r).bd
 obtain ⟨U,b,e⟩:=bs e
 refine oq (fun f w=>Has f []∧Bx k w ah G [] [.l (ad L) 21 ([⟨40⟩,⟨41⟩,⟨123⟩,⟨125⟩,⟨91⟩,⟨93⟩,⟨44⟩,⟨59⟩,⟨58⟩,⟨46⟩,⟨43⟩,⟨45⟩,⟨42⟩,⟨47⟩,⟨37⟩,⟨38⟩,⟨124⟩,⟨94⟩,⟨60⟩,⟨61⟩,⟨33⟩]:List DF)]∧Ld.go ()=U) (fun J9 M=>?_) ?_
 ·refine oM (kM (fun aj f w=>∃ (j:Nat),aj=([⟨40⟩,⟨41⟩,⟨123⟩,⟨125⟩,⟨91⟩,⟨93⟩,⟨44⟩,⟨59⟩,⟨58⟩,⟨46⟩,⟨43⟩,⟨45⟩,⟨42⟩,⟨47⟩,⟨37⟩,⟨38⟩,⟨124⟩,⟨94⟩,⟨60⟩,⟨61⟩,⟨33⟩]:List DF).length - j∧j≤([⟨40⟩,⟨41⟩,⟨123⟩,⟨125⟩,⟨91⟩,⟨93⟩,⟨44⟩,⟨59⟩,⟨58⟩,⟨46⟩,⟨43⟩,⟨45⟩,⟨42⟩,⟨47⟩,⟨37⟩,⟨38⟩,⟨124⟩,⟨94⟩,⟨60⟩,⟨61⟩,⟨33⟩]:List DF).length∧Has f [(32,V (j:Int)),(0,T m),(1,V o),(30,.slice (ad L) ([⟨40⟩,⟨41⟩,⟨123⟩,⟨125⟩,⟨91⟩,⟨93⟩,⟨44⟩,⟨59⟩,⟨58⟩,⟨46⟩,⟨43⟩,⟨45⟩,⟨42⟩,⟨47⟩,⟨37⟩,⟨38⟩,⟨124⟩,⟨94⟩,⟨60⟩,⟨61⟩,⟨33⟩]:List DF).length 21),(31,V ((([⟨40⟩,⟨41⟩,⟨123⟩,⟨125⟩,⟨91⟩,⟨93⟩,⟨44⟩,⟨59⟩,⟨58⟩,⟨46⟩,⟨43⟩,⟨45⟩,⟨42⟩,⟨47⟩,⟨37⟩,⟨38⟩,⟨124⟩,⟨94⟩,⟨60⟩,⟨61⟩,⟨33⟩]:List DF).length:Nat):Int))]∧Bx k w ah G [] [.l (ad L) 21 ([⟨40⟩,⟨41⟩,⟨123⟩,⟨125⟩,⟨91⟩,⟨93⟩,⟨44⟩,⟨59⟩,⟨58⟩,⟨46⟩,⟨43⟩,⟨45⟩,⟨42⟩,⟨47⟩,⟨37⟩,⟨38⟩,⟨124⟩,⟨94⟩,⟨60⟩,⟨61⟩,⟨33⟩]:List DF)]∧rT fu m o (([⟨40⟩,⟨41⟩,⟨123⟩,⟨125⟩,⟨91⟩,⟨93⟩,⟨44⟩,⟨59⟩,⟨58⟩,⟨46⟩,⟨43⟩,⟨45⟩,⟨42⟩,⟨47⟩,⟨37⟩,⟨38⟩,⟨124⟩,⟨94⟩,⟨60⟩,⟨61⟩,⟨33⟩]:List DF).drop j) j=some U) (([⟨40⟩,⟨41⟩,⟨123⟩,⟨125⟩,⟨91⟩,⟨93⟩,⟨44⟩,⟨59⟩,⟨58⟩,⟨46⟩,⟨43⟩,⟨45⟩,⟨42⟩,⟨47⟩,⟨37⟩,⟨38⟩,⟨124⟩,⟨94⟩,⟨60⟩,⟨61⟩,⟨33⟩]:List DF).length) ⟨0,r,Nat.zero_le _,⟨r,r,r,r,r,y⟩,a,b⟩ ?_)
  clear a b
  rintro aj f w ⟨j,rfl,a2,hf,a,b⟩ K9 N
  obtain ⟨ai,rfl⟩:=iA _ _ hf
  clear hf
  rcases Nat.lt_or_ge j ([⟨40⟩,⟨41⟩,⟨123⟩,⟨125⟩,⟨91⟩,⟨93⟩,⟨44⟩,⟨59⟩,⟨58⟩,⟨46⟩,⟨43⟩,⟨45⟩,⟨42⟩,⟨47⟩,⟨37⟩,⟨38⟩,⟨124⟩,⟨94⟩,⟨60⟩,⟨61⟩,⟨33⟩]:List DF).length with z | z
  ·obtain ⟨u9,t⟩:=mh (l:=([⟨40⟩,⟨41⟩,⟨123⟩,⟨125⟩,⟨91⟩,⟨93⟩,⟨44⟩,⟨59⟩,⟨58⟩,⟨46⟩,⟨43⟩,⟨45⟩,⟨42⟩,⟨47⟩,⟨37⟩,⟨38⟩,⟨124⟩,⟨94⟩,⟨60⟩,⟨61⟩,⟨33⟩]:List DF)) z
   rw [mP t,rT] at b
   refine q (g (s (sS r r (by omega)) (n (q (jN r (wk (q (oM (q (g (s (kW NC ti5 r r r (a.dl 0 r) t) (s (jT Yw r r ((uy (ds:=[.int .u8 u9.n]) (a.dl 0 r) t (fun _ h=>h)) 0 _ r)) (s (xi r) ?_)))))))))))))
   refine n (q (g (s (kY r) (s (mi r) ?_))))
   obtain ⟨a4,A,b⟩:=bs b
   refine s (Gb uq r r A) (s (mi r) (s (kD r r) (n ?_)))
   rcases iv b with ⟨u,b⟩|⟨u,b⟩
   ·refine jN (bt u) (q (g (s (kY r) (s (mi r) (s (mi r) (s (kE r r) ?_))))))
    obtain ⟨a5,B,b⟩:=bs b
    refine s (VW uq r r r B) (s (mF r) (n (kT ?_)))
    obtain rfl:=sm b
    replace e:=oi e
    obtain rfl:=sm e
    refine jI r (lq r) ?_
    exact ⟨r,(a.dp [])⟩
   refine jK (bf u) (wk (g (s (mR r r (by omega) (by omega)) (s (mi r) (n ?_)))))
   exact N (([⟨40⟩,⟨41⟩,⟨123⟩,⟨125⟩,⟨91⟩,⟨93⟩,⟨44⟩,⟨59⟩,⟨58⟩,⟨46⟩,⟨43⟩,⟨45⟩,⟨42⟩,⟨47⟩,⟨37⟩,⟨38⟩,⟨124⟩,⟨94⟩,⟨60⟩,⟨61⟩,⟨33⟩]:List DF).length - (j+1)) _ _ (by omega) ⟨j+1,r,by omega,⟨r,r,r,r,r,y⟩,a,b⟩
  obtain rfl:j=([⟨40⟩,⟨41⟩,⟨123⟩,⟨125⟩,⟨91⟩,⟨93⟩,⟨44⟩,⟨59⟩,⟨58⟩,⟨46⟩,⟨43⟩,⟨45⟩,⟨42⟩,⟨47⟩,⟨37⟩,⟨38⟩,⟨124⟩,⟨94⟩,⟨60⟩,⟨61⟩,⟨33⟩]:List DF).length:=by omega
  rw [lV,rT] at b
  refine q (g (s (sU r r (by omega)) (n (q (jK r (tT ?_))))))
  exact M _ _ ⟨y,a,sm b⟩
 clear a
 rintro f w ⟨hf,a,Q⟩
 obtain ⟨ai,rfl⟩:=iA _ _ hf
 clear hf
 subst Q
 replace e:=gi e
 refine q (g (s (mF r) (n (kT ?_))))
 obtain rfl:=sm e
 refine jI r (lq r) ?_
 exact ⟨r,(a.dp [])⟩
def Kt (m:Int→Option (Int)):Prop:=∀ {a:World} {d:Nat→Prop} {b:Int}  {c:Int},Pre a d [] []→m b=some c→
 Calls Try.prog 106 #[V b] a (qW fun v w=>v=V c∧Bx a w d (lT []) [] [])
def yu (fu:Nat)(a:Int):Option (Ld (Bool) (Int)):=
 if a=14 then
  some (.go (decide (a=14)))
 else
  if a=15 then
   some (.go (decide (a=15)))
  else
   if a=16 then
    some (.go (decide (a=16)))
   else
    some (.go (decide (a=17)))
def yC (fu:Nat)(a:Int):Option (Ld (Bool) (Int)):=
 if a=11 then
  some (.go (decide (a=11)))
 else
  if a=12 then
   some (.go (decide (a=12)))
  else
   some (.go (decide (a=13)))
def yg (fu:Nat)(a:Int):Option (Ld (Bool) (Int)):=
 if a=6 then
  some (.go (decide (a=6)))
 else
  some (.go (decide (a=7)))
def zu (fu:Nat)(a:Int):Option (Int):=
 (yu fu a).bind fun e=>e.el (fun c=>
 if c=true then
  some 1
 else
  (yC fu a).bind fun e=>e.el (fun d=>
  if d=true then
   some 2
  else
   (yg fu a).bind fun e=>e.el (fun b=>
   if b=true then
    some 3
   else
    if a=8 then
     some 4
    else
     if a=9 then
      some 4
     else
      if a=10 then
       some 4
      else
       if a=4 then
        some 5
       else
        if a=5 then
         some 5
        else
         some 6
   ) (fun o=>some o)
  ) (fun o=>some o)
 ) (fun o=>some o)
theorem LW (fu:Nat):Kt (zu fu):=by
 intro E a1 i W Q a
 unfold zu at a
 have c:=Q.bx
 clear Q
 generalize X:lT _=G at c ⊢
 refine cf Try.func106 r ?_
 refine lK [(0,V i)] ⟨r,y⟩ fun a2=>?_
 refine q (g (s (xi r) (n (q (q (g (s (mi r) (n (oM (q ?_))))))))))
 obtain ⟨R,b,a⟩:=bs a
 refine oq (fun f w=>∃ (j:Bool),Has f [(3,V i),(4,.bool j)]∧Bx E w a1 G [] []∧Ld.go j=R) (fun Y m=>?_) ?_
 ·unfold yu at b
  refine q (g (s (kD r r) (s (kC r) (n ?_))))
  rcases iv b with ⟨F,b⟩|⟨F,b⟩
  ·refine jN (bt F) (wk ?_)
   exact m _ _ ⟨(decide (i=14)),⟨r,r,y⟩,c,sm b⟩
  refine jK (bf F) (q (g (s (kD r r) (s (kC r) (n ?_)))))
  rcases iv b with ⟨H,b⟩|⟨H,b⟩
  ·refine jN (bt H) (wk ?_)
   exact m _ _ ⟨(decide (i=15)),⟨r,r,y⟩,c,sm b⟩
  refine jK (bf H) (q (g (s (kD r r) (s (kC r) (n ?_)))))
  rcases iv b with ⟨I,b⟩|⟨I,b⟩
  ·refine jN (bt I) (wk ?_)
   exact m _ _ ⟨(decide (i=16)),⟨r,r,y⟩,c,sm b⟩
  refine jK (bf I) (g (s (kD r r) (s (kC r) (n ?_))))
  exact m _ _ ⟨(decide (i=17)),⟨r,r,y⟩,c,sm b⟩
 clear c
 rintro f w ⟨j,hf,c,J⟩
 obtain ⟨a2,rfl⟩:=iA _ _ hf
 clear hf
 subst J
 replace a:=gi a
 rcases iv a with ⟨B,a⟩|⟨B,a⟩
 ·refine jN (cb B) (q (g (s (xi r) (n (kT ?_)))))
  obtain rfl:=sm a
  refine jI r (lq r) ?_
  exact ⟨r,c⟩
 replace B:=nt B
 refine jK (cb B) (q ?_)
 obtain ⟨S,d,a⟩:=bs a
 refine oq (fun f w=>∃ (k:Bool),Has f [(3,V i),(9,.bool k)]∧Bx E w a1 G [] []∧Ld.go k=S) (fun J6 v=>?_) ?_
 ·unfold yC at d
  refine q (g (s (kD r r) (s (kC r) (n ?_))))
  rcases iv d with ⟨K,d⟩|⟨K,d⟩
  ·refine jN (bt K) (wk ?_)
   exact v _ _ ⟨(decide (i=11)),⟨r,r,y⟩,c,sm d⟩
  refine jK (bf K) (q (g (s (kD r r) (s (kC r) (n ?_)))))
  rcases iv d with ⟨L,d⟩|⟨L,d⟩
  ·refine jN (bt L) (wk ?_)
   exact v _ _ ⟨(decide (i=12)),⟨r,r,y⟩,c,sm d⟩
  refine jK (bf L) (g (s (kD r r) (s (kC r) (n ?_))))
  exact v _ _ ⟨(decide (i=13)),⟨r,r,y⟩,c,sm d⟩
 clear c
 rintro f w ⟨k,hf,c,M⟩
 obtain ⟨a2,rfl⟩:=iA _ _ hf
 clear hf
 subst M
 replace a:=gi a
 rcases iv a with ⟨C,a⟩|⟨C,a⟩
 ·refine jN (cb C) (q (g (s (xi r) (n (kT ?_)))))
  obtain rfl:=sm a
  refine jI r (lq r) ?_
  exact ⟨r,c⟩
 replace C:=nt C
 refine jK (cb C) (q ?_)
 obtain ⟨N,e,a⟩:=bs a
 refine oq (fun f w=>∃ (h:Bool),Has f [(3,V i),(13,.bool h)]∧Bx E w a1 G [] []∧Ld.go h=N) (fun U u=>?_) ?_
 ·unfold yg at e
  refine q (g (s (kD r r) (s (kC r) (n ?_))))
  rcases iv e with ⟨x,e⟩|⟨x,e⟩
  ·refine jN (bt x) (wk ?_)
   exact u _ _ ⟨(decide (i=6)),⟨r,r,y⟩,c,sm e⟩
  refine jK (bf x) (g (s (kD r r) (s (kC r) (n ?_))))
  exact u _ _ ⟨(decide (i=7)),⟨r,r,y⟩,c,sm e⟩
 clear c
 rintro f w ⟨h,hf,c,D⟩
 obtain ⟨a2,rfl⟩:=iA _ _ hf
 clear hf
 subst D
 replace a:=gi a
 rcases iv a with ⟨l,a⟩|⟨l,a⟩
 ·refine jN (cb l) (q (g (s (xi r) (n (kT ?_)))))
  obtain rfl:=sm a
  refine jI r (lq r) ?_
  exact ⟨r,c⟩
 replace l:=nt l
 refine jK (cb l) (q (q (g (s (kD r r) (s (kC r) (n ?_))))))
 rcases iv a with ⟨o,a⟩|⟨o,a⟩
 ·refine jN (bt o) (wk ?_)
  rw [decide_eq_true o]
  refine jN r (q (g (s (xi r) (n (kT ?_)))))
  obtain rfl:=sm a
  refine jI r (lq r) ?_
  exact ⟨r,c⟩
 refine jK (bf o) (q (g (s (kD r r) (s (kC r) (n ?_)))))
 rcases iv a with ⟨p,a⟩|⟨p,a⟩
 ·refine jN (bt p) (wk ?_)
  rw [decide_eq_true p]
  refine jN r (q (g (s (xi r) (n (kT ?_)))))
  obtain rfl:=sm a
  refine jI r (lq r) ?_
  exact ⟨r,c⟩
 refine jK (bf p) (g (s (kD r r) (s (kC r) (n ?_))))
 rcases iv a with ⟨z,a⟩|⟨z,a⟩
 ·refine jN (bt z) (q (g (s (xi r) (n (kT ?_)))))
  obtain rfl:=sm a
  refine jI r (lq r) ?_
  exact ⟨r,c⟩
 refine jK (bf z) (q (q (g (s (kD r r) (s (kC r) (n ?_))))))
 rcases iv a with ⟨t,a⟩|⟨t,a⟩
 ·refine jN (bt t) (wk ?_)
  rw [decide_eq_true t]
  refine jN r (q (g (s (xi r) (n (kT ?_)))))
  obtain rfl:=sm a
  refine jI r (lq r) ?_
  exact ⟨r,c⟩
 refine jK (bf t) (g (s (kD r r) (s (kC r) (n ?_))))
 rcases iv a with ⟨A,a⟩|⟨A,a⟩
 ·refine jN (bt A) (q (g (s (xi r) (n (kT ?_)))))
  obtain rfl:=sm a
  refine jI r (lq r) ?_
  exact ⟨r,c⟩
 refine jK (bf A) (wk (q (g (s (xi r) (n (kT ?_))))))
 obtain rfl:=sm a
 refine jI r (lq r) ?_
 exact ⟨r,c⟩
def Ey (m:BA→Option (Ge)):Prop:=∀ {d:World} {f:Nat→Prop} {e:BA}  {c:Ge},Pre d f [] []→m e=some c→
 Calls Try.prog 59 #[T e] d (qW fun v w=>∃ (a:OA)(b:Nat),v=.agg #[V c.e,V c.d,V c.g,T c.b,T c.c,Z a c.a b]∧Bx d w f (lT []) [] [.l a b c.a])
def nQ (fu:Nat)(a:BA):Option (Ge):=
 some (⟨1,0,0,a,be,([]:List Ge)⟩:Ge)
theorem oL (fu:Nat):Ey (nQ fu):=by
 intro f o b h c e
 unfold nQ at e
 have a:=c.bx
 clear c
 generalize i:lT _=G at a ⊢
 refine cf Try.func59 r ?_
 refine lK [(0,T b)] ⟨r,y⟩ fun p=>?_
 refine q (g (nU (nM a (jV jU)) ?_))
 rintro _ j ⟨k,rfl,a⟩
 refine n (q (g (s (kY r) (s (DU r r) (lg (tb a 0 [V 1,V 0,V 0,T b,T be,sn] r jU r r r r r (show _=#[V 1,V 0,V 0,T b,T be,sn] from r)) ?_)))))
 intro m a
 try dsimp only [List.set] at a
 refine n (kT ?_)
 replace a:=a.ku (d:=.l none 0 ([]:List Ge)) om
 obtain rfl:=sm e
 refine jI r (tV r mV r jU r (a.bk 0 r)) ?_
 exact ⟨none,0,r,(a.arr [] r)⟩
def Gc (m:Int→Option (Ge)):Prop:=∀ {d:World} {f:Nat→Prop} {e:Int}  {c:Ge},Pre d f [] []→m e=some c→
 Calls Try.prog 108 #[V e] d (qW fun v w=>∃ (a:OA)(b:Nat),v=.agg #[V c.e,V c.d,V c.g,T c.b,T c.c,Z a c.a b]∧Bx d w f (lT []) [] [.l a b c.a])
def rX (fu:Nat)(a:Int):Option (Ge):=
 some (⟨0,a,0,be,be,([]:List Ge)⟩:Ge)
theorem qP (fu:Nat):Gc (rX fu):=by
 intro f o b h c e
 unfold rX at e
 have a:=c.bx
 clear c
 generalize i:lT _=G at a ⊢
 refine cf Try.func108 r ?_
 refine lK [(0,V b)] ⟨r,y⟩ fun p=>?_
 refine q (g (nU (nM a (jV jU)) ?_))
 rintro _ j ⟨k,rfl,a⟩
 refine n (q (g (s (mi r) (s (HZ r r) (lg (tb a 0 [V 0,V b,V 0,T be,T be,sn] r jU r r r r r (show _=#[V 0,V b,V 0,T be,T be,sn] from r)) ?_)))))
 intro m a
 try dsimp only [List.set] at a
 refine n (kT ?_)
 replace a:=a.ku (d:=.l none 0 ([]:List Ge)) om
 obtain rfl:=sm e
 refine jI r (tV r mV r jU r (a.bk 0 r)) ?_
 exact ⟨none,0,r,(a.arr [] r)⟩
def Kv (m:(List Int)→Int→Option ((List Int))):Prop:=∀ {f:World} {k:Nat→Prop} {h:(List Int)} {j:Int} {a:Option Addr} {b:Nat} {i:(List Int)},Pre f k [] [.l a b h]→m h j=some i→
 Calls Try.prog 15 #[Z a h b,V j] f (qW fun v w=>∃ (c:OA)(d:Nat)(e:LV),v=Z c i d∧Bx f w k (lT []) [O f.heap.size c d 3 Int e] [.els e i])
def yD (fu:Nat)(b:(List Int)) (a:Int):Option (Ld (Int) ((List Int))):=
 if a < (b.length:Int) then
  (ix b a).bind fun c=>
  some (.go c)
 else
  some (.go (wr (a+1)))
def tJ (fu:Nat)(d:(List Int)) (e:Int):Nat→Int→(List Int)→Option (Ld (Int × List Int) ((List Int)))
 | 0,_,_=>none
 | f+1,a,b=>
 if a < e then
  (yD fu d a).bind fun i=>i.el (fun c=>
  (app b ([c]:List Int)).bind fun h=>
  tJ fu d e f (wr (a+1)) h
  ) (fun o=>some (.out o))
 else
  some (.go (a,b))
def zJ (fu:Nat)(c:(List Int)) (d:Int):Option ((List Int)):=
 (tJ fu c d fu 0 ([]:List Int)).bind fun e=>e.el (fun e=>
 jy e fun b a=>
 some a
 ) (fun o=>some o)
theorem Ee (fu:Nat):Kv (zJ fu):=by
 intro x a6 v A j k X L u
 unfold zJ at u
 have m:=L.bx
 clear L
 generalize Y:lT _=G at m ⊢
 refine cf Try.func15 r ?_
 refine lK [(0,Z j v k),(1,V A)] ⟨r,r,y⟩ fun a7=>?_
 refine q (g (s (nk r) (n (q (g (s (nk r) (n (q (q (g (s (xi r) (n ?_))))))))))))
 replace m:=m.Ca Int 3
 obtain ⟨M,e,u⟩:=bs u
 refine oq (fun f w=>∃ (i:Int)(d:List Int) (a:OA)(b:Nat)(c:LV),Has f [(5,Z a d b)]∧Bx x w a6 G [O x.heap.size a b 3 Int c] [.els c d,.l j k v]∧Ld.go (i,d)=M) (fun J1 B=>?_) ?_
 ·refine oM (kM (fun a8 f w=>∃ (i:Int)(d:List Int) (a:OA)(b:Nat)(c:LV),Has f [(0,Z j v k),(1,V A),(5,Z a d b),(6,V i)]∧Bx x w a6 G [O x.heap.size a b 3 Int c] [.els c d,.l j k v]∧tJ fu v A a8 i d=some M) fu ⟨0,([]:List Int),none,0,[],⟨r,r,r,r,y⟩,m,e⟩ ?_)
  clear m e
  rintro C f w ⟨i,d,a,b,c,hf,m,e⟩ K1 D
  obtain ⟨a7,rfl⟩:=iA _ _ hf
  clear hf
  cases C with
  | zero=>exact nn e
  | succ C=>
   rw [tJ] at e
   refine q (q (g (s (mi r) (s (mi r) (s (qo r r) (n ?_))))))
   rcases iv e with ⟨E,e⟩|⟨E,e⟩
   ·refine jN (bt E) (wk (q (oM (q (g (s (mi r) (s (kE r r) (s (xi r) (n (q ?_))))))))))
    obtain ⟨Q,o,e⟩:=bs e
    refine oq (fun f w=>∃ (p:Int),Has f [(0,Z j v k),(1,V A),(5,Z a d b),(6,V i),(7,V p)]∧Bx x w a6 G [O x.heap.size a b 3 Int c] [.els c d,.l j k v]∧Ld.go p=Q) (fun J4 z=>?_) ?_
    ·unfold yD at o
     refine q (g (s (mi r) (s (nC r) (s (lX ug r) (s (qo r r) (n ?_))))))
     rcases iv o with ⟨F,o⟩|⟨F,o⟩
     ·refine jN (bt F) (g (s (nC r) (s (mi r) ?_)))
      obtain ⟨N,t,o⟩:=bs o
      obtain ⟨k6,H,t⟩:=kJ t
      refine s (kW ug nO r r H (m.dl 1 r) t) (s (jT EC r r ((uy (ds:=[V N]) (m.dl 1 r) t (fun _ h=>h)) 0 _ r)) (s (xi r) (n ?_)))
      exact z _ _ ⟨N,⟨r,r,r,r,r,y⟩,m,sm o⟩
     refine jK (bf F) (wk ?_)
     exact z _ _ ⟨(wr (i+1)),⟨r,r,r,r,r,y⟩,m,sm o⟩
    clear m
    rintro f w ⟨p,hf,m,I⟩
    obtain ⟨a7,rfl⟩:=iA _ _ hf
    clear hf
    subst I
    replace e:=gi e
    refine g (s (nC r) (s (mi r) (nU (jP m [[V p]] ([p]:List Int) (Ah r) r r (by decide) ⟨r,y⟩) ?_)))
    rintro _ w7 ⟨b7,rfl,m⟩
    obtain ⟨R,J,e⟩:=bs e
    refine nU (kP m 1 1 r r ug nO r (by decide) (by decide) (Nat.le_refl _) r r (m.zP 0 0 r r) J) ?_
    rintro _ w8 ⟨S,U,W,rfl,m⟩
    refine s (nk r) (n (g (s (mi r) (s (kE r r) (s (xi r) (n ?_))))))
    exact D C _ _ (Nat.lt_succ_self _) ⟨(wr (i+1)),R,S,U,W,⟨r,r,r,r,y⟩,(m.ad [1] [1,2]),e⟩
   refine jK (bf E) (tT ?_)
   exact B _ _ ⟨i,d,a,b,c,⟨r,y⟩,m,sm e⟩
 clear m
 rintro f w ⟨i,d,a,b,c,hf,m,K⟩
 obtain ⟨a7,rfl⟩:=iA _ _ hf
 clear hf
 subst K
 replace u:=gi u
 replace u:=pi u
 refine q (g (s (nC r) (s (nk r) (n (kT ?_)))))
 obtain rfl:=sm u
 refine jI r (lq r) ?_
 exact ⟨a,b,c,r,(m.dp [0])⟩
def IC (m:(List Int)→Option ((List Int))):Prop:=∀ {e:World} {i:Nat→Prop} {f:(List Int)} {a:Option Addr} {b:Nat} {h:(List Int)},Pre e i [] [.l a b f]→m f=some h→
 Calls Try.prog 27 #[Z a f b] e (qW fun v w=>∃ (c:OA)(d:Nat),v=Z c h d∧Bx e w i (lT []) [] [.l c d h])
def yT (fu:Nat)(a:(List Int)):Option ((List Int)):=
 if 200 < (a.length:Int) then
  (sl a 0 200).bind fun b=>
  some b
 else
  some a
theorem IE (fu:Nat):IC (yT fu):=by
 intro A D v a b B p c
 unfold yT at c
 have e:=p.bx
 clear p
 generalize C:lT _=G at e ⊢
 refine cf Try.func27 r ?_
 refine lK [(0,Z a v b)] ⟨r,y⟩ fun E=>?_
 refine q (g (s (nk r) (n (q (q (g (s (nC r) (s (lX ug r) (s (uX r r) (n ?_))))))))))
 rcases iv c with ⟨j,c⟩|⟨j,c⟩
 ·refine jN (bt j) (q (g (s (nC r) ?_)))
  obtain ⟨k,m,c⟩:=bs c
  obtain ⟨w,t,x,o,u,f,h⟩:=Bf m
  obtain rfl:w=0:=by omega
  have i:k.length=t:=by rw [← h,List.length_take,List.length_drop];omega
  replace e:=e.ku (d:=.l a b k) (by have F:=(e.dl 0 r).head f;rw [h] at F;exact F)
  refine s (show Yl _ _ _ _ _ _ _ _ _ (.slice a k.length b) from (congrArg (fun z=>Value.slice a z b) i).symm ▸ yQ t ug nO r r o (Nat.le_trans f ((e.dl 1 r)).cap)) (s (nk r) (n (kT ?_)))
  obtain rfl:=sm c
  refine jI r (lq r) ?_
  exact ⟨a,b,r,(e.dp [0])⟩
 refine jK (bf j) (wk (q (g (s (nC r) (s (nk r) (n (kT ?_)))))))
 obtain rfl:=sm c
 refine jI r (lq r) ?_
 exact ⟨a,b,r,e⟩
def LU (m:BA→Int→Int→Option (Int × Int)):Prop:=∀ {a:World} {h:Nat→Prop} {b:BA} {c:Int} {d:Int}  {R:Int × Int},Pre a h [] []→m b c d=some R→
 Calls Try.prog 60 #[T b,V c,V d] a (qW fun v w=>jy R fun e f=>v=.tuple #[V e,V f]∧Bx a w h (lT []) [] [])
def yx (fu:Nat)(b:BA) (a:Int)(c:Int):Option (Ld (Bool) (Int × Int)):=
 if c=47 then
  if (wr (a+1)) < (b.size:Int) then
   (ixs b (wr (a+1))).bind fun d=>
   some (.go (decide (d=47)))
  else
   some (.go false)
 else
  some (.go false)
def rV (fu:Nat)(b:BA):Nat→Int→Option (Ld (Int) (Int × Int))
 | 0,_=>none
 | d+1,a=>
 if a < (b.size:Int) then
  (ixs b a).bind fun c=>
  if c≠10 then
   rV fu b d (wr (a+1))
  else
   some (.go a)
 else
  some (.go a)
def x9 (fu:Nat)(a:Int)(b:Int)(c:Int):Option (Ld (Unit) (Int × Int)):=
 if c≠32 then
  if c≠9 then
   if c≠13 then
    if c≠10 then
     some (.out (a,b))
    else
     some (.go ())
   else
    some (.go ())
  else
   some (.go ())
 else
  some (.go ())
def pG (fu:Nat)(c:BA):Nat→Int→Int→Option (Ld (Int × Int) (Int × Int))
 | 0,_,_=>none
 | f+1,a,b=>
 if a < (c.size:Int) then
  (ixs c a).bind fun h=>
  (yx fu c a h).bind fun i=>i.el (fun d=>
  if d=true then
   (rV fu c fu a).bind fun i=>i.el (fun e=>
   pG fu c f e b
   ) (fun o=>some (.out o))
  else
   (x9 fu a b h).bind fun i=>i.el (fun _=>
   if h=10 then
    pG fu c f (wr (a+1)) (wr (b+1))
   else
    pG fu c f (wr (a+1)) b
   ) (fun o=>some (.out o))
  ) (fun o=>some (.out o))
 else
  some (.go (a,b))
def xL (fu:Nat)(c:BA) (d:Int)(e:Int):Option (Int × Int):=
 (pG fu c fu d e).bind fun f=>f.el (fun f=>
 jy f fun a b=>
 some (a,b)
 ) (fun o=>some o)
theorem Ed (fu:Nat):LU (xL fu):=by
 intro D aj o x1 x2 R hP l
 unfold xL at l
 have i:=hP.bx
 clear hP
 generalize hG:lT _=G at i ⊢
 refine cf Try.func60 r ?_
 refine lK [(0,T o),(1,V x1),(2,V x2)] ⟨r,r,r,y⟩ fun ak=>?_
 refine q (g (s (xi r) (s (xi r) (n (q ?_)))))
 obtain ⟨Y1,a,l⟩:=bs l
 refine oq (fun f w=>∃ (d:Int)(c:Int),Has f [(1,V d),(2,V c)]∧Bx D w aj G [] []∧Ld.go (d,c)=Y1) (fun J1 K=>?_) ?_
 ·refine oM (kM (fun al f w=>∃ (d:Int)(c:Int),Has f [(0,T o),(1,V d),(2,V c)]∧Bx D w aj G [] []∧pG fu o al d c=some Y1) fu ⟨x1,x2,⟨r,r,r,y⟩,i,a⟩ ?_)
  clear i a
  rintro E f w ⟨d,c,hf,i,a⟩ K1 p
  obtain ⟨ak,rfl⟩:=iA _ _ hf
  clear hf
  cases E with
  | zero=>exact nn a
  | succ E=>
   rw [pG] at a
   refine q (q (g (s (mi r) (s (kY r) (s (BR uq r) (s (qo r r) (n ?_)))))))
   rcases iv a with ⟨L,a⟩|⟨L,a⟩
   ·refine jN (bt L) (wk (oM (q (g (s (kY r) (s (mi r) ?_))))))
    obtain ⟨g3,M,a⟩:=bs a
    refine s (Gb uq r r M) (s (xi r) (n (q (q ?_))))
    obtain ⟨Y4,j,a⟩:=bs a
    refine oq (fun f w=>∃ (m:Bool),Has f [(0,T o),(1,V d),(2,V c),(8,.int .u8 g3),(31,.bool m)]∧Bx D w aj G [] []∧Ld.go m=Y4) (fun J4 t=>?_) ?_
    ·unfold yx at j
     refine g (s (mi r) (s (kD r r) (s (kL r) ?_)))
     rcases iv j with ⟨N,j⟩|⟨N,j⟩
     ·rw [decide_eq_true N]
      refine kg r (s (mi r) (kg r (s (kE r r) (kg r (s (kY r) (kg r (s (BR uq r) (kg r (s (qo r r) (s (kr r r) (s (kL r) ?_)))))))))))
      rcases iv j with ⟨Q,j⟩|⟨Q,j⟩
      ·rw [decide_eq_true Q]
       refine kg r (s (kY r) (kg r (s (mi r) (kg r (s (kE r r) ?_)))))
       obtain ⟨g7,S,j⟩:=bs j
       refine kg r (s (Gb uq r r S) (kg r (s (kD r r) (s (kr r r) (n ?_)))))
       exact t _ _ ⟨(decide (g7=47)),⟨r,r,r,r,r,y⟩,i,sm j⟩
      rw [decide_eq_false Q]
      refine jC r (jC r (jC r (jC r (jC r (s (jY r r) (n ?_))))))
      exact t _ _ ⟨false,⟨r,r,r,r,r,y⟩,i,sm j⟩
     rw [decide_eq_false N]
     refine jC r (jC r (jC r (jC r (jC r (s (jY r r) (s (kL r) (jC r (jC r (jC r (jC r (jC r (s (jY r r) (n ?_)))))))))))))
     exact t _ _ ⟨false,⟨r,r,r,r,r,y⟩,i,sm j⟩
    clear i
    rintro f w ⟨m,hf,i,U⟩
    obtain ⟨ak,rfl⟩:=iA _ _ hf
    clear hf
    subst U
    replace a:=gi a
    rcases iv a with ⟨F,a⟩|⟨F,a⟩
    ·refine jN (cb F) (q ?_)
     obtain ⟨Y9,h,a⟩:=bs a
     refine oq (fun f w=>∃ (e:Int),Has f [(0,T o),(1,V e),(2,V c)]∧Bx D w aj G [] []∧Ld.go e=Y9) (fun J9 H=>?_) ?_
     ·refine oM (kM (fun al f w=>∃ (e:Int),Has f [(0,T o),(1,V e),(2,V c)]∧Bx D w aj G [] []∧rV fu o al e=some Y9) fu ⟨d,⟨r,r,r,y⟩,i,h⟩ ?_)
      clear i h
      rintro W f w ⟨e,hf,i,h⟩ K9 X
      obtain ⟨ak,rfl⟩:=iA _ _ hf
      clear hf
      cases W with
      | zero=>exact nn h
      | succ W=>
       rw [rV] at h
       refine q (q (g (s (mi r) (s (kY r) (s (BR uq r) (s (qo r r) (s (kL r) ?_)))))))
       rcases iv h with ⟨u,h⟩|⟨u,h⟩
       ·rw [decide_eq_true u]
        refine kg r (s (kY r) (kg r (s (mi r) ?_)))
        obtain ⟨aa,I,h⟩:=bs h
        refine kg r (s (Gb uq r r I) (kg r (s (rY r r) (s (kr r r) (n ?_)))))
        rcases iv h with ⟨v,h⟩|⟨v,h⟩
        ·refine jN (bt v) (wk (oM (g (s (mi r) (s (kE r r) (s (xi r) (n ?_)))))))
         exact X W _ _ (Nat.lt_succ_self _) ⟨(wr (e+1)),⟨r,r,r,y⟩,i,h⟩
        refine jK (bf v) (tT ?_)
        exact H _ _ ⟨e,⟨r,r,r,y⟩,i,sm h⟩
       rw [decide_eq_false u]
       refine jC r (jC r (jC r (jC r (s (jY r r) (n (jK r (tT ?_)))))))
       exact H _ _ ⟨e,⟨r,r,r,y⟩,i,sm h⟩
     clear i
     rintro f w ⟨e,hf,i,Y⟩
     obtain ⟨ak,rfl⟩:=iA _ _ hf
     clear hf
     subst Y
     replace a:=gi a
     refine tT ?_
     exact p E _ _ (Nat.lt_succ_self _) ⟨e,c,⟨r,r,r,y⟩,i,a⟩
    replace F:=nt F
    refine jK (cb F) (wk (q ?_))
    obtain ⟨a0,b,a⟩:=bs a
    refine oq (fun f w=>Has f [(0,T o),(1,V d),(2,V c),(8,.int .u8 g3)]∧Bx D w aj G [] []∧Ld.go ()=a0) (fun ab k=>?_) ?_
    ·unfold x9 at b
     refine q (g (s (mi r) (s (rY r r) (s (kL r) ?_))))
     rcases iv b with ⟨x,b⟩|⟨x,b⟩
     ·rw [decide_eq_true x]
      refine kg r (s (mi r) (kg r (s (rY r r) (s (kr r r) (s (kL r) ?_)))))
      rcases iv b with ⟨z,b⟩|⟨z,b⟩
      ·rw [decide_eq_true z]
       refine kg r (s (mi r) (kg r (s (rY r r) (s (kr r r) (s (kL r) ?_)))))
       rcases iv b with ⟨A,b⟩|⟨A,b⟩
       ·rw [decide_eq_true A]
        refine kg r (s (mi r) (kg r (s (rY r r) (s (kr r r) (n ?_)))))
        rcases iv b with ⟨B,b⟩|⟨B,b⟩
        ·refine jN (bt B) (q (g (s (mi r) (s (mi r) (s (xi r) (s (xi r) (n (kT ?_))))))))
         obtain rfl:=sm b
         replace a:=oi a
         obtain rfl:=sm a
         replace l:=oi l
         obtain rfl:=sm l
         refine qj r (lq r) (lq r) ?_
         exact mM (⟨r,i⟩)
        refine jK (bf B) (wk ?_)
        exact k _ _ ⟨⟨r,r,r,r,y⟩,i,sm b⟩
       rw [decide_eq_false A]
       refine jC r (jC r (s (jY r r) (n (jK r (wk ?_)))))
       exact k _ _ ⟨⟨r,r,r,r,y⟩,i,sm b⟩
      rw [decide_eq_false z]
      refine jC r (jC r (s (jY r r) (s (kL r) (jC r (jC r (s (jY r r) (n (jK r (wk ?_)))))))))
      exact k _ _ ⟨⟨r,r,r,r,y⟩,i,sm b⟩
     rw [decide_eq_false x]
     refine jC r (jC r (s (jY r r) (s (kL r) (jC r (jC r (s (jY r r) (s (kL r) (jC r (jC r (s (jY r r) (n (jK r (wk ?_)))))))))))))
     exact k _ _ ⟨⟨r,r,r,r,y⟩,i,sm b⟩
    clear i
    rintro f w ⟨hf,i,J⟩
    obtain ⟨ak,rfl⟩:=iA _ _ hf
    clear hf
    subst J
    replace a:=gi a
    refine q (q (g (s (mi r) (s (kD r r) (n ?_)))))
    rcases iv a with ⟨C,a⟩|⟨C,a⟩
    ·refine jN (bt C) (g (s (mi r) (s (kE r r) (s (xi r) (n (g (s (mi r) (s (kE r r) (s (xi r) (n ?_))))))))))
     exact p E _ _ (Nat.lt_succ_self _) ⟨(wr (d+1)),(wr (c+1)),⟨r,r,r,y⟩,i,a⟩
    refine jK (bf C) (wk (g (s (mi r) (s (kE r r) (s (xi r) (n ?_))))))
    exact p E _ _ (Nat.lt_succ_self _) ⟨(wr (d+1)),c,⟨r,r,r,y⟩,i,a⟩
   refine jK (bf L) (tT ?_)
   exact K _ _ ⟨d,c,⟨r,r,y⟩,i,sm a⟩
 clear i
 rintro f w ⟨d,c,hf,i,a1⟩
 obtain ⟨ak,rfl⟩:=iA _ _ hf
 clear hf
 subst a1
 replace l:=gi l
 replace l:=pi l
 refine q (g (s (mi r) (s (mi r) (s (xi r) (s (xi r) (n (kT ?_)))))))
 obtain rfl:=sm l
 refine qj r (lq r) (lq r) ?_
 exact mM (⟨r,i⟩)
def MV (m:BA→Int→Int→Option (jX × Int × Int)):Prop:=∀ {b:World} {i:Nat→Prop} {c:BA} {d:Int} {e:Int}  {R:jX × Int × Int},Pre b i [] []→m c d e=some R→
 Calls Try.prog 61 #[T c,V d,V e] b (qW fun v w=>jy R fun a R=>jy R fun f h=>v=.tuple #[.agg #[V a.c,V a.f,T a.a,V a.d],V f,V h]∧Bx b w i (lT []) [] [])
def uR (fu:Nat)(d:BA) (a:Int):Option (Ld (Bool) (jX × Int × Int)):=
 if a < (d.size:Int) then
  (ixs d a).bind fun f=>
  (rJ fu f).bind fun c=>
  if c=true then
   some (.go true)
  else
   (ixs d a).bind fun e=>
   (uI fu e).bind fun b=>
   some (.go b)
 else
  some (.go false)
def qp (fu:Nat)(c:BA):Nat→Int→Option (Ld (Int) (jX × Int × Int))
 | 0,_=>none
 | d+1,a=>
 (uR fu c a).bind fun e=>e.el (fun b=>
 if b=true then
  qp fu c d (wr (a+1))
 else
  some (.go a)
 ) (fun o=>some (.out o))
def oI (fu:Nat)(d:BA) (f:Int):Nat→Int→Int→Option (Ld (Int × Int) (jX × Int × Int))
 | 0,_,_=>none
 | e+1,a,b=>
 if a < (d.size:Int) then
  (ixs d a).bind fun h=>
  (uI fu h).bind fun c=>
  if c=true then
   if (wr (a - f)) < 18 then
    (ixs d a).bind fun i=>
    oI fu d f e (wr (a+1)) (wr ((wr (10 * b))+(wr (w8 (i - 48)))))
   else
    oI fu d f e (wr (a+1)) b
  else
   some (.go (a,b))
 else
  some (.go (a,b))
def za (fu:Nat)(d:BA) (a:Int):Option (Ld (Unit) (jX × Int × Int)):=
 if a < (d.size:Int) then
  (ixs d a).bind fun c=>
  (rJ fu c).bind fun b=>
  if b=true then
   some (.out ((⟨0,0,be,0⟩:jX),0,6))
  else
   some (.go ())
 else
  some (.go ())
def Ae (fu:Nat)(e:BA) (d:Int)(l:Int):Option (jX × Int × Int):=
 (ixs e d).bind fun p=>
 (rJ fu p).bind fun k=>
 if k=true then
  (qp fu e fu d).bind fun t=>t.el (fun c=>
  if 12 < (wr (c - d)) then
   some ((⟨0,0,be,0⟩:jX),0,5)
  else
   (QL e d c).bind fun f=>
   (uj fu f).bind fun h=>
   if h=true then
    some ((⟨3,l,f,0⟩:jX),c,0)
   else
    some ((⟨1,l,f,0⟩:jX),c,0)
  ) (fun o=>some o)
 else
  (ixs e d).bind fun m=>
  (uI fu m).bind fun i=>
  if i=true then
   (oI fu e d fu d 0).bind fun t=>t.el (fun t=>
   jy t fun a j=>
   if 18 < (wr (a - d)) then
    some ((⟨0,0,be,0⟩:jX),0,5)
   else
    (za fu e a).bind fun t=>t.el (fun _=>
    some ((⟨2,l,be,j⟩:jX),a,0)
    ) (fun o=>some o)
   ) (fun o=>some o)
  else
   (zH fu e d).bind fun b=>
   if b=(⟨#[]⟩:BA) then
    some ((⟨0,0,be,0⟩:jX),0,6)
   else
    some ((⟨4,l,b,0⟩:jX),(wr (d+(b.size:Int))),0)
theorem MS (fu:Nat):MV (Ae fu):=by
 intro X b8 F C l R hP d
 unfold Ae at d
 have a:=hP.bx
 clear hP
 generalize hG:lT _=G at a ⊢
 refine cf Try.func61 r ?_
 refine lK [(0,T F),(1,V C),(2,V l)] ⟨r,r,r,y⟩ fun b9=>?_
 refine q (g (nU (nM a (jV pQ)) ?_))
 rintro _ w1 ⟨o,rfl,a⟩
 refine s (xi r) (s (xi r) (n (q (g (s (mi r) (s (xi r) (n (q (q (g (s (kY r) (s (mi r) ?_))))))))))))
 obtain ⟨g2,a9,d⟩:=bs d
 refine s (Gb uq r r a9) ?_
 obtain ⟨ax,h3,d⟩:=bs d
 have hc:=(Ad fu) (a.pr [] [0] [] r)  h3
 refine sc (ec Qs r) hc ?_
 rintro _ w3 ⟨rfl,m⟩
 replace a:=a.cl [] [0] r m r
 try dsimp only [pick,nth,ca,na] at a
 refine n ?_
 rcases iv d with ⟨Y,d⟩|⟨Y,d⟩
 ·refine jN (cb Y) (q ?_)
  obtain ⟨Y5,k,d⟩:=bs d
  refine oq (fun f w=>∃ (j:Int),Has f [(0,T F),(1,V j),(2,V l),(6,Pt o),(9,V C)]∧Bx X w b8 G [.box o 143 #[V 0,V 0,T be,V 0]] []∧Ld.go j=Y5) (fun J5 aa=>?_) ?_
  ·refine oM (kM (fun ba f w=>∃ (j:Int),Has f [(0,T F),(1,V j),(2,V l),(6,Pt o),(9,V C)]∧Bx X w b8 G [.box o 143 #[V 0,V 0,T be,V 0]] []∧qp fu F ba j=some Y5) fu ⟨C,⟨r,r,r,r,r,y⟩,a,k⟩ ?_)
   clear a k
   rintro n5 f w ⟨j,hf,a,k⟩ K5 ac
   obtain ⟨b9,rfl⟩:=iA _ _ hf
   clear hf
   cases n5 with
   | zero=>exact nn k
   | succ n5=>
    rw [qp] at k
    refine q (q ?_)
    obtain ⟨Y6,i,k⟩:=bs k
    refine oq (fun f w=>∃ (p:Bool),Has f [(0,T F),(1,V j),(2,V l),(6,Pt o),(9,V C),(33,.bool p)]∧Bx X w b8 G [.box o 143 #[V 0,V 0,T be,V 0]] []∧Ld.go p=Y6) (fun J6 K=>?_) ?_
    ·unfold uR at i
     refine g (s (mi r) (s (kY r) (s (BR uq r) (s (qo r r) (s (kL r) ?_)))))
     rcases iv i with ⟨h7,i⟩|⟨h7,i⟩
     ·rw [decide_eq_true h7]
      refine kg r (s (kY r) (kg r (s (mi r) ?_)))
      obtain ⟨g8,af,i⟩:=bs i
      refine kg r (s (Gb uq r r af) ?_)
      obtain ⟨az,h9,i⟩:=bs i
      refine kg r ?_
      have hc:=(Ad fu) (a.pr [] [0] [] r)  h9
      refine sc (ec Qs r) hc ?_
      rintro _ w9 ⟨rfl,m⟩
      replace a:=a.cl [] [0] r m r
      try dsimp only [pick,nth,ca,na] at a
      refine kg r (s (kL r) ?_)
      rcases iv i with ⟨t,i⟩|⟨t,i⟩
      ·rw [t]
       refine jC r (jC r (jC r (jC r (kg r (s (kr r r) (s (kr r r) (n ?_)))))))
       exact K _ _ ⟨true,⟨r,r,r,r,r,r,y⟩,a,sm i⟩
      replace t:=nt t
      rw [t]
      refine kg r (s (kY r) (kg r (s (mi r) ?_)))
      obtain ⟨aD,a0,i⟩:=bs i
      refine kg r (s (Gb uq r r a0) ?_)
      obtain ⟨L,ag,i⟩:=bs i
      refine kg r ?_
      have hc:=(Au fu) (a.pr [] [0] [] r)  ag
      refine sc (ec QN r) hc ?_
      rintro _ aE ⟨rfl,m⟩
      replace a:=a.cl [] [0] r m r
      try dsimp only [pick,nth,ca,na] at a
      refine kg r (s (jY r r) (s (kr r r) (n ?_)))
      exact K _ _ ⟨L,⟨r,r,r,r,r,r,y⟩,a,sm i⟩
     rw [decide_eq_false h7]
     refine jC r (jC r (jC r (jC r (jC r (jC r (jC r (jC r (jC r (jC r (s (jY r r) (n ?_)))))))))))
     exact K _ _ ⟨false,⟨r,r,r,r,r,r,y⟩,a,sm i⟩
    clear a
    rintro f w ⟨p,hf,a,ah⟩
    obtain ⟨b9,rfl⟩:=iA _ _ hf
    clear hf
    subst ah
    replace k:=gi k
    rcases iv k with ⟨u,k⟩|⟨u,k⟩
    ·refine jN (cb u) (wk (oM (g (s (mi r) (s (kE r r) (s (xi r) (n ?_)))))))
     exact ac n5 _ _ (Nat.lt_succ_self _) ⟨(wr (j+1)),⟨r,r,r,r,r,y⟩,a,k⟩
    replace u:=nt u
    refine jK (cb u) (tT ?_)
    exact aa _ _ ⟨j,⟨r,r,r,r,r,y⟩,a,sm k⟩
  clear a
  rintro f w ⟨j,hf,a,ai⟩
  obtain ⟨b9,rfl⟩:=iA _ _ hf
  clear hf
  subst ai
  replace d:=gi d
  refine q (q (g (s (mi r) (s (mi r) (s (vW r r) (s (uX r r) (n ?_)))))))
  rcases iv d with ⟨M,d⟩|⟨M,d⟩
  ·refine jN (bt M) (q (g (s Jm (lg (tb a 0 [V 0,V 0,T be,V 0] r pQ r r r r r (show _=#[V 0,V 0,T be,V 0] from r)) ?_))))
   intro aF a
   try dsimp only [List.set] at a
   refine s (xi r) (s (xi r) (n (kT ?_)))
   obtain rfl:=sm d
   refine xH r (tV r BU r pQ r (a.bk 0 r)) (lq r) (lq r) ?_
   exact mM (mM (⟨r,(a.arr [] r)⟩))
  refine jK (bf M) (wk (q (g (s (kY r) (s (mi r) (s (mi r) ?_))))))
  obtain ⟨D,a1,d⟩:=bs d
  refine s (VW uq r r r a1) (s (mF r) (n (q (q (g (s (kY r) ?_))))))
  obtain ⟨aj,ak,d⟩:=bs d
  have hc:=(Eo fu) (a.pr [] [0] [] r)  ak
  refine sc (ec XC r) hc ?_
  rintro _ aG ⟨rfl,m⟩
  replace a:=a.cl [] [0] r m r
  try dsimp only [pick,nth,ca,na] at a
  refine n ?_
  rcases iv d with ⟨v,d⟩|⟨v,d⟩
  ·refine jN (cb v) (q (g (s (mi r) (s (kY r) (s (Bz r r r) (s (mi r) (lg (tb a 0 [V 3,V l,T D,V 0] r pQ r r r r r (show _=#[V 3,V l,T D,V 0] from r)) ?_)))))))
   intro aH a
   try dsimp only [List.set] at a
   refine s (xi r) (s (xi r) (n (kT ?_)))
   obtain rfl:=sm d
   refine xH r (tV r BU r pQ r (a.bk 0 r)) (lq r) (lq r) ?_
   exact mM (mM (⟨r,(a.arr [] r)⟩))
  replace v:=nt v
  refine jK (cb v) (wk (q (g (s (mi r) (s (kY r) (s (Bz r r r) (s (mi r) (lg (tb a 0 [V 1,V l,T D,V 0] r pQ r r r r r (show _=#[V 1,V l,T D,V 0] from r)) ?_))))))))
  intro aI a
  try dsimp only [List.set] at a
  refine s (xi r) (s (xi r) (n (kT ?_)))
  obtain rfl:=sm d
  refine xH r (tV r BU r pQ r (a.bk 0 r)) (lq r) (lq r) ?_
  exact mM (mM (⟨r,(a.arr [] r)⟩))
 replace Y:=nt Y
 refine jK (cb Y) (wk (q (q (g (s (kY r) (s (mi r) ?_))))))
 obtain ⟨aJ,a2,d⟩:=bs d
 refine s (Gb uq r r a2) ?_
 obtain ⟨al,am,d⟩:=bs d
 have hc:=(Au fu) (a.pr [] [0] [] r)  am
 refine sc (ec QN r) hc ?_
 rintro _ aK ⟨rfl,m⟩
 replace a:=a.cl [] [0] r m r
 try dsimp only [pick,nth,ca,na] at a
 refine n ?_
 rcases iv d with ⟨x,d⟩|⟨x,d⟩
 ·refine jN (cb x) (q (g (s (xi r) (n (q ?_)))))
  obtain ⟨a3,b,d⟩:=bs d
  refine oq (fun f w=>∃ (e:Int)(c:Int),Has f [(0,T F),(1,V e),(2,V l),(6,Pt o),(9,V C),(11,V c)]∧Bx X w b8 G [.box o 143 #[V 0,V 0,T be,V 0]] []∧Ld.go (e,c)=a3) (fun aL H=>?_) ?_
  ·refine oM (kM (fun ba f w=>∃ (e:Int)(c:Int),Has f [(0,T F),(1,V e),(2,V l),(6,Pt o),(9,V C),(11,V c)]∧Bx X w b8 G [.box o 143 #[V 0,V 0,T be,V 0]] []∧oI fu F C ba e c=some a3) fu ⟨C,0,⟨r,r,r,r,r,r,y⟩,a,b⟩ ?_)
   clear a b
   rintro E f w ⟨e,c,hf,a,b⟩ aM I
   obtain ⟨b9,rfl⟩:=iA _ _ hf
   clear hf
   cases E with
   | zero=>exact nn b
   | succ E=>
    rw [oI] at b
    refine q (q (g (s (mi r) (s (kY r) (s (BR uq r) (s (qo r r) (s (kL r) ?_)))))))
    rcases iv b with ⟨N,b⟩|⟨N,b⟩
    ·rw [decide_eq_true N]
     refine kg r (s (kY r) (kg r (s (mi r) ?_)))
     obtain ⟨aN,a4,b⟩:=bs b
     refine kg r (s (Gb uq r r a4) ?_)
     obtain ⟨an,ao,b⟩:=bs b
     refine kg r ?_
     have hc:=(Au fu) (a.pr [] [0] [] r)  ao
     refine sc (ec QN r) hc ?_
     rintro _ aO ⟨rfl,m⟩
     replace a:=a.cl [] [0] r m r
     try dsimp only [pick,nth,ca,na] at a
     refine s (kr r r) (n ?_)
     rcases iv b with ⟨z,b⟩|⟨z,b⟩
     ·refine jN (cb z) (wk (oM (q (q (g (s (mi r) (s (mi r) (s (vW r r) (s (qo r r) (n ?_))))))))))
      rcases iv b with ⟨Q,b⟩|⟨Q,b⟩
      ·refine jN (bt Q) (g (s (mi r) (s (Td r r) (s (kY r) (s (mi r) ?_)))))
       obtain ⟨ap,a5,b⟩:=bs b
       refine s (Gb uq r r a5) (s (XJ r r) (s (Zm ⟨_,Yw⟩ EC r) (s (kE r r) (s (xi r) (n (g (s (mi r) (s (kE r r) (s (xi r) (n ?_))))))))))
       exact I E _ _ (Nat.lt_succ_self _) ⟨(wr (e+1)),(wr ((wr (10 * c))+(wr (w8 (ap - 48))))),⟨r,r,r,r,r,r,y⟩,a,b⟩
      refine jK (bf Q) (wk (g (s (mi r) (s (kE r r) (s (xi r) (n ?_))))))
      exact I E _ _ (Nat.lt_succ_self _) ⟨(wr (e+1)),c,⟨r,r,r,r,r,r,y⟩,a,b⟩
     replace z:=nt z
     refine jK (cb z) (tT ?_)
     exact H _ _ ⟨e,c,⟨r,r,r,r,r,r,y⟩,a,sm b⟩
    rw [decide_eq_false N]
    refine jC r (jC r (jC r (jC r (s (jY r r) (n (jK r (tT ?_)))))))
    exact H _ _ ⟨e,c,⟨r,r,r,r,r,r,y⟩,a,sm b⟩
  clear a
  rintro f w ⟨e,c,hf,a,a6⟩
  obtain ⟨b9,rfl⟩:=iA _ _ hf
  clear hf
  subst a6
  replace d:=gi d
  replace d:=pi d
  refine q (q (g (s (mi r) (s (mi r) (s (vW r r) (s (uX r r) (n ?_)))))))
  rcases iv d with ⟨S,d⟩|⟨S,d⟩
  ·refine jN (bt S) (q (g (s Jm (lg (tb a 0 [V 0,V 0,T be,V 0] r pQ r r r r r (show _=#[V 0,V 0,T be,V 0] from r)) ?_))))
   intro aP a
   try dsimp only [List.set] at a
   refine s (xi r) (s (xi r) (n (kT ?_)))
   obtain rfl:=sm d
   refine xH r (tV r BU r pQ r (a.bk 0 r)) (lq r) (lq r) ?_
   exact mM (mM (⟨r,(a.arr [] r)⟩))
  refine jK (bf S) (wk (q ?_))
  obtain ⟨aq,h,d⟩:=bs d
  refine oq (fun f w=>Has f [(1,V e),(2,V l),(6,Pt o),(11,V c)]∧Bx X w b8 G [.box o 143 #[V 0,V 0,T be,V 0]] []∧Ld.go ()=aq) (fun aQ J=>?_) ?_
  ·unfold za at h
   refine q (g (s (mi r) (s (kY r) (s (BR uq r) (s (qo r r) (s (kL r) ?_))))))
   rcases iv h with ⟨U,h⟩|⟨U,h⟩
   ·rw [decide_eq_true U]
    refine kg r (s (kY r) (kg r (s (mi r) ?_)))
    obtain ⟨aR,a7,h⟩:=bs h
    refine kg r (s (Gb uq r r a7) ?_)
    obtain ⟨ar,au,h⟩:=bs h
    refine kg r ?_
    have hc:=(Ad fu) (a.pr [] [0] [] r)  au
    refine sc (ec Qs r) hc ?_
    rintro _ aS ⟨rfl,m⟩
    replace a:=a.cl [] [0] r m r
    try dsimp only [pick,nth,ca,na] at a
    refine s (kr r r) (n ?_)
    rcases iv h with ⟨A,h⟩|⟨A,h⟩
    ·refine jN (cb A) (q (g (s Jm (lg (tb a 0 [V 0,V 0,T be,V 0] r pQ r r r r r (show _=#[V 0,V 0,T be,V 0] from r)) ?_))))
     intro aT a
     try dsimp only [List.set] at a
     refine s (xi r) (s (xi r) (n (kT ?_)))
     obtain rfl:=sm h
     replace d:=oi d
     obtain rfl:=sm d
     refine xH r (tV r BU r pQ r (a.bk 0 r)) (lq r) (lq r) ?_
     exact mM (mM (⟨r,(a.arr [] r)⟩))
    replace A:=nt A
    refine jK (cb A) (wk ?_)
    exact J _ _ ⟨⟨r,r,r,r,y⟩,a,sm h⟩
   rw [decide_eq_false U]
   refine jC r (jC r (jC r (jC r (s (jY r r) (n (jK r (wk ?_)))))))
   exact J _ _ ⟨⟨r,r,r,r,y⟩,a,sm h⟩
  clear a
  rintro f w ⟨hf,a,a8⟩
  obtain ⟨b9,rfl⟩:=iA _ _ hf
  clear hf
  subst a8
  replace d:=gi d
  refine q (g (s (mi r) (s (mi r) (s (Kz r r r) (s (mi r) (lg (tb a 0 [V 2,V l,T be,V c] r pQ r r r r r (show _=#[V 2,V l,T be,V c] from r)) ?_))))))
  intro aU a
  try dsimp only [List.set] at a
  refine s (xi r) (s (xi r) (n (kT ?_)))
  obtain rfl:=sm d
  refine xH r (tV r BU r pQ r (a.bk 0 r)) (lq r) (lq r) ?_
  exact mM (mM (⟨r,(a.arr [] r)⟩))
 replace x:=nt x
 refine jK (cb x) (wk (q (g (s (kY r) (s (mi r) ?_)))))
 obtain ⟨B,av,d⟩:=bs d
 have hc:=(Ls fu) (a.pr [] [0] [] r)  av
 refine sc (ec XO r) hc ?_
 rintro _ aV ⟨rfl,m⟩
 replace a:=a.cl [] [0] r m r
 try dsimp only [pick,nth,ca,na] at a
 refine s (mF r) (n (q (q (g (s (kY r) (s (rR r r) (n ?_)))))))
 rcases iv d with ⟨W,d⟩|⟨W,d⟩
 ·refine jN (bt W) (q (g (s Jm (lg (tb a 0 [V 0,V 0,T be,V 0] r pQ r r r r r (show _=#[V 0,V 0,T be,V 0] from r)) ?_))))
  intro aW a
  try dsimp only [List.set] at a
  refine s (xi r) (s (xi r) (n (kT ?_)))
  obtain rfl:=sm d
  refine xH r (tV r BU r pQ r (a.bk 0 r)) (lq r) (lq r) ?_
  exact mM (mM (⟨r,(a.arr [] r)⟩))
 refine jK (bf W) (wk (q (g (s (mi r) (s (kY r) (s (Bz r r r) (s (mi r) (s (kY r) (s (BR uq r) (s (kE r r) (lg (tb a 0 [V 4,V l,T B,V 0] r pQ r r r r r (show _=#[V 4,V l,T B,V 0] from r)) ?_)))))))))))
 intro aX a
 try dsimp only [List.set] at a
 refine s (xi r) (s (xi r) (n (kT ?_)))
 obtain rfl:=sm d
 refine xH r (tV r BU r pQ r (a.bk 0 r)) (lq r) (lq r) ?_
 exact mM (mM (⟨r,(a.arr [] r)⟩))
def Ke (m:BA→Option ((List jX) × Int × Int)):Prop:=∀ {d:World} {j:Nat→Prop} {e:BA}  {R:(List jX) × Int × Int},Pre d j [] []→m e=some R→
 Calls Try.prog 44 #[T e] d (qW fun v w=>jy R fun f R=>jy R fun h i=>∃ (a:OA)(b:Nat)(c:LV),v=.tuple #[Z a f b,V h,V i]∧Bx d w j (lT []) [O d.heap.size a b 143 jX c] [.els c f])
def yE (fu:Nat)(b:List jX) (a:Int):Option (Ld (Int) ((List jX) × Int × Int)):=
 if a=0 then
  if 2000≤(b.length:Int) then
   some (.go 5)
  else
   some (.go a)
 else
  some (.go a)
def tO (fu:Nat)(k:BA):Nat→Int→Int→(List jX)→Option (Ld (Int × Int × List jX) ((List jX) × Int × Int))
 | 0,_,_,_=>none
 | m+1,b,a,c=>
 if b < (k.size:Int) then
  (Ae fu k b a).bind fun p=>
  jy p fun h p=>jy p fun i j=>
  (yE fu c j).bind fun p=>p.el (fun d=>
  if d≠0 then
   some (.out (([]:List jX),a,d))
  else
   (app c ([h]:List jX)).bind fun l=>
   (xL fu k i a).bind fun p=>
   jy p fun e f=>
   tO fu k m e f l
  ) (fun o=>some (.out o))
 else
  some (.go (b,a,c))
def zw (fu:Nat)(e:BA):Option ((List jX) × Int × Int):=
 if 4000 < (e.size:Int) then
  some (([]:List jX),0,5)
 else
  (xL fu e 0 1).bind fun i=>
  jy i fun a b=>
  (tO fu e fu a b ([]:List jX)).bind fun i=>i.el (fun i=>
  jy i fun h i=>jy i fun c d=>
  (app d ([(⟨0,c,be,0⟩:jX)]:List jX)).bind fun f=>
  some (f,0,0)
  ) (fun o=>some o)
theorem LX (fu:Nat):Ke (zw fu):=by
 intro B au K R hP l
 unfold zw at l
 have c:=hP.bx
 clear hP
 generalize hG:lT _=G at c ⊢
 refine cf Try.func44 r ?_
 refine lK [(0,T K)] ⟨r,y⟩ fun av=>?_
 refine q (g (s (nk r) (s (xi r) (s (xi r) (n (q (q (g (s (kY r) (s (BR uq r) (s (uX r r) (n ?_))))))))))))
 rcases iv l with ⟨L,l⟩|⟨L,l⟩
 ·refine jN (bt L) (q (g (s (nk r) (s (xi r) (s (xi r) (n (kT ?_)))))))
  replace c:=c.Ca jX 143
  obtain rfl:=sm l
  refine xH r (lq r) (lq r) (lq r) ?_
  exact mM (mM (⟨none,0,[],r,c⟩))
 refine jK (bf L) (wk (q (g (s (nk r) (n (q (g (s (kY r) ?_))))))))
 obtain ⟨⟨C,D⟩,h3,l⟩:=bs l
 replace l:=pi l
 have hc:=(Ed fu) (c.pr [] [] [] r)  h3
 refine sc (ec Ta r) hc ?_
 rintro _ w3 ⟨rfl,E⟩
 replace c:=c.cl [] [] r E r
 try dsimp only [pick,nth,ca,na] at c
 refine s sZ (s (jZ r r) (s (jZ r r) (s (xi r) (s (xi r) (n (q ?_))))))
 replace c:=c.Ca jX 143
 obtain ⟨Y4,b,l⟩:=bs l
 refine oq (fun f w=>∃ (m:Int)(j:Int)(i:List jX) (d:OA)(e:Nat)(h:LV),Has f [(5,Z d i e),(7,V j)]∧Bx B w au G [O B.heap.size d e 143 jX h] [.els h i]∧Ld.go (m,j,i)=Y4) (fun J4 M=>?_) ?_
 ·refine oM (kM (fun aw f w=>∃ (m:Int)(j:Int)(i:List jX) (d:OA)(e:Nat)(h:LV),Has f [(0,T K),(5,Z d i e),(6,V m),(7,V j)]∧Bx B w au G [O B.heap.size d e 143 jX h] [.els h i]∧tO fu K aw m j i=some Y4) fu ⟨C,D,([]:List jX),none,0,[],⟨r,r,r,r,y⟩,c,b⟩ ?_)
  clear c b
  rintro N f w ⟨m,j,i,d,e,h,hf,c,b⟩ K4 Q
  obtain ⟨av,rfl⟩:=iA _ _ hf
  clear hf
  cases N with
  | zero=>exact nn b
  | succ N=>
   rw [tO] at b
   refine q (q (g (s (mi r) (s (kY r) (s (BR uq r) (s (qo r r) (n ?_)))))))
   rcases iv b with ⟨S,b⟩|⟨S,b⟩
   ·refine jN (bt S) (wk (oM (q (g (s (kY r) (s (mi r) (s (mi r) ?_)))))))
    obtain ⟨⟨a,F,t⟩,h7,b⟩:=bs b
    replace b:=pi b
    replace b:=pi b
    have hc:=(MS fu) (c.pr [] [0] [] r)  h7
    refine sc (ec XU r) hc ?_
    rintro _ w7 ⟨rfl,E⟩
    replace c:=c.cl [] [0] r E r
    try dsimp only [pick,nth,ca,na] at c
    refine s sZ (s (jZ r r) (s (jZ r r) (s (jZ r r) (nU (nM c (jV pQ)) ?_))))
    rintro _ w8 ⟨b8,rfl,c⟩
    refine lg (tb c 0 [V a.c,V a.f,T a.a,V a.d] r pQ r r r r r (show _=#[V a.c,V a.f,T a.a,V a.d] from r)) ?_
    intro w9 c
    try dsimp only [List.set] at c
    refine s (xi r) (s (xi r) (n (q ?_)))
    obtain ⟨U,k,b⟩:=bs b
    refine oq (fun f w=>∃ (o:Int),Has f [(0,T K),(5,Z d i e),(7,V j),(8,Pt b8),(9,V F),(10,V o)]∧Bx B w au G [.box b8 143 #[V a.c,V a.f,T a.a,V a.d],O B.heap.size d e 143 jX h] [.els h i]∧Ld.go o=U) (fun ab p=>?_) ?_
    ·unfold yE at k
     refine q (g (s (mi r) (s (kD r r) (s (kL r) ?_))))
     rcases iv k with ⟨u,k⟩|⟨u,k⟩
     ·rw [decide_eq_true u]
      refine kg r (s (nC r) (kg r (s (lX Cr r) (kg r (s (Bq r r) (s (kr r r) (n ?_)))))))
      rcases iv k with ⟨v,k⟩|⟨v,k⟩
      ·refine jN (bt v) (g (s (xi r) (n ?_)))
       exact p _ _ ⟨5,⟨r,r,r,r,r,r,y⟩,c,sm k⟩
      refine jK (bf v) (wk ?_)
      exact p _ _ ⟨t,⟨r,r,r,r,r,r,y⟩,c,sm k⟩
     rw [decide_eq_false u]
     refine jC r (jC r (jC r (s (jY r r) (n (jK r (wk ?_))))))
     exact p _ _ ⟨t,⟨r,r,r,r,r,r,y⟩,c,sm k⟩
    clear c
    rintro f w ⟨o,hf,c,H⟩
    obtain ⟨av,rfl⟩:=iA _ _ hf
    clear hf
    subst H
    replace b:=gi b
    refine q (q (g (s (mi r) (s (rY r r) (n ?_)))))
    rcases iv b with ⟨x,b⟩|⟨x,b⟩
    ·refine jN (bt x) (q (g (s (mi r) (s (mi r) (s (nk r) (s (xi r) (s (xi r) (n (kT ?_)))))))))
     replace c:=c.Ca jX 143
     obtain rfl:=sm b
     replace l:=oi l
     obtain rfl:=sm l
     refine xH r (lq r) (lq r) (lq r) ?_
     exact mM (mM (⟨none,0,[],r,(c.ad [0] [0])⟩))
    refine jK (bf x) (wk (q (g (s (nC r) (s (nN [V a.c,V a.f,T a.a,V a.d] BU r pQ r r (Cells.part (c.bk 0 r).cells (o2:=0) r)) (nU (jP c [[V a.c,V a.f,T a.a,V a.d]] ([a]:List jX) (Kh r) r r (by decide) ⟨r,y⟩) ?_))))))
    rintro _ ac ⟨ae,rfl,c⟩
    obtain ⟨W,I,b⟩:=bs b
    refine nU (kP c 2 1 r r Cr pQ r (by decide) (by decide) (Nat.le_refl _) r r (c.zP 0 0 r r) I) ?_
    rintro _ af ⟨X,Y,a0,rfl,c⟩
    refine s (nk r) (n (g (s (kY r) (s (mi r) (s (mi r) ?_)))))
    obtain ⟨⟨z,A⟩,a1,b⟩:=bs b
    replace b:=pi b
    have hc:=(Ed fu) (c.pr [] [0,1,2] [] r)  a1
    refine sc (ec Ta r) hc ?_
    rintro _ ag ⟨rfl,E⟩
    replace c:=c.cl [] [0,1,2] r E r
    try dsimp only [pick,nth,ca,na] at c
    refine s sZ (s (jZ r r) (s (jZ r r) (s (xi r) (s (xi r) (n ?_)))))
    exact Q N _ _ (Nat.lt_succ_self _) ⟨z,A,W,X,Y,a0,⟨r,r,r,r,y⟩,(c.ad [2] [1]),b⟩
   refine jK (bf S) (tT ?_)
   exact M _ _ ⟨m,j,i,d,e,h,⟨r,r,y⟩,c,sm b⟩
 clear c
 rintro f w ⟨m,j,i,d,e,h,hf,c,a2⟩
 obtain ⟨av,rfl⟩:=iA _ _ hf
 clear hf
 subst a2
 replace l:=gi l
 replace l:=pi l
 replace l:=pi l
 refine q (g (s (nC r) (s (mi r) (s (Ob r r) (nU (jP c [[V 0,V j,T be,V 0]] ([(⟨0,j,be,0⟩:jX)]:List jX) (Kh r) r r (by decide) ⟨r,y⟩) ?_)))))
 rintro _ ah ⟨ai,rfl,c⟩
 obtain ⟨aj,J,l⟩:=bs l
 refine nU (kP c 1 1 r r Cr pQ r (by decide) (by decide) (Nat.le_refl _) r r (c.zP 0 0 r r) J) ?_
 rintro _ ak ⟨a3,a4,a5,rfl,c⟩
 refine s (nk r) (s (xi r) (s (xi r) (n (kT ?_))))
 obtain rfl:=sm l
 refine xH r (lq r) (lq r) (lq r) ?_
 exact mM (mM (⟨a3,a4,a5,r,(c.ad [1] [1])⟩))
abbrev Df:=Int→Option (ByteArray)
def yh (m:Int→Option (BA)):Prop:=∀ {a:World} {d:Nat→Prop} {b:Int}  {c:BA},Pre a d [] []→m b=some c→
 Calls Try.prog 79 #[V b] a (qW fun v w=>v=T c∧Bx a w d (lT []) [] [])
def xu (fu:Nat)(r_r03_Digits:Df) (a:Int):Option (BA):=
 if a < 0 then
  if a=(-9223372036854775808) then
   some (⟨#[45,57,50,50,51,51,55,50,48,51,54,56,53,52,55,55,53,56,48,56]⟩:BA)
  else
   (r_r03_Digits (wr (0 - a))).bind fun c=>
   (cat (⟨#[45]⟩:BA) c).bind fun f=>
   some f
 else
  if a < 10 then
   some (YG ([⟨(w8 (wr (48+a)))⟩]:List DF))
  else
   (r_r03_Digits (wr (a.tdiv 10))).bind fun d=>
   (r_r03_Digits (a.tmod 10)).bind fun b=>
   (cat d b).bind fun e=>
   some e
def Bd:Nat→(Int→Option (BA))
 | 0=>(fun _=>none)
 | fu+1=>xu fu (Bd fu)
def ru (fu:Nat):=(Bd fu)
theorem Hu (fu:Nat)(r_r03_Digits:Df) (H_r03_Digits:yh r_r03_Digits):yh (xu fu r_r03_Digits):=by
 intro x F e z m a
 unfold xu at a
 have b:=m.bx
 clear m
 generalize A:lT _=G at b ⊢
 refine cf Try.func79 r ?_
 refine lK [(0,V e)] ⟨r,y⟩ fun H=>?_
 refine q (g (s (mF r) (n (q (q (g (s (mi r) (s (qo r r) (n ?_)))))))))
 rcases iv a with ⟨f,a⟩|⟨f,a⟩
 ·refine jN (bt f) (q (q (g (s (mi r) (s (kD r r) (n ?_))))))
  rcases iv a with ⟨h,a⟩|⟨h,a⟩
  ·refine jN (bt h) (q (g (s (mF r) (n (kT ?_)))))
   obtain rfl:=sm a
   refine jI r (lq r) ?_
   exact ⟨r,b⟩
  refine jK (bf h) (wk (q (g (s (mi r) (s (vW r r) ?_)))))
  obtain ⟨o,t,a⟩:=bs a
  have hc:=H_r03_Digits (b.pr [] [] [] r)  t
  refine sc (ec Io r) hc ?_
  rintro _ B ⟨rfl,c⟩
  replace b:=b.cl [] [] r c r
  try dsimp only [pick,nth,ca,na] at b
  obtain ⟨C,i,a⟩:=bs a
  refine s (lM r r i) (s (mF r) (n (kT ?_)))
  obtain rfl:=sm a
  refine jI r (lq r) ?_
  exact ⟨r,b⟩
 refine jK (bf f) (wk (q (q (g (s (mi r) (s (qo r r) (n ?_)))))))
 rcases iv a with ⟨j,a⟩|⟨j,a⟩
 ·refine jN (bt j) (q (g (s (mi r) (s (kE r r) (s (YT ⟨_,EC⟩ Yw r) (nU (jP b [[.int .u8 (w8 (wr (48+e)))]] ([⟨(w8 (wr (48+e)))⟩]:List DF) (OB r) r r (by decide) ⟨r,y⟩) ?_))))))
  rintro _ D ⟨E,rfl,b⟩
  refine s (ZE NC Yw uq r (b.vw 0 0 r r)) (s (mF r) (n (kT ?_)))
  obtain rfl:=sm a
  refine jI r (lq r) ?_
  exact ⟨r,(b.ad [] [])⟩
 refine jK (bf j) (wk (q (g (s (mi r) (s (SQ r r (by decide)) ?_)))))
 obtain ⟨p,u,a⟩:=bs a
 have hc:=H_r03_Digits (b.pr [] [] [] r)  u
 refine sc (ec Io r) hc ?_
 rintro _ w8 ⟨rfl,c⟩
 replace b:=b.cl [] [] r c r
 try dsimp only [pick,nth,ca,na] at b
 refine s (mi r) (s (Pm r r (by decide)) ?_)
 obtain ⟨k,l,a⟩:=bs a
 have hc:=H_r03_Digits (b.pr [] [] [] r)  l
 refine sc (ec Io r) hc ?_
 rintro _ v ⟨rfl,c⟩
 replace b:=b.cl [] [] r c r
 try dsimp only [pick,nth,ca,na] at b
 obtain ⟨w,d,a⟩:=bs a
 refine s (lM r r d) (s (mF r) (n (kT ?_)))
 obtain rfl:=sm a
 refine jI r (lq r) ?_
 exact ⟨r,b⟩
theorem Fe (fu:Nat):yh (ru fu):=by
 induction fu with
 | zero=>exact by intro a b;intros;exact nn (by assumption)
 | succ fu ih=>exact Hu fu (ru fu) ih
theorem zZ (fu:Nat):yh (ru fu):=(Fe fu)
end
end Go.Proofs.Ytfglbdkfnphjgaa
