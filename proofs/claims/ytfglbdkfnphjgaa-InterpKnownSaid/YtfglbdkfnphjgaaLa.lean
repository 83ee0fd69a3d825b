/- Contracts, printed by gen3.py. -/
import Derived.Test.YtfglbdkfnphjgaaZ5
import Derived.Test.YtfglbdkfnphjgaaLt
set_option linter.unusedVariables false
set_option maxHeartbeats 12800000
set_option linter.unusedSimpArgs false
set_option maxRecDepth 4000
namespace Go.Proofs.Ytfglbdkfnphjgaa
open Go.RowKit Go.Fw
noncomputable section
def MH (m:Int→Int→Option (Int)):Prop:=∀ {a:World} {e:Nat→Prop} {b:Int} {c:Int}  {d:Int},Pre a e [] []→m b c=some d→
 Calls Try.prog 16 #[V b,V c] a (qQ fun v w=>v=V d∧Bx a w e (lS []) [] [])
def zm (fu:Nat)(b:Int)(a:Int):Option (Int):=
 if a=0 then
  none
 else
  if (b.tmod a) < 0 then
   some (wr ((b.tmod a)+a))
  else
   some (b.tmod a)
theorem EJ (fu:Nat):MH (zm fu):=by
 intro i l e f j d a
 unfold zm at a
 have b:=d.bx
 clear d
 generalize k:lS _=G at b ⊢
 refine cf Try.func16 r ?_
 refine lM [(0,V e),(1,V f)] ⟨r,r,y⟩ fun m=>?_
 refine q (g (s (xi r) (n (q (g (s (mi r) (s (mi r) ?_)))))))
 rcases iv a with ⟨_,a⟩|⟨h,a⟩
 · exact nn a
 refine s (PZ r r h) (s (xi r) (n (q (q (g (s (mi r) (s (qo r r) (n ?_))))))))
 rcases iv a with ⟨c,a⟩|⟨c,a⟩
 ·refine jJ (bt c) (g (s (mi r) (s (mi r) (s (kJ r r) (s (xi r) (n (q (g (s (mi r) (s (xi r) (n (kU ?_))))))))))))
  obtain rfl:=sm a
  refine jB r (lq r) ?_
  exact ⟨r,b⟩
 refine jD (bf c) (wk (q (g (s (mi r) (s (xi r) (n (kU ?_)))))))
 obtain rfl:=sm a
 refine jB r (lq r) ?_
 exact ⟨r,b⟩
def Ko (m:jH→Int→Option (Int × jH)):Prop:=∀ {f:World} {j:Nat→Prop} {e:jH} {h:Int} {c:Nat} {a:Option Addr} {b:Nat} {R:Int × jH},Pre f j [.box c 132 #[Z a e.l b,V e.a]] [.l a b e.l]→m e h=some R→
 Calls Try.prog 57 #[Pt c,V h] f (qQ fun v w=>jy R fun i d=>v=V i∧Bx f w j (lS [.box c 132 #[Z a e.l b,V e.a]]) [.box c 132 #[Z a d.l b,V d.a]] [.l a b d.l])
def kC (fu:Nat)(a:jH) (c:Int):Option (Int × jH):=
 if (a.l.length:Int)≤a.a then
  some (0,a)
 else
  (ix a.l (wr ((wr (a.a+1)) - 1))).bind fun d=>
  (zm fu d c).bind fun b=>
  some (b,(⟨a.l,(wr (a.a+1))⟩:jH))
theorem jX (fu:Nat):Ko (kC fu):=by
 intro A F j v m c d R t e
 unfold kC at e
 have b:=t.bx
 clear t
 generalize B:lS _=G at b ⊢
 refine cf Try.func57 r ?_
 refine lM [(0,Pt m),(1,V v)] ⟨r,r,y⟩ fun H=>?_
 refine q (g (s (xi r) (n (q (q (qc b [0] [] [] (by kernel_rfl) ?_))))))
 replace b:=b.drew
 have a:=(b.dp [])
 refine pF 0 r (mp r) a (pF 1 r (xn r) a (pF 2 r (F6 r) a (uF 3 r (fun hS=>l3 r (hS.bk 0 r) r) a (pF 4 r (mp r) a (pF 5 r (xn r) a (pF 6 r (Md r) a (uF 7 r (fun hS=>QM r (hS.bk 0 r) r) a (pF 8 r (lF sH r) a (pF 9 r (AX r r) a (hD ?_))))))))))
 rcases iv e with ⟨o,e⟩|⟨o,e⟩
 ·refine jJ (bt o) (q (g (s (xi r) (n (kU ?_)))))
  obtain rfl:=sm e
  refine jB r (lq r) ?_
  exact mJ (⟨r,b⟩)
 refine jD (bf o) (wk (q (g (s (mp r) (s (xn r) (s (F6 r) (s (l3 r (b.bk 0 r) r) (s (kJ r r) (s (xn r) (s (F6 r) (kZ (tb b 0 [V (wr (j.a+1))] r mP r r r r r (show _=#[Z c j.l d,V (wr (j.a+1))] from r)) ?_)))))))))))
 intro C b
 try dsimp only [List.set] at b
 refine n (q (qc b [0] [0] [] (by kernel_rfl) ?_))
 replace b:=b.drew
 have a:=b
 refine pF 0 r (mp r) a (pF 1 r (xn r) a (pF 2 r (Md r) a (uF 3 r (fun hS=>QM r (hS.bk 0 r) r) a (pF 4 r (mp r) a (pF 5 r (xn r) a (pF 6 r (F6 r) a (uF 7 r (fun hS=>l3 r (hS.bk 0 r) r) a (pF 8 r (xJ r r) a ?_))))))))
 obtain ⟨w,f,e⟩:=bs e
 obtain ⟨D,p,f⟩:=kR f
 refine pF 9 r (kW sH mP r r p (b.dl 0 r) f) a (tU 10 r (fun _ hS=>jP F8 r r ((uK (ds:=[V w]) (hS.dl 0 r) f (fun _ h=>h)) 0 _ r)) (sF a) (pF 11 r (mi r) a ?_))
 obtain ⟨u,x,e⟩:=bs e
 have hc:=(EJ fu) (b.pr [] [0] [] r)  x
 refine hO 12 (oc r r (ec SQ r) hc ?_)
 rintro _ E ⟨rfl,z⟩
 replace b:=b.cl [] [0] r z r
 try dsimp only [pick,nth,ca,na] at b
 have a:=b
 refine ⟨(sF a),?_⟩
 refine pF 13 r (xi r) a (hD (kU ?_))
 obtain rfl:=sm e
 refine jB r (lq r) ?_
 exact mJ (⟨r,b⟩)
def KE (m:jH→Option (Bool)):Prop:=∀ {e:World} {h:Nat→Prop} {c:jH} {d:Nat} {a:Option Addr} {b:Nat} {f:Bool},Pre e h [.box d 132 #[Z a c.l b,V c.a]] [.l a b c.l]→m c=some f→
 Calls Try.prog 81 #[Pt d] e (qQ fun v w=>v=.bool f∧Bx e w h (lS [.box d 132 #[Z a c.l b,V c.a]]) [.box d 132 #[Z a c.l b,V c.a]] [.l a b c.l])
def Aw (fu:Nat)(a:jH):Option (Bool):=
 some (decide (a.a < (a.l.length:Int)))
theorem JN (fu:Nat):KE (Aw fu):=by
 intro m t f e b c o h j
 unfold Aw at j
 have d:=h.bx
 clear h
 generalize p:lS _=G at d ⊢
 refine cf Try.func81 r ?_
 refine lM [(0,Pt e)] ⟨r,y⟩ fun u=>?_
 refine q (g (s (ko r) (n (q (qc d [0] [] [] (by kernel_rfl) ?_)))))
 replace d:=d.drew
 have a:=(d.dp [])
 refine pF 0 r (mp r) a (pF 1 r (xn r) a (pF 2 r (F6 r) a (uF 3 r (fun hS=>l3 r (hS.bk 0 r) r) a (pF 4 r (mp r) a (pF 5 r (xn r) a (pF 6 r (Md r) a (uF 7 r (fun hS=>QM r (hS.bk 0 r) r) a (pF 8 r (lF sH r) a (pF 9 r (qo r r) a (pF 10 r (ko r) a (hD (kU ?_))))))))))))
 obtain rfl:=sm j
 refine jB r (lq r) ?_
 exact ⟨r,d⟩
def GX (m:jH→Option (Int × jH)):Prop:=∀ {f:World} {i:Nat→Prop} {e:jH} {c:Nat} {a:Option Addr} {b:Nat} {R:Int × jH},Pre f i [.box c 132 #[Z a e.l b,V e.a]] [.l a b e.l]→m e=some R→
 Calls Try.prog 109 #[Pt c] f (qQ fun v w=>jy R fun h d=>v=V h∧Bx f w i (lS [.box c 132 #[Z a e.l b,V e.a]]) [.box c 132 #[Z a d.l b,V d.a]] [.l a b d.l])
def wm (fu:Nat)(c:jH):Option (Int × jH):=
 (kC fu c ((([0,1,2,3,5,7,4,10,100,1048576,2147483648,1099511627776,999999999999999999,6,8,9]:List Int).length:Nat):Int)).bind fun e=>
 jy e fun a b=>
 (ix ([0,1,2,3,5,7,4,10,100,1048576,2147483648,1099511627776,999999999999999999,6,8,9]:List Int) a).bind fun d=>
 some (d,b)
theorem Gd (fu:Nat):GX (wm fu):=by
 intro v C j f d e R k c
 unfold wm at c
 have a:=k.bx
 clear k
 generalize w:lS _=G at a ⊢
 refine cf Try.func109 r ?_
 refine lM [(0,Pt f)] ⟨r,y⟩ fun D=>?_
 refine q (g (s (xi r) (n (q (g (nM (jN a [[V 0],[V 1],[V 2],[V 3],[V 5],[V 7],[V 4],[V 10],[V 100],[V 1048576],[V 2147483648],[V 1099511627776],[V 999999999999999999],[V 6],[V 8],[V 9]] ([0,1,2,3,5,7,4,10,100,1048576,2147483648,1099511627776,999999999999999999,6,8,9]:List Int) (NU r r r r r r r r r r r r r r r r) r r (by decide) ⟨r,⟨r,⟨r,⟨r,⟨r,⟨r,⟨r,⟨r,⟨r,⟨r,⟨r,⟨r,⟨r,⟨r,⟨r,⟨r,y⟩⟩⟩⟩⟩⟩⟩⟩⟩⟩⟩⟩⟩⟩⟩⟩) ?_))))))
 rintro _ x ⟨z,rfl,a⟩
 refine s (mG r) (n (q (g (s (nL r) (s (mp r) (s (nL r) (s (lF sH r) ?_)))))))
 obtain ⟨⟨m,o⟩,p,c⟩:=bs c
 replace c:=pi c
 have hc:=(jX fu) (a.pr [1] [0] [1] r)  p
 refine sc (ec nR r) hc ?_
 rintro _ A ⟨rfl,t⟩
 replace a:=a.cl [1] [0] r t r
 try dsimp only [pick,nth,ca,na] at a
 obtain ⟨u,b,c⟩:=bs c
 obtain ⟨B,i,b⟩:=kR b
 refine s (kW sH mP r r i (a.vw 1 1 r r) b) (s (jP F8 r r ((uK (ds:=[V u]) (a.vw 1 1 r r) b (fun _ h=>h)) 0 _ r)) (s (xi r) (n (kU ?_))))
 obtain rfl:=sm c
 refine jB r (lq r) ?_
 exact mJ (⟨r,(a.ad [0] [0])⟩)
def G5 (m:Int→Option (Bool)):Prop:=∀ {a:World} {d:Nat→Prop} {b:Int}  {c:Bool},Pre a d [] []→m b=some c→
 Calls Try.prog 89 #[.int .u8 b] a (qQ fun v w=>v=.bool c∧Bx a w d (lS []) [] [])
def q8 (fu:Nat)(a:Int):Option (Bool):=
 if 97≤a then
  if a≤122 then
   some true
  else
   if 65≤a then
    if a≤90 then
     some true
    else
     some (decide (a=95))
   else
    some (decide (a=95))
 else
  if 65≤a then
   if a≤90 then
    some true
   else
    some (decide (a=95))
  else
   some (decide (a=95))
theorem zZ (fu:Nat):G5 (q8 fu):=by
 intro l p k m j a
 unfold q8 at a
 have b:=j.bx
 clear j
 generalize o:lS _=G at b ⊢
 refine cf Try.func89 r ?_
 refine lM [(0,.int .u8 k)] ⟨r,y⟩ fun t=>?_
 refine q (g (s (ko r) (n (q (g (s (mi r) (s (AX r r) (s (kQ r) ?_))))))))
 rcases iv a with ⟨c,a⟩|⟨c,a⟩
 ·rw [decide_eq_true c]
  refine ku r (s (mi r) (ku r (s (Ii r r) (s (kG r r) (s (kQ r) ?_)))))
  rcases iv a with ⟨d,a⟩|⟨d,a⟩
  ·rw [decide_eq_true d]
   refine jL r (jL r (jL r (jL r (jL r (jL r (s (kG r r) (s (kQ r) (jL r (jL r (s (kG r r) (s (ko r) (n (kU ?_)))))))))))))
   obtain rfl:=sm a
   refine jB r (lq r) ?_
   exact ⟨r,b⟩
  rw [decide_eq_false d]
  refine ku r (s (mi r) (ku r (s (AX r r) (ku r (s (kQ r) ?_)))))
  rcases iv a with ⟨e,a⟩|⟨e,a⟩
  ·rw [decide_eq_true e]
   refine ku r (s (mi r) (ku r (s (Ii r r) (ku r (s (kG r r) (s (jZ r r) (s (kQ r) ?_)))))))
   rcases iv a with ⟨f,a⟩|⟨f,a⟩
   ·rw [decide_eq_true f]
    refine jL r (jL r (s (kG r r) (s (ko r) (n (kU ?_)))))
    obtain rfl:=sm a
    refine jB r (lq r) ?_
    exact ⟨r,b⟩
   rw [decide_eq_false f]
   refine ku r (s (mi r) (ku r (s (kH r r) (s (jZ r r) (s (ko r) (n (kU ?_)))))))
   obtain rfl:=sm a
   refine jB r (lq r) ?_
   exact ⟨r,b⟩
  rw [decide_eq_false e]
  refine jL r (jL r (ku r (s (jZ r r) (s (jZ r r) (s (kQ r) (ku r (s (mi r) (ku r (s (kH r r) (s (jZ r r) (s (ko r) (n (kU ?_)))))))))))))
  obtain rfl:=sm a
  refine jB r (lq r) ?_
  exact ⟨r,b⟩
 rw [decide_eq_false c]
 refine jL r (jL r (s (jZ r r) (s (kQ r) (ku r (s (mi r) (ku r (s (AX r r) (ku r (s (kQ r) ?_)))))))))
 rcases iv a with ⟨h,a⟩|⟨h,a⟩
 ·rw [decide_eq_true h]
  refine ku r (s (mi r) (ku r (s (Ii r r) (ku r (s (kG r r) (s (jZ r r) (s (kQ r) ?_)))))))
  rcases iv a with ⟨i,a⟩|⟨i,a⟩
  ·rw [decide_eq_true i]
   refine jL r (jL r (s (kG r r) (s (ko r) (n (kU ?_)))))
   obtain rfl:=sm a
   refine jB r (lq r) ?_
   exact ⟨r,b⟩
  rw [decide_eq_false i]
  refine ku r (s (mi r) (ku r (s (kH r r) (s (jZ r r) (s (ko r) (n (kU ?_)))))))
  obtain rfl:=sm a
  refine jB r (lq r) ?_
  exact ⟨r,b⟩
 rw [decide_eq_false h]
 refine jL r (jL r (ku r (s (jZ r r) (s (jZ r r) (s (kQ r) (ku r (s (mi r) (ku r (s (kH r r) (s (jZ r r) (s (ko r) (n (kU ?_)))))))))))))
 obtain rfl:=sm a
 refine jB r (lq r) ?_
 exact ⟨r,b⟩
def Iu (m:Int→Option (Bool)):Prop:=∀ {a:World} {d:Nat→Prop} {b:Int}  {c:Bool},Pre a d [] []→m b=some c→
 Calls Try.prog 90 #[.int .u8 b] a (qQ fun v w=>v=.bool c∧Bx a w d (lS []) [] [])
def uE (fu:Nat)(a:Int):Option (Bool):=
 if 48≤a then
  some (decide (a≤57))
 else
  some false
theorem AQ (fu:Nat):Iu (uE fu):=by
 intro f j e h d a
 unfold uE at a
 have b:=d.bx
 clear d
 generalize i:lS _=G at b ⊢
 refine cf Try.func90 r ?_
 refine lM [(0,.int .u8 e)] ⟨r,y⟩ fun k=>?_
 refine q (g (s (ko r) (n (q (g (s (mi r) (s (AX r r) (s (kQ r) ?_))))))))
 rcases iv a with ⟨c,a⟩|⟨c,a⟩
 ·rw [decide_eq_true c]
  refine ku r (s (mi r) (ku r (s (Ii r r) (s (kG r r) (s (ko r) (n (kU ?_)))))))
  obtain rfl:=sm a
  refine jB r (lq r) ?_
  exact ⟨r,b⟩
 rw [decide_eq_false c]
 refine jL r (jL r (s (jZ r r) (s (ko r) (n (kU ?_)))))
 obtain rfl:=sm a
 refine jB r (lq r) ?_
 exact ⟨r,b⟩
def Eh (m:BA→Option (Bool)):Prop:=∀ {a:World} {d:Nat→Prop} {b:BA}  {c:Bool},Pre a d [] []→m b=some c→
 Calls Try.prog 91 #[T b] a (qQ fun v w=>v=.bool c∧Bx a w d (lS []) [] [])
def oD (fu:Nat)(a:BA):List BA→Nat→Option (Ld (Unit) (Bool))
 | [],_=>some (.go ())
 | b :: c,d=>
 if b=a then
  some (.out true)
 else
  oD fu a c (d+1)
def uq (fu:Nat)(a:BA):Option (Bool):=
 (oD fu a ([(⟨#[114,101,99,111,114,100]⟩:BA),(⟨#[102,117,110,99]⟩:BA),(⟨#[118,97,114]⟩:BA),(⟨#[105,110,116]⟩:BA),(⟨#[105,102]⟩:BA),(⟨#[101,108,115,101]⟩:BA),(⟨#[119,104,105,108,101]⟩:BA),(⟨#[114,101,116,117,114,110]⟩:BA),(⟨#[116,104,114,111,119]⟩:BA),(⟨#[116,114,121]⟩:BA),(⟨#[99,97,116,99,104]⟩:BA),(⟨#[112,114,105,110,116]⟩:BA)]:List BA) 0).bind fun b=>b.el (fun _=>
 some false
 ) (fun o=>some o)
theorem Ej (fu:Nat):Eh (uq fu):=by
 intro j I k C v d
 unfold uq at d
 have b:=v.bx
 clear v
 generalize D:lS _=G at b ⊢
 refine cf Try.func91 r ?_
 refine lM [(0,T k)] ⟨r,y⟩ fun J=>?_
 refine q (g (s (ko r) (n (q (q (g (nM (jN b [[T (⟨#[114,101,99,111,114,100]⟩:BA)],[T (⟨#[102,117,110,99]⟩:BA)],[T (⟨#[118,97,114]⟩:BA)],[T (⟨#[105,110,116]⟩:BA)],[T (⟨#[105,102]⟩:BA)],[T (⟨#[101,108,115,101]⟩:BA)],[T (⟨#[119,104,105,108,101]⟩:BA)],[T (⟨#[114,101,116,117,114,110]⟩:BA)],[T (⟨#[116,104,114,111,119]⟩:BA)],[T (⟨#[116,114,121]⟩:BA)],[T (⟨#[99,97,116,99,104]⟩:BA)],[T (⟨#[112,114,105,110,116]⟩:BA)]] ([(⟨#[114,101,99,111,114,100]⟩:BA),(⟨#[102,117,110,99]⟩:BA),(⟨#[118,97,114]⟩:BA),(⟨#[105,110,116]⟩:BA),(⟨#[105,102]⟩:BA),(⟨#[101,108,115,101]⟩:BA),(⟨#[119,104,105,108,101]⟩:BA),(⟨#[114,101,116,117,114,110]⟩:BA),(⟨#[116,104,114,111,119]⟩:BA),(⟨#[116,114,121]⟩:BA),(⟨#[99,97,116,99,104]⟩:BA),(⟨#[112,114,105,110,116]⟩:BA)]:List BA) (DU r r r r r r r r r r r r) r r (by decide) ⟨r,⟨r,⟨r,⟨r,⟨r,⟨r,⟨r,⟨r,⟨r,⟨r,⟨r,⟨r,y⟩⟩⟩⟩⟩⟩⟩⟩⟩⟩⟩⟩) ?_)))))))
 rintro _ E ⟨m,rfl,b⟩
 refine s (lF kP r) (s (mi r) (n ?_))
 have z:=(b.vw 0 0 r r).bd
 obtain ⟨x,a,d⟩:=bs d
 refine nT (fun f w=>Has f []∧Bx j w I G [O j.heap.size (ad m) 12 9 BA [[T (⟨#[114,101,99,111,114,100]⟩:BA)],[T (⟨#[102,117,110,99]⟩:BA)],[T (⟨#[118,97,114]⟩:BA)],[T (⟨#[105,110,116]⟩:BA)],[T (⟨#[105,102]⟩:BA)],[T (⟨#[101,108,115,101]⟩:BA)],[T (⟨#[119,104,105,108,101]⟩:BA)],[T (⟨#[114,101,116,117,114,110]⟩:BA)],[T (⟨#[116,104,114,111,119]⟩:BA)],[T (⟨#[116,114,121]⟩:BA)],[T (⟨#[99,97,116,99,104]⟩:BA)],[T (⟨#[112,114,105,110,116]⟩:BA)]]] [.els [[T (⟨#[114,101,99,111,114,100]⟩:BA)],[T (⟨#[102,117,110,99]⟩:BA)],[T (⟨#[118,97,114]⟩:BA)],[T (⟨#[105,110,116]⟩:BA)],[T (⟨#[105,102]⟩:BA)],[T (⟨#[101,108,115,101]⟩:BA)],[T (⟨#[119,104,105,108,101]⟩:BA)],[T (⟨#[114,101,116,117,114,110]⟩:BA)],[T (⟨#[116,104,114,111,119]⟩:BA)],[T (⟨#[116,114,121]⟩:BA)],[T (⟨#[99,97,116,99,104]⟩:BA)],[T (⟨#[112,114,105,110,116]⟩:BA)]] ([(⟨#[114,101,99,111,114,100]⟩:BA),(⟨#[102,117,110,99]⟩:BA),(⟨#[118,97,114]⟩:BA),(⟨#[105,110,116]⟩:BA),(⟨#[105,102]⟩:BA),(⟨#[101,108,115,101]⟩:BA),(⟨#[119,104,105,108,101]⟩:BA),(⟨#[114,101,116,117,114,110]⟩:BA),(⟨#[116,104,114,111,119]⟩:BA),(⟨#[116,114,121]⟩:BA),(⟨#[99,97,116,99,104]⟩:BA),(⟨#[112,114,105,110,116]⟩:BA)]:List BA)]∧Ld.go ()=x) (fun F o=>?_) ?_
 ·refine nS (kE (fun K f w=>∃ (c:Nat),K=([(⟨#[114,101,99,111,114,100]⟩:BA),(⟨#[102,117,110,99]⟩:BA),(⟨#[118,97,114]⟩:BA),(⟨#[105,110,116]⟩:BA),(⟨#[105,102]⟩:BA),(⟨#[101,108,115,101]⟩:BA),(⟨#[119,104,105,108,101]⟩:BA),(⟨#[114,101,116,117,114,110]⟩:BA),(⟨#[116,104,114,111,119]⟩:BA),(⟨#[116,114,121]⟩:BA),(⟨#[99,97,116,99,104]⟩:BA),(⟨#[112,114,105,110,116]⟩:BA)]:List BA).length - c∧c≤([(⟨#[114,101,99,111,114,100]⟩:BA),(⟨#[102,117,110,99]⟩:BA),(⟨#[118,97,114]⟩:BA),(⟨#[105,110,116]⟩:BA),(⟨#[105,102]⟩:BA),(⟨#[101,108,115,101]⟩:BA),(⟨#[119,104,105,108,101]⟩:BA),(⟨#[114,101,116,117,114,110]⟩:BA),(⟨#[116,104,114,111,119]⟩:BA),(⟨#[116,114,121]⟩:BA),(⟨#[99,97,116,99,104]⟩:BA),(⟨#[112,114,105,110,116]⟩:BA)]:List BA).length∧Has f [(7,V (c:Int)),(0,T k),(5,.slice (ad m) ([(⟨#[114,101,99,111,114,100]⟩:BA),(⟨#[102,117,110,99]⟩:BA),(⟨#[118,97,114]⟩:BA),(⟨#[105,110,116]⟩:BA),(⟨#[105,102]⟩:BA),(⟨#[101,108,115,101]⟩:BA),(⟨#[119,104,105,108,101]⟩:BA),(⟨#[114,101,116,117,114,110]⟩:BA),(⟨#[116,104,114,111,119]⟩:BA),(⟨#[116,114,121]⟩:BA),(⟨#[99,97,116,99,104]⟩:BA),(⟨#[112,114,105,110,116]⟩:BA)]:List BA).length 12),(6,V ((([(⟨#[114,101,99,111,114,100]⟩:BA),(⟨#[102,117,110,99]⟩:BA),(⟨#[118,97,114]⟩:BA),(⟨#[105,110,116]⟩:BA),(⟨#[105,102]⟩:BA),(⟨#[101,108,115,101]⟩:BA),(⟨#[119,104,105,108,101]⟩:BA),(⟨#[114,101,116,117,114,110]⟩:BA),(⟨#[116,104,114,111,119]⟩:BA),(⟨#[116,114,121]⟩:BA),(⟨#[99,97,116,99,104]⟩:BA),(⟨#[112,114,105,110,116]⟩:BA)]:List BA).length:Nat):Int))]∧Bx j w I G [O j.heap.size (ad m) 12 9 BA [[T (⟨#[114,101,99,111,114,100]⟩:BA)],[T (⟨#[102,117,110,99]⟩:BA)],[T (⟨#[118,97,114]⟩:BA)],[T (⟨#[105,110,116]⟩:BA)],[T (⟨#[105,102]⟩:BA)],[T (⟨#[101,108,115,101]⟩:BA)],[T (⟨#[119,104,105,108,101]⟩:BA)],[T (⟨#[114,101,116,117,114,110]⟩:BA)],[T (⟨#[116,104,114,111,119]⟩:BA)],[T (⟨#[116,114,121]⟩:BA)],[T (⟨#[99,97,116,99,104]⟩:BA)],[T (⟨#[112,114,105,110,116]⟩:BA)]]] [.els [[T (⟨#[114,101,99,111,114,100]⟩:BA)],[T (⟨#[102,117,110,99]⟩:BA)],[T (⟨#[118,97,114]⟩:BA)],[T (⟨#[105,110,116]⟩:BA)],[T (⟨#[105,102]⟩:BA)],[T (⟨#[101,108,115,101]⟩:BA)],[T (⟨#[119,104,105,108,101]⟩:BA)],[T (⟨#[114,101,116,117,114,110]⟩:BA)],[T (⟨#[116,104,114,111,119]⟩:BA)],[T (⟨#[116,114,121]⟩:BA)],[T (⟨#[99,97,116,99,104]⟩:BA)],[T (⟨#[112,114,105,110,116]⟩:BA)]] ([(⟨#[114,101,99,111,114,100]⟩:BA),(⟨#[102,117,110,99]⟩:BA),(⟨#[118,97,114]⟩:BA),(⟨#[105,110,116]⟩:BA),(⟨#[105,102]⟩:BA),(⟨#[101,108,115,101]⟩:BA),(⟨#[119,104,105,108,101]⟩:BA),(⟨#[114,101,116,117,114,110]⟩:BA),(⟨#[116,104,114,111,119]⟩:BA),(⟨#[116,114,121]⟩:BA),(⟨#[99,97,116,99,104]⟩:BA),(⟨#[112,114,105,110,116]⟩:BA)]:List BA)]∧oD fu k (([(⟨#[114,101,99,111,114,100]⟩:BA),(⟨#[102,117,110,99]⟩:BA),(⟨#[118,97,114]⟩:BA),(⟨#[105,110,116]⟩:BA),(⟨#[105,102]⟩:BA),(⟨#[101,108,115,101]⟩:BA),(⟨#[119,104,105,108,101]⟩:BA),(⟨#[114,101,116,117,114,110]⟩:BA),(⟨#[116,104,114,111,119]⟩:BA),(⟨#[116,114,121]⟩:BA),(⟨#[99,97,116,99,104]⟩:BA),(⟨#[112,114,105,110,116]⟩:BA)]:List BA).drop c) c=some x) (([(⟨#[114,101,99,111,114,100]⟩:BA),(⟨#[102,117,110,99]⟩:BA),(⟨#[118,97,114]⟩:BA),(⟨#[105,110,116]⟩:BA),(⟨#[105,102]⟩:BA),(⟨#[101,108,115,101]⟩:BA),(⟨#[119,104,105,108,101]⟩:BA),(⟨#[114,101,116,117,114,110]⟩:BA),(⟨#[116,104,114,111,119]⟩:BA),(⟨#[116,114,121]⟩:BA),(⟨#[99,97,116,99,104]⟩:BA),(⟨#[112,114,105,110,116]⟩:BA)]:List BA).length) ⟨0,r,Nat.zero_le _,⟨r,r,r,r,y⟩,b,a⟩ ?_)
  clear b a
  rintro K f w ⟨c,rfl,A,hf,b,a⟩ H p
  obtain ⟨J,rfl⟩:=fV _ _ hf
  clear hf
  rcases Nat.lt_or_ge c ([(⟨#[114,101,99,111,114,100]⟩:BA),(⟨#[102,117,110,99]⟩:BA),(⟨#[118,97,114]⟩:BA),(⟨#[105,110,116]⟩:BA),(⟨#[105,102]⟩:BA),(⟨#[101,108,115,101]⟩:BA),(⟨#[119,104,105,108,101]⟩:BA),(⟨#[114,101,116,117,114,110]⟩:BA),(⟨#[116,104,114,111,119]⟩:BA),(⟨#[116,114,121]⟩:BA),(⟨#[99,97,116,99,104]⟩:BA),(⟨#[112,114,105,110,116]⟩:BA)]:List BA).length with i | i
  ·obtain ⟨B,e⟩:=lY (l:=([(⟨#[114,101,99,111,114,100]⟩:BA),(⟨#[102,117,110,99]⟩:BA),(⟨#[118,97,114]⟩:BA),(⟨#[105,110,116]⟩:BA),(⟨#[105,102]⟩:BA),(⟨#[101,108,115,101]⟩:BA),(⟨#[119,104,105,108,101]⟩:BA),(⟨#[114,101,116,117,114,110]⟩:BA),(⟨#[116,104,114,111,119]⟩:BA),(⟨#[116,114,121]⟩:BA),(⟨#[99,97,116,99,104]⟩:BA),(⟨#[112,114,105,110,116]⟩:BA)]:List BA)) i
   rw [lK e,oD] at a
   refine q (g (s (qz r r (by omega)) (n (q (jJ r (wk (q (nS (q (g (s (kW kP nX r r r (b.vw 0 0 r r) e) (s (jP uz r r ((uK (ds:=[T B]) (b.vw 0 0 r r) e (fun _ h=>h)) 0 _ r)) (s (mD r) ?_)))))))))))))
   refine n (q (g (s (kY r) (s (kY r) (s (rJ r r) (n ?_))))))
   rcases iv a with ⟨t,a⟩|⟨t,a⟩
   ·refine jJ (bt t) (q (g (s (ko r) (n (kU ?_)))))
    obtain rfl:=sm a
    replace d:=oi d
    obtain rfl:=sm d
    refine jB r (lq r) ?_
    exact ⟨r,(b.ad [] [])⟩
   refine jD (bf t) (wk (g (s (lU r r (by omega) (by omega)) (s (mi r) (n ?_)))))
   exact p (([(⟨#[114,101,99,111,114,100]⟩:BA),(⟨#[102,117,110,99]⟩:BA),(⟨#[118,97,114]⟩:BA),(⟨#[105,110,116]⟩:BA),(⟨#[105,102]⟩:BA),(⟨#[101,108,115,101]⟩:BA),(⟨#[119,104,105,108,101]⟩:BA),(⟨#[114,101,116,117,114,110]⟩:BA),(⟨#[116,104,114,111,119]⟩:BA),(⟨#[116,114,121]⟩:BA),(⟨#[99,97,116,99,104]⟩:BA),(⟨#[112,114,105,110,116]⟩:BA)]:List BA).length - (c+1)) _ _ (by omega) ⟨c+1,r,by omega,⟨r,r,r,r,y⟩,b,a⟩
  obtain rfl:c=([(⟨#[114,101,99,111,114,100]⟩:BA),(⟨#[102,117,110,99]⟩:BA),(⟨#[118,97,114]⟩:BA),(⟨#[105,110,116]⟩:BA),(⟨#[105,102]⟩:BA),(⟨#[101,108,115,101]⟩:BA),(⟨#[119,104,105,108,101]⟩:BA),(⟨#[114,101,116,117,114,110]⟩:BA),(⟨#[116,104,114,111,119]⟩:BA),(⟨#[116,114,121]⟩:BA),(⟨#[99,97,116,99,104]⟩:BA),(⟨#[112,114,105,110,116]⟩:BA)]:List BA).length:=by omega
  rw [lu,oD] at a
  refine q (g (s (qL r r (by omega)) (n (q (jD r (ug ?_))))))
  exact o _ _ ⟨y,b,sm a⟩
 clear b
 rintro f w ⟨hf,b,u⟩
 obtain ⟨J,rfl⟩:=fV _ _ hf
 clear hf
 subst u
 replace d:=gi d
 refine q (g (s (ko r) (n (kU ?_))))
 obtain rfl:=sm d
 refine jB r (lq r) ?_
 exact ⟨r,(b.ad [] [])⟩
def Kj (m:BA→Int→Option (BA)):Prop:=∀ {a:World} {e:Nat→Prop} {b:BA} {c:Int}  {d:BA},Pre a e [] []→m b c=some d→
 Calls Try.prog 92 #[T b,V c] a (qQ fun v w=>v=T d∧Bx a w e (lS []) [] [])
def rG (fu:Nat)(b:BA) (a:Int):List BA→Nat→Option (Ld (Unit) (BA))
 | [],_=>some (.go ())
 | c :: d,e=>
 (O7 b a (wr (a+2))).bind fun f=>
 if f=c then
  some (.out c)
 else
  rG fu b a d (e+1)
def yw (fu:Nat)(a:BA) (b:Int):Option (Ld (Unit) (BA)):=
 if (wr (b+1)) < (a.size:Int) then
  (rG fu a b ([(⟨#[60,61]⟩:BA),(⟨#[61,61]⟩:BA),(⟨#[33,61]⟩:BA)]:List BA) 0).bind fun c=>c.el (fun _=>
  some (.go ())
  ) (fun o=>some (.out o))
 else
  some (.go ())
def rF (fu:Nat)(b:BA) (a:Int):List Dv→Nat→Option (Ld (Unit) (BA))
 | [],_=>some (.go ())
 | e :: f,h=>
 (ixs b a).bind fun c=>
 if c=e.n then
  (O7 b a (wr (a+1))).bind fun d=>
  some (.out d)
 else
  rF fu b a f (h+1)
def zA (fu:Nat)(a:BA) (b:Int):Option (BA):=
 (yw fu a b).bind fun c=>c.el (fun _=>
 (rF fu a b ([⟨40⟩,⟨41⟩,⟨123⟩,⟨125⟩,⟨91⟩,⟨93⟩,⟨44⟩,⟨59⟩,⟨58⟩,⟨46⟩,⟨43⟩,⟨45⟩,⟨42⟩,⟨47⟩,⟨37⟩,⟨38⟩,⟨124⟩,⟨94⟩,⟨60⟩,⟨61⟩,⟨33⟩]:List Dv) 0).bind fun c=>c.el (fun _=>
 some (⟨#[]⟩:BA)
 ) (fun o=>some o)
 ) (fun o=>some o)
theorem JY (fu:Nat):Kj (zA fu):=by
 intro k ah m o r0 R e
 unfold zA at e
 have a:=R.bx
 clear R
 generalize hG:lS _=G at a ⊢
 refine cf Try.func92 r ?_
 refine lM [(0,T m),(1,V o)] ⟨r,r,y⟩ fun ai=>?_
 refine q (g (s (mD r) (n (q ?_))))
 obtain ⟨W,c,e⟩:=bs e
 refine nT (fun f w=>Has f [(0,T m),(1,V o)]∧Bx k w ah G [] []∧Ld.go ()=W) (fun J1 v=>?_) ?_
 ·unfold yw at c
  refine q (g (s (mi r) (s (kJ r r) (s (kY r) (s (BU uz r) (s (qo r r) (n ?_)))))))
  rcases iv c with ⟨C,c⟩|⟨C,c⟩
  ·refine jJ (bt C) (q (g (nM (jN a [[T (⟨#[60,61]⟩:BA)],[T (⟨#[61,61]⟩:BA)],[T (⟨#[33,61]⟩:BA)]] ([(⟨#[60,61]⟩:BA),(⟨#[61,61]⟩:BA),(⟨#[33,61]⟩:BA)]:List BA) (O8 r r r) r r (by decide) ⟨r,⟨r,⟨r,y⟩⟩⟩) ?_)))
   rintro _ w3 ⟨D,rfl,a⟩
   refine s (lF kP r) (s (mi r) (n ?_))
   have X:=(a.vw 0 0 r r).bd
   obtain ⟨S,d,c⟩:=bs c
   refine nT (fun f w=>Has f [(0,T m),(1,V o)]∧Bx k w ah G [O k.heap.size (ad D) 3 9 BA [[T (⟨#[60,61]⟩:BA)],[T (⟨#[61,61]⟩:BA)],[T (⟨#[33,61]⟩:BA)]]] [.els [[T (⟨#[60,61]⟩:BA)],[T (⟨#[61,61]⟩:BA)],[T (⟨#[33,61]⟩:BA)]] ([(⟨#[60,61]⟩:BA),(⟨#[61,61]⟩:BA),(⟨#[33,61]⟩:BA)]:List BA)]∧Ld.go ()=S) (fun J4 E=>?_) ?_
   ·refine nS (kE (fun aj f w=>∃ (i:Nat),aj=([(⟨#[60,61]⟩:BA),(⟨#[61,61]⟩:BA),(⟨#[33,61]⟩:BA)]:List BA).length - i∧i≤([(⟨#[60,61]⟩:BA),(⟨#[61,61]⟩:BA),(⟨#[33,61]⟩:BA)]:List BA).length∧Has f [(16,V (i:Int)),(0,T m),(1,V o),(14,.slice (ad D) ([(⟨#[60,61]⟩:BA),(⟨#[61,61]⟩:BA),(⟨#[33,61]⟩:BA)]:List BA).length 3),(15,V ((([(⟨#[60,61]⟩:BA),(⟨#[61,61]⟩:BA),(⟨#[33,61]⟩:BA)]:List BA).length:Nat):Int))]∧Bx k w ah G [O k.heap.size (ad D) 3 9 BA [[T (⟨#[60,61]⟩:BA)],[T (⟨#[61,61]⟩:BA)],[T (⟨#[33,61]⟩:BA)]]] [.els [[T (⟨#[60,61]⟩:BA)],[T (⟨#[61,61]⟩:BA)],[T (⟨#[33,61]⟩:BA)]] ([(⟨#[60,61]⟩:BA),(⟨#[61,61]⟩:BA),(⟨#[33,61]⟩:BA)]:List BA)]∧rG fu m o (([(⟨#[60,61]⟩:BA),(⟨#[61,61]⟩:BA),(⟨#[33,61]⟩:BA)]:List BA).drop i) i=some S) (([(⟨#[60,61]⟩:BA),(⟨#[61,61]⟩:BA),(⟨#[33,61]⟩:BA)]:List BA).length) ⟨0,r,Nat.zero_le _,⟨r,r,r,r,r,y⟩,a,d⟩ ?_)
    clear a d
    rintro aj f w ⟨i,rfl,Y,hf,a,d⟩ K4 F
    obtain ⟨ai,rfl⟩:=fV _ _ hf
    clear hf
    rcases Nat.lt_or_ge i ([(⟨#[60,61]⟩:BA),(⟨#[61,61]⟩:BA),(⟨#[33,61]⟩:BA)]:List BA).length with x | x
    ·obtain ⟨u4,p⟩:=lY (l:=([(⟨#[60,61]⟩:BA),(⟨#[61,61]⟩:BA),(⟨#[33,61]⟩:BA)]:List BA)) x
     rw [lK p,rG] at d
     refine q (g (s (qz r r (by omega)) (n (q (jJ r (wk (q (nS (q (g (s (kW kP nX r r r (a.vw 0 0 r r) p) (s (jP uz r r ((uK (ds:=[T u4]) (a.vw 0 0 r r) p (fun _ h=>h)) 0 _ r)) (s (mD r) ?_)))))))))))))
     refine n (q (g (s (kY r) (s (mi r) (s (mi r) (s (kJ r r) ?_))))))
     obtain ⟨g5,H,d⟩:=bs d
     refine s (Uf uz r r r H) (s (kY r) (s (rJ r r) (n ?_)))
     rcases iv d with ⟨I,d⟩|⟨I,d⟩
     ·refine jJ (bt I) (q (g (s (kY r) (s (mD r) (n (kU ?_))))))
      obtain rfl:=sm d
      replace c:=oi c
      obtain rfl:=sm c
      replace e:=oi e
      obtain rfl:=sm e
      refine jB r (lq r) ?_
      exact ⟨r,(a.ad [] [])⟩
     refine jD (bf I) (wk (g (s (lU r r (by omega) (by omega)) (s (mi r) (n ?_)))))
     exact F (([(⟨#[60,61]⟩:BA),(⟨#[61,61]⟩:BA),(⟨#[33,61]⟩:BA)]:List BA).length - (i+1)) _ _ (by omega) ⟨i+1,r,by omega,⟨r,r,r,r,r,y⟩,a,d⟩
    obtain rfl:i=([(⟨#[60,61]⟩:BA),(⟨#[61,61]⟩:BA),(⟨#[33,61]⟩:BA)]:List BA).length:=by omega
    rw [lu,rG] at d
    refine q (g (s (qL r r (by omega)) (n (q (jD r (ug ?_))))))
    exact E _ _ ⟨⟨r,r,y⟩,a,sm d⟩
   clear a
   rintro f w ⟨hf,a,J⟩
   obtain ⟨ai,rfl⟩:=fV _ _ hf
   clear hf
   subst J
   replace c:=gi c
   exact v _ _ ⟨⟨r,r,y⟩,(a.ad [] []),sm c⟩
  refine jD (bf C) (wk ?_)
  exact v _ _ ⟨⟨r,r,y⟩,a,sm c⟩
 clear a
 rintro f w ⟨hf,a,K⟩
 obtain ⟨ai,rfl⟩:=fV _ _ hf
 clear hf
 subst K
 replace e:=gi e
 refine q (q (g (nM (jN a [[.int .u8 40],[.int .u8 41],[.int .u8 123],[.int .u8 125],[.int .u8 91],[.int .u8 93],[.int .u8 44],[.int .u8 59],[.int .u8 58],[.int .u8 46],[.int .u8 43],[.int .u8 45],[.int .u8 42],[.int .u8 47],[.int .u8 37],[.int .u8 38],[.int .u8 124],[.int .u8 94],[.int .u8 60],[.int .u8 61],[.int .u8 33]] ([⟨40⟩,⟨41⟩,⟨123⟩,⟨125⟩,⟨91⟩,⟨93⟩,⟨44⟩,⟨59⟩,⟨58⟩,⟨46⟩,⟨43⟩,⟨45⟩,⟨42⟩,⟨47⟩,⟨37⟩,⟨38⟩,⟨124⟩,⟨94⟩,⟨60⟩,⟨61⟩,⟨33⟩]:List Dv) (LW r r r r r r r r r r r r r r r r r r r r r) r r (by decide) ⟨r,⟨r,⟨r,⟨r,⟨r,⟨r,⟨r,⟨r,⟨r,⟨r,⟨r,⟨r,⟨r,⟨r,⟨r,⟨r,⟨r,⟨r,⟨r,⟨r,⟨r,y⟩⟩⟩⟩⟩⟩⟩⟩⟩⟩⟩⟩⟩⟩⟩⟩⟩⟩⟩⟩⟩) ?_)))
 rintro _ w7 ⟨L,rfl,a⟩
 refine nM (Yj a 0 0 r r Nh Yb r) ?_
 rintro _ w8 ⟨rfl,a⟩
 try dsimp only [List.eraseIdx] at a
 refine s (lF Nh r) (s (mi r) (n ?_))
 have a1:=(a.dl 0 r).bd
 obtain ⟨U,b,e⟩:=bs e
 refine nT (fun f w=>Has f []∧Bx k w ah G [] [.l (ad L) 21 ([⟨40⟩,⟨41⟩,⟨123⟩,⟨125⟩,⟨91⟩,⟨93⟩,⟨44⟩,⟨59⟩,⟨58⟩,⟨46⟩,⟨43⟩,⟨45⟩,⟨42⟩,⟨47⟩,⟨37⟩,⟨38⟩,⟨124⟩,⟨94⟩,⟨60⟩,⟨61⟩,⟨33⟩]:List Dv)]∧Ld.go ()=U) (fun J9 M=>?_) ?_
 ·refine nS (kE (fun aj f w=>∃ (j:Nat),aj=([⟨40⟩,⟨41⟩,⟨123⟩,⟨125⟩,⟨91⟩,⟨93⟩,⟨44⟩,⟨59⟩,⟨58⟩,⟨46⟩,⟨43⟩,⟨45⟩,⟨42⟩,⟨47⟩,⟨37⟩,⟨38⟩,⟨124⟩,⟨94⟩,⟨60⟩,⟨61⟩,⟨33⟩]:List Dv).length - j∧j≤([⟨40⟩,⟨41⟩,⟨123⟩,⟨125⟩,⟨91⟩,⟨93⟩,⟨44⟩,⟨59⟩,⟨58⟩,⟨46⟩,⟨43⟩,⟨45⟩,⟨42⟩,⟨47⟩,⟨37⟩,⟨38⟩,⟨124⟩,⟨94⟩,⟨60⟩,⟨61⟩,⟨33⟩]:List Dv).length∧Has f [(32,V (j:Int)),(0,T m),(1,V o),(30,.slice (ad L) ([⟨40⟩,⟨41⟩,⟨123⟩,⟨125⟩,⟨91⟩,⟨93⟩,⟨44⟩,⟨59⟩,⟨58⟩,⟨46⟩,⟨43⟩,⟨45⟩,⟨42⟩,⟨47⟩,⟨37⟩,⟨38⟩,⟨124⟩,⟨94⟩,⟨60⟩,⟨61⟩,⟨33⟩]:List Dv).length 21),(31,V ((([⟨40⟩,⟨41⟩,⟨123⟩,⟨125⟩,⟨91⟩,⟨93⟩,⟨44⟩,⟨59⟩,⟨58⟩,⟨46⟩,⟨43⟩,⟨45⟩,⟨42⟩,⟨47⟩,⟨37⟩,⟨38⟩,⟨124⟩,⟨94⟩,⟨60⟩,⟨61⟩,⟨33⟩]:List Dv).length:Nat):Int))]∧Bx k w ah G [] [.l (ad L) 21 ([⟨40⟩,⟨41⟩,⟨123⟩,⟨125⟩,⟨91⟩,⟨93⟩,⟨44⟩,⟨59⟩,⟨58⟩,⟨46⟩,⟨43⟩,⟨45⟩,⟨42⟩,⟨47⟩,⟨37⟩,⟨38⟩,⟨124⟩,⟨94⟩,⟨60⟩,⟨61⟩,⟨33⟩]:List Dv)]∧rF fu m o (([⟨40⟩,⟨41⟩,⟨123⟩,⟨125⟩,⟨91⟩,⟨93⟩,⟨44⟩,⟨59⟩,⟨58⟩,⟨46⟩,⟨43⟩,⟨45⟩,⟨42⟩,⟨47⟩,⟨37⟩,⟨38⟩,⟨124⟩,⟨94⟩,⟨60⟩,⟨61⟩,⟨33⟩]:List Dv).drop j) j=some U) (([⟨40⟩,⟨41⟩,⟨123⟩,⟨125⟩,⟨91⟩,⟨93⟩,⟨44⟩,⟨59⟩,⟨58⟩,⟨46⟩,⟨43⟩,⟨45⟩,⟨42⟩,⟨47⟩,⟨37⟩,⟨38⟩,⟨124⟩,⟨94⟩,⟨60⟩,⟨61⟩,⟨33⟩]:List Dv).length) ⟨0,r,Nat.zero_le _,⟨r,r,r,r,r,y⟩,a,b⟩ ?_)
  clear a b
  rintro aj f w ⟨j,rfl,a2,hf,a,b⟩ K9 N
  obtain ⟨ai,rfl⟩:=fV _ _ hf
  clear hf
  rcases Nat.lt_or_ge j ([⟨40⟩,⟨41⟩,⟨123⟩,⟨125⟩,⟨91⟩,⟨93⟩,⟨44⟩,⟨59⟩,⟨58⟩,⟨46⟩,⟨43⟩,⟨45⟩,⟨42⟩,⟨47⟩,⟨37⟩,⟨38⟩,⟨124⟩,⟨94⟩,⟨60⟩,⟨61⟩,⟨33⟩]:List Dv).length with z | z
  ·obtain ⟨u9,t⟩:=lY (l:=([⟨40⟩,⟨41⟩,⟨123⟩,⟨125⟩,⟨91⟩,⟨93⟩,⟨44⟩,⟨59⟩,⟨58⟩,⟨46⟩,⟨43⟩,⟨45⟩,⟨42⟩,⟨47⟩,⟨37⟩,⟨38⟩,⟨124⟩,⟨94⟩,⟨60⟩,⟨61⟩,⟨33⟩]:List Dv)) z
   rw [lK t,rF] at b
   refine q (g (s (qz r r (by omega)) (n (q (jJ r (wk (q (nS (q (g (s (kW Nh ti5 r r r (a.dl 0 r) t) (s (jP Yb r r ((uK (ds:=[.int .u8 u9.n]) (a.dl 0 r) t (fun _ h=>h)) 0 _ r)) (s (xi r) ?_)))))))))))))
   refine n (q (g (s (kY r) (s (mi r) ?_))))
   obtain ⟨a4,A,b⟩:=bs b
   refine s (EC uz r r A) (s (mi r) (s (kH r r) (n ?_)))
   rcases iv b with ⟨u,b⟩|⟨u,b⟩
   ·refine jJ (bt u) (q (g (s (kY r) (s (mi r) (s (mi r) (s (kJ r r) ?_))))))
    obtain ⟨a5,B,b⟩:=bs b
    refine s (Uf uz r r r B) (s (mD r) (n (kU ?_)))
    obtain rfl:=sm b
    replace e:=oi e
    obtain rfl:=sm e
    refine jB r (lq r) ?_
    exact ⟨r,(a.dp [])⟩
   refine jD (bf u) (wk (g (s (lU r r (by omega) (by omega)) (s (mi r) (n ?_)))))
   exact N (([⟨40⟩,⟨41⟩,⟨123⟩,⟨125⟩,⟨91⟩,⟨93⟩,⟨44⟩,⟨59⟩,⟨58⟩,⟨46⟩,⟨43⟩,⟨45⟩,⟨42⟩,⟨47⟩,⟨37⟩,⟨38⟩,⟨124⟩,⟨94⟩,⟨60⟩,⟨61⟩,⟨33⟩]:List Dv).length - (j+1)) _ _ (by omega) ⟨j+1,r,by omega,⟨r,r,r,r,r,y⟩,a,b⟩
  obtain rfl:j=([⟨40⟩,⟨41⟩,⟨123⟩,⟨125⟩,⟨91⟩,⟨93⟩,⟨44⟩,⟨59⟩,⟨58⟩,⟨46⟩,⟨43⟩,⟨45⟩,⟨42⟩,⟨47⟩,⟨37⟩,⟨38⟩,⟨124⟩,⟨94⟩,⟨60⟩,⟨61⟩,⟨33⟩]:List Dv).length:=by omega
  rw [lu,rF] at b
  refine q (g (s (qL r r (by omega)) (n (q (jD r (ug ?_))))))
  exact M _ _ ⟨y,a,sm b⟩
 clear a
 rintro f w ⟨hf,a,Q⟩
 obtain ⟨ai,rfl⟩:=fV _ _ hf
 clear hf
 subst Q
 replace e:=gi e
 refine q (g (s (mD r) (n (kU ?_))))
 obtain rfl:=sm e
 refine jB r (lq r) ?_
 exact ⟨r,(a.dp [])⟩
def Lg (m:Int→Option (Int)):Prop:=∀ {a:World} {d:Nat→Prop} {b:Int}  {c:Int},Pre a d [] []→m b=some c→
 Calls Try.prog 106 #[V b] a (qQ fun v w=>v=V c∧Bx a w d (lS []) [] [])
def yB (fu:Nat)(a:Int):Option (Ld (Bool) (Int)):=
 if a=14 then
  some (.go (decide (a=14)))
 else
  if a=15 then
   some (.go (decide (a=15)))
  else
   if a=16 then
    some (.go (decide (a=16)))
   else
    some (.go (decide (a=17)))
def yC (fu:Nat)(a:Int):Option (Ld (Bool) (Int)):=
 if a=11 then
  some (.go (decide (a=11)))
 else
  if a=12 then
   some (.go (decide (a=12)))
  else
   some (.go (decide (a=13)))
def xW (fu:Nat)(a:Int):Option (Ld (Bool) (Int)):=
 if a=6 then
  some (.go (decide (a=6)))
 else
  some (.go (decide (a=7)))
def zx (fu:Nat)(a:Int):Option (Int):=
 (yB fu a).bind fun e=>e.el (fun c=>
 if c=true then
  some 1
 else
  (yC fu a).bind fun e=>e.el (fun d=>
  if d=true then
   some 2
  else
   (xW fu a).bind fun e=>e.el (fun b=>
   if b=true then
    some 3
   else
    if a=8 then
     some 4
    else
     if a=9 then
      some 4
     else
      if a=10 then
       some 4
      else
       if a=4 then
        some 5
       else
        if a=5 then
         some 5
        else
         some 6
   ) (fun o=>some o)
  ) (fun o=>some o)
 ) (fun o=>some o)
theorem Kc (fu:Nat):Lg (zx fu):=by
 intro E a1 i W Q a
 unfold zx at a
 have c:=Q.bx
 clear Q
 generalize X:lS _=G at c ⊢
 refine cf Try.func106 r ?_
 refine lM [(0,V i)] ⟨r,y⟩ fun a2=>?_
 refine q (g (s (xi r) (n (q (q (g (s (mi r) (n (nS (q ?_))))))))))
 obtain ⟨R,b,a⟩:=bs a
 refine nT (fun f w=>∃ (j:Bool),Has f [(3,V i),(4,.bool j)]∧Bx E w a1 G [] []∧Ld.go j=R) (fun Y m=>?_) ?_
 ·unfold yB at b
  refine q (g (s (kH r r) (s (ko r) (n ?_))))
  rcases iv b with ⟨F,b⟩|⟨F,b⟩
  ·refine jJ (bt F) (wk ?_)
   exact m _ _ ⟨(decide (i=14)),⟨r,r,y⟩,c,sm b⟩
  refine jD (bf F) (q (g (s (kH r r) (s (ko r) (n ?_)))))
  rcases iv b with ⟨H,b⟩|⟨H,b⟩
  ·refine jJ (bt H) (wk ?_)
   exact m _ _ ⟨(decide (i=15)),⟨r,r,y⟩,c,sm b⟩
  refine jD (bf H) (q (g (s (kH r r) (s (ko r) (n ?_)))))
  rcases iv b with ⟨I,b⟩|⟨I,b⟩
  ·refine jJ (bt I) (wk ?_)
   exact m _ _ ⟨(decide (i=16)),⟨r,r,y⟩,c,sm b⟩
  refine jD (bf I) (g (s (kH r r) (s (ko r) (n ?_))))
  exact m _ _ ⟨(decide (i=17)),⟨r,r,y⟩,c,sm b⟩
 clear c
 rintro f w ⟨j,hf,c,J⟩
 obtain ⟨a2,rfl⟩:=fV _ _ hf
 clear hf
 subst J
 replace a:=gi a
 rcases iv a with ⟨B,a⟩|⟨B,a⟩
 ·refine jJ (cb B) (q (g (s (xi r) (n (kU ?_)))))
  obtain rfl:=sm a
  refine jB r (lq r) ?_
  exact ⟨r,c⟩
 replace B:=nt B
 refine jD (cb B) (q ?_)
 obtain ⟨S,d,a⟩:=bs a
 refine nT (fun f w=>∃ (k:Bool),Has f [(3,V i),(9,.bool k)]∧Bx E w a1 G [] []∧Ld.go k=S) (fun J6 v=>?_) ?_
 ·unfold yC at d
  refine q (g (s (kH r r) (s (ko r) (n ?_))))
  rcases iv d with ⟨K,d⟩|⟨K,d⟩
  ·refine jJ (bt K) (wk ?_)
   exact v _ _ ⟨(decide (i=11)),⟨r,r,y⟩,c,sm d⟩
  refine jD (bf K) (q (g (s (kH r r) (s (ko r) (n ?_)))))
  rcases iv d with ⟨L,d⟩|⟨L,d⟩
  ·refine jJ (bt L) (wk ?_)
   exact v _ _ ⟨(decide (i=12)),⟨r,r,y⟩,c,sm d⟩
  refine jD (bf L) (g (s (kH r r) (s (ko r) (n ?_))))
  exact v _ _ ⟨(decide (i=13)),⟨r,r,y⟩,c,sm d⟩
 clear c
 rintro f w ⟨k,hf,c,M⟩
 obtain ⟨a2,rfl⟩:=fV _ _ hf
 clear hf
 subst M
 replace a:=gi a
 rcases iv a with ⟨C,a⟩|⟨C,a⟩
 ·refine jJ (cb C) (q (g (s (xi r) (n (kU ?_)))))
  obtain rfl:=sm a
  refine jB r (lq r) ?_
  exact ⟨r,c⟩
 replace C:=nt C
 refine jD (cb C) (q ?_)
 obtain ⟨N,e,a⟩:=bs a
 refine nT (fun f w=>∃ (h:Bool),Has f [(3,V i),(13,.bool h)]∧Bx E w a1 G [] []∧Ld.go h=N) (fun U u=>?_) ?_
 ·unfold xW at e
  refine q (g (s (kH r r) (s (ko r) (n ?_))))
  rcases iv e with ⟨x,e⟩|⟨x,e⟩
  ·refine jJ (bt x) (wk ?_)
   exact u _ _ ⟨(decide (i=6)),⟨r,r,y⟩,c,sm e⟩
  refine jD (bf x) (g (s (kH r r) (s (ko r) (n ?_))))
  exact u _ _ ⟨(decide (i=7)),⟨r,r,y⟩,c,sm e⟩
 clear c
 rintro f w ⟨h,hf,c,D⟩
 obtain ⟨a2,rfl⟩:=fV _ _ hf
 clear hf
 subst D
 replace a:=gi a
 rcases iv a with ⟨l,a⟩|⟨l,a⟩
 ·refine jJ (cb l) (q (g (s (xi r) (n (kU ?_)))))
  obtain rfl:=sm a
  refine jB r (lq r) ?_
  exact ⟨r,c⟩
 replace l:=nt l
 refine jD (cb l) (q (q (g (s (kH r r) (s (ko r) (n ?_))))))
 rcases iv a with ⟨o,a⟩|⟨o,a⟩
 ·refine jJ (bt o) (wk ?_)
  rw [decide_eq_true o]
  refine jJ r (q (g (s (xi r) (n (kU ?_)))))
  obtain rfl:=sm a
  refine jB r (lq r) ?_
  exact ⟨r,c⟩
 refine jD (bf o) (q (g (s (kH r r) (s (ko r) (n ?_)))))
 rcases iv a with ⟨p,a⟩|⟨p,a⟩
 ·refine jJ (bt p) (wk ?_)
  rw [decide_eq_true p]
  refine jJ r (q (g (s (xi r) (n (kU ?_)))))
  obtain rfl:=sm a
  refine jB r (lq r) ?_
  exact ⟨r,c⟩
 refine jD (bf p) (g (s (kH r r) (s (ko r) (n ?_))))
 rcases iv a with ⟨z,a⟩|⟨z,a⟩
 ·refine jJ (bt z) (q (g (s (xi r) (n (kU ?_)))))
  obtain rfl:=sm a
  refine jB r (lq r) ?_
  exact ⟨r,c⟩
 refine jD (bf z) (q (q (g (s (kH r r) (s (ko r) (n ?_))))))
 rcases iv a with ⟨t,a⟩|⟨t,a⟩
 ·refine jJ (bt t) (wk ?_)
  rw [decide_eq_true t]
  refine jJ r (q (g (s (xi r) (n (kU ?_)))))
  obtain rfl:=sm a
  refine jB r (lq r) ?_
  exact ⟨r,c⟩
 refine jD (bf t) (g (s (kH r r) (s (ko r) (n ?_))))
 rcases iv a with ⟨A,a⟩|⟨A,a⟩
 ·refine jJ (bt A) (q (g (s (xi r) (n (kU ?_)))))
  obtain rfl:=sm a
  refine jB r (lq r) ?_
  exact ⟨r,c⟩
 refine jD (bf A) (wk (q (g (s (xi r) (n (kU ?_))))))
 obtain rfl:=sm a
 refine jB r (lq r) ?_
 exact ⟨r,c⟩
def Eo (m:BA→Option (Ge)):Prop:=∀ {d:World} {f:Nat→Prop} {e:BA}  {c:Ge},Pre d f [] []→m e=some c→
 Calls Try.prog 59 #[T e] d (qQ fun v w=>∃ (a:OA)(b:Nat),v=.agg #[V c.e,V c.c,V c.g,T c.b,T c.d,Z a c.a b]∧Bx d w f (lS []) [] [.l a b c.a])
def nO (fu:Nat)(a:BA):Option (Ge):=
 some (⟨1,0,0,a,be,([]:List Ge)⟩:Ge)
theorem oJ (fu:Nat):Eo (nO fu):=by
 intro f o b h c e
 unfold nO at e
 have a:=c.bx
 clear c
 generalize i:lS _=G at a ⊢
 refine cf Try.func59 r ?_
 refine lM [(0,T b)] ⟨r,y⟩ fun p=>?_
 refine q (g (nM (nD a (jU jT)) ?_))
 rintro _ j ⟨k,rfl,a⟩
 refine n (q (g (s (kY r) (s (DF r r) (kZ (tb a 0 [V 1,V 0,V 0,T b,T be,sn] r jT r r r r r (show _=#[V 1,V 0,V 0,T b,T be,sn] from r)) ?_)))))
 intro m a
 try dsimp only [List.set] at a
 refine n (kU ?_)
 replace a:=a.kr (d:=.l none 0 ([]:List Ge)) nZ
 obtain rfl:=sm e
 refine jB r (tV r mU r jT r (a.bk 0 r)) ?_
 exact ⟨none,0,r,(a.arr [] r)⟩
def EO (m:Int→Option (Ge)):Prop:=∀ {d:World} {f:Nat→Prop} {e:Int}  {c:Ge},Pre d f [] []→m e=some c→
 Calls Try.prog 108 #[V e] d (qQ fun v w=>∃ (a:OA)(b:Nat),v=.agg #[V c.e,V c.c,V c.g,T c.b,T c.d,Z a c.a b]∧Bx d w f (lS []) [] [.l a b c.a])
def rM (fu:Nat)(a:Int):Option (Ge):=
 some (⟨0,a,0,be,be,([]:List Ge)⟩:Ge)
theorem qE (fu:Nat):EO (rM fu):=by
 intro f o b h c e
 unfold rM at e
 have a:=c.bx
 clear c
 generalize i:lS _=G at a ⊢
 refine cf Try.func108 r ?_
 refine lM [(0,V b)] ⟨r,y⟩ fun p=>?_
 refine q (g (nM (nD a (jU jT)) ?_))
 rintro _ j ⟨k,rfl,a⟩
 refine n (q (g (s (mi r) (s (Hq r r) (kZ (tb a 0 [V 0,V b,V 0,T be,T be,sn] r jT r r r r r (show _=#[V 0,V b,V 0,T be,T be,sn] from r)) ?_)))))
 intro m a
 try dsimp only [List.set] at a
 refine n (kU ?_)
 replace a:=a.kr (d:=.l none 0 ([]:List Ge)) nZ
 obtain rfl:=sm e
 refine jB r (tV r mU r jT r (a.bk 0 r)) ?_
 exact ⟨none,0,r,(a.arr [] r)⟩
def KM (m:(List Int)→Int→Option ((List Int))):Prop:=∀ {f:World} {k:Nat→Prop} {h:(List Int)} {j:Int} {a:Option Addr} {b:Nat} {i:(List Int)},Pre f k [] [.l a b h]→m h j=some i→
 Calls Try.prog 15 #[Z a h b,V j] f (qQ fun v w=>∃ (c:OA)(d:Nat)(e:LV),v=Z c i d∧Bx f w k (lS []) [O f.heap.size c d 3 Int e] [.els e i])
def yx (fu:Nat)(b:(List Int)) (a:Int):Option (Ld (Int) ((List Int))):=
 if a < (b.length:Int) then
  (ix b a).bind fun c=>
  some (.go c)
 else
  some (.go (wr (a+1)))
def tF (fu:Nat)(d:(List Int)) (e:Int):Nat→Int→(List Int)→Option (Ld (Int × List Int) ((List Int)))
 | 0,_,_=>none
 | f+1,a,b=>
 if a < e then
  (yx fu d a).bind fun i=>i.el (fun c=>
  (app b ([c]:List Int)).bind fun h=>
  tF fu d e f (wr (a+1)) h
  ) (fun o=>some (.out o))
 else
  some (.go (a,b))
def zq (fu:Nat)(c:(List Int)) (d:Int):Option ((List Int)):=
 (tF fu c d fu 0 ([]:List Int)).bind fun e=>e.el (fun e=>
 jy e fun b a=>
 some a
 ) (fun o=>some o)
theorem DX (fu:Nat):KM (zq fu):=by
 intro x a6 v A j k X L u
 unfold zq at u
 have m:=L.bx
 clear L
 generalize Y:lS _=G at m ⊢
 refine cf Try.func15 r ?_
 refine lM [(0,Z j v k),(1,V A)] ⟨r,r,y⟩ fun a7=>?_
 refine q (g (s (mG r) (n (q (g (s (mG r) (n (q (q (g (s (xi r) (n ?_))))))))))))
 replace m:=m.Bv Int 3
 obtain ⟨M,e,u⟩:=bs u
 refine nT (fun f w=>∃ (i:Int)(d:List Int) (a:OA)(b:Nat)(c:LV),Has f [(5,Z a d b)]∧Bx x w a6 G [O x.heap.size a b 3 Int c] [.els c d,.l j k v]∧Ld.go (i,d)=M) (fun J1 B=>?_) ?_
 ·refine nS (kE (fun a8 f w=>∃ (i:Int)(d:List Int) (a:OA)(b:Nat)(c:LV),Has f [(0,Z j v k),(1,V A),(5,Z a d b),(6,V i)]∧Bx x w a6 G [O x.heap.size a b 3 Int c] [.els c d,.l j k v]∧tF fu v A a8 i d=some M) fu ⟨0,([]:List Int),none,0,[],⟨r,r,r,r,y⟩,m,e⟩ ?_)
  clear m e
  rintro C f w ⟨i,d,a,b,c,hf,m,e⟩ K1 D
  obtain ⟨a7,rfl⟩:=fV _ _ hf
  clear hf
  cases C with
  | zero=>exact nn e
  | succ C=>
   rw [tF] at e
   refine q (q (g (s (mi r) (s (mi r) (s (qo r r) (n ?_))))))
   rcases iv e with ⟨E,e⟩|⟨E,e⟩
   ·refine jJ (bt E) (wk (q (nS (q (g (s (mi r) (s (kJ r r) (s (xi r) (n (q ?_))))))))))
    obtain ⟨Q,o,e⟩:=bs e
    refine nT (fun f w=>∃ (p:Int),Has f [(0,Z j v k),(1,V A),(5,Z a d b),(6,V i),(7,V p)]∧Bx x w a6 G [O x.heap.size a b 3 Int c] [.els c d,.l j k v]∧Ld.go p=Q) (fun J4 z=>?_) ?_
    ·unfold yx at o
     refine q (g (s (mi r) (s (nL r) (s (lF sH r) (s (qo r r) (n ?_))))))
     rcases iv o with ⟨F,o⟩|⟨F,o⟩
     ·refine jJ (bt F) (g (s (nL r) (s (mi r) ?_)))
      obtain ⟨N,t,o⟩:=bs o
      obtain ⟨k6,H,t⟩:=kR t
      refine s (kW sH mP r r H (m.dl 1 r) t) (s (jP F8 r r ((uK (ds:=[V N]) (m.dl 1 r) t (fun _ h=>h)) 0 _ r)) (s (xi r) (n ?_)))
      exact z _ _ ⟨N,⟨r,r,r,r,r,y⟩,m,sm o⟩
     refine jD (bf F) (wk ?_)
     exact z _ _ ⟨(wr (i+1)),⟨r,r,r,r,r,y⟩,m,sm o⟩
    clear m
    rintro f w ⟨p,hf,m,I⟩
    obtain ⟨a7,rfl⟩:=fV _ _ hf
    clear hf
    subst I
    replace e:=gi e
    refine g (s (nL r) (s (mi r) (nM (jN m [[V p]] ([p]:List Int) (zF r) r r (by decide) ⟨r,y⟩) ?_)))
    rintro _ w7 ⟨b7,rfl,m⟩
    obtain ⟨R,J,e⟩:=bs e
    refine nM (kL m 1 1 r r sH mP r (by decide) (by decide) (Nat.le_refl _) r r (m.zN 0 0 r r) J) ?_
    rintro _ w8 ⟨S,U,W,rfl,m⟩
    refine s (mG r) (n (g (s (mi r) (s (kJ r r) (s (xi r) (n ?_))))))
    exact D C _ _ (Nat.lt_succ_self _) ⟨(wr (i+1)),R,S,U,W,⟨r,r,r,r,y⟩,(m.ad [1] [1,2]),e⟩
   refine jD (bf E) (ug ?_)
   exact B _ _ ⟨i,d,a,b,c,⟨r,y⟩,m,sm e⟩
 clear m
 rintro f w ⟨i,d,a,b,c,hf,m,K⟩
 obtain ⟨a7,rfl⟩:=fV _ _ hf
 clear hf
 subst K
 replace u:=gi u
 replace u:=pi u
 refine q (g (s (nL r) (s (mG r) (n (kU ?_)))))
 obtain rfl:=sm u
 refine jB r (lq r) ?_
 exact ⟨a,b,c,r,(m.dp [0])⟩
def Jk (m:(List Int)→Option ((List Int))):Prop:=∀ {e:World} {i:Nat→Prop} {f:(List Int)} {a:Option Addr} {b:Nat} {h:(List Int)},Pre e i [] [.l a b f]→m f=some h→
 Calls Try.prog 27 #[Z a f b] e (qQ fun v w=>∃ (c:OA)(d:Nat),v=Z c h d∧Bx e w i (lS []) [] [.l c d h])
def yN (fu:Nat)(a:(List Int)):Option ((List Int)):=
 if 200 < (a.length:Int) then
  (sl a 0 200).bind fun b=>
  some b
 else
  some a
theorem IU (fu:Nat):Jk (yN fu):=by
 intro A D v a b B p c
 unfold yN at c
 have e:=p.bx
 clear p
 generalize C:lS _=G at e ⊢
 refine cf Try.func27 r ?_
 refine lM [(0,Z a v b)] ⟨r,y⟩ fun E=>?_
 refine q (g (s (mG r) (n (q (q (g (s (nL r) (s (lF sH r) (s (uZ r r) (n ?_))))))))))
 rcases iv c with ⟨j,c⟩|⟨j,c⟩
 ·refine jJ (bt j) (q (g (s (nL r) ?_)))
  obtain ⟨k,m,c⟩:=bs c
  obtain ⟨w,t,x,o,u,f,h⟩:=Bq m
  obtain rfl:w=0:=by omega
  have i:k.length=t:=by rw [← h,List.length_take,List.length_drop];omega
  replace e:=e.kr (d:=.l a b k) (by have F:=(e.dl 0 r).head f;rw [h] at F;exact F)
  refine s (show Yl _ _ _ _ _ _ _ _ _ (.slice a k.length b) from (congrArg (fun z=>Value.slice a z b) i).symm ▸ yS t sH mP r r o (Nat.le_trans f ((e.dl 1 r)).cap)) (s (mG r) (n (kU ?_)))
  obtain rfl:=sm c
  refine jB r (lq r) ?_
  exact ⟨a,b,r,(e.dp [0])⟩
 refine jD (bf j) (wk (q (g (s (nL r) (s (mG r) (n (kU ?_)))))))
 obtain rfl:=sm c
 refine jB r (lq r) ?_
 exact ⟨a,b,r,e⟩
def KI (m:BA→Int→Int→Option (Int × Int)):Prop:=∀ {a:World} {h:Nat→Prop} {b:BA} {c:Int} {d:Int}  {R:Int × Int},Pre a h [] []→m b c d=some R→
 Calls Try.prog 60 #[T b,V c,V d] a (qQ fun v w=>jy R fun e f=>v=.tuple #[V e,V f]∧Bx a w h (lS []) [] [])
def yD (fu:Nat)(b:BA) (a:Int)(c:Int):Option (Ld (Bool) (Int × Int)):=
 if c=47 then
  if (wr (a+1)) < (b.size:Int) then
   (ixs b (wr (a+1))).bind fun d=>
   some (.go (decide (d=47)))
  else
   some (.go false)
 else
  some (.go false)
def rR (fu:Nat)(b:BA):Nat→Int→Option (Ld (Int) (Int × Int))
 | 0,_=>none
 | d+1,a=>
 if a < (b.size:Int) then
  (ixs b a).bind fun c=>
  if c≠10 then
   rR fu b d (wr (a+1))
  else
   some (.go a)
 else
  some (.go a)
def yj (fu:Nat)(a:Int)(b:Int)(c:Int):Option (Ld (Unit) (Int × Int)):=
 if c≠32 then
  if c≠9 then
   if c≠13 then
    if c≠10 then
     some (.out (a,b))
    else
     some (.go ())
   else
    some (.go ())
  else
   some (.go ())
 else
  some (.go ())
def oW (fu:Nat)(c:BA):Nat→Int→Int→Option (Ld (Int × Int) (Int × Int))
 | 0,_,_=>none
 | f+1,a,b=>
 if a < (c.size:Int) then
  (ixs c a).bind fun h=>
  (yD fu c a h).bind fun i=>i.el (fun d=>
  if d=true then
   (rR fu c fu a).bind fun i=>i.el (fun e=>
   oW fu c f e b
   ) (fun o=>some (.out o))
  else
   (yj fu a b h).bind fun i=>i.el (fun _=>
   if h=10 then
    oW fu c f (wr (a+1)) (wr (b+1))
   else
    oW fu c f (wr (a+1)) b
   ) (fun o=>some (.out o))
  ) (fun o=>some (.out o))
 else
  some (.go (a,b))
def xQ (fu:Nat)(c:BA) (d:Int)(e:Int):Option (Int × Int):=
 (oW fu c fu d e).bind fun f=>f.el (fun f=>
 jy f fun a b=>
 some (a,b)
 ) (fun o=>some o)
theorem Eb (fu:Nat):KI (xQ fu):=by
 intro D aj o x1 x2 R hP l
 unfold xQ at l
 have i:=hP.bx
 clear hP
 generalize hG:lS _=G at i ⊢
 refine cf Try.func60 r ?_
 refine lM [(0,T o),(1,V x1),(2,V x2)] ⟨r,r,r,y⟩ fun ak=>?_
 refine q (g (s (xi r) (s (xi r) (n (q ?_)))))
 obtain ⟨Y1,a,l⟩:=bs l
 refine nT (fun f w=>∃ (d:Int)(c:Int),Has f [(1,V d),(2,V c)]∧Bx D w aj G [] []∧Ld.go (d,c)=Y1) (fun J1 K=>?_) ?_
 ·refine nS (kE (fun al f w=>∃ (d:Int)(c:Int),Has f [(0,T o),(1,V d),(2,V c)]∧Bx D w aj G [] []∧oW fu o al d c=some Y1) fu ⟨x1,x2,⟨r,r,r,y⟩,i,a⟩ ?_)
  clear i a
  rintro E f w ⟨d,c,hf,i,a⟩ K1 p
  obtain ⟨ak,rfl⟩:=fV _ _ hf
  clear hf
  cases E with
  | zero=>exact nn a
  | succ E=>
   rw [oW] at a
   refine q (q (g (s (mi r) (s (kY r) (s (BU uz r) (s (qo r r) (n ?_)))))))
   rcases iv a with ⟨L,a⟩|⟨L,a⟩
   ·refine jJ (bt L) (wk (nS (q (g (s (kY r) (s (mi r) ?_))))))
    obtain ⟨g3,M,a⟩:=bs a
    refine s (EC uz r r M) (s (xi r) (n (q (q ?_))))
    obtain ⟨Y4,j,a⟩:=bs a
    refine nT (fun f w=>∃ (m:Bool),Has f [(0,T o),(1,V d),(2,V c),(8,.int .u8 g3),(31,.bool m)]∧Bx D w aj G [] []∧Ld.go m=Y4) (fun J4 t=>?_) ?_
    ·unfold yD at j
     refine g (s (mi r) (s (kH r r) (s (kQ r) ?_)))
     rcases iv j with ⟨N,j⟩|⟨N,j⟩
     ·rw [decide_eq_true N]
      refine ku r (s (mi r) (ku r (s (kJ r r) (ku r (s (kY r) (ku r (s (BU uz r) (ku r (s (qo r r) (s (kG r r) (s (kQ r) ?_)))))))))))
      rcases iv j with ⟨Q,j⟩|⟨Q,j⟩
      ·rw [decide_eq_true Q]
       refine ku r (s (kY r) (ku r (s (mi r) (ku r (s (kJ r r) ?_)))))
       obtain ⟨g7,S,j⟩:=bs j
       refine ku r (s (EC uz r r S) (ku r (s (kH r r) (s (kG r r) (n ?_)))))
       exact t _ _ ⟨(decide (g7=47)),⟨r,r,r,r,r,y⟩,i,sm j⟩
      rw [decide_eq_false Q]
      refine jL r (jL r (jL r (jL r (jL r (s (jZ r r) (n ?_))))))
      exact t _ _ ⟨false,⟨r,r,r,r,r,y⟩,i,sm j⟩
     rw [decide_eq_false N]
     refine jL r (jL r (jL r (jL r (jL r (s (jZ r r) (s (kQ r) (jL r (jL r (jL r (jL r (jL r (s (jZ r r) (n ?_)))))))))))))
     exact t _ _ ⟨false,⟨r,r,r,r,r,y⟩,i,sm j⟩
    clear i
    rintro f w ⟨m,hf,i,U⟩
    obtain ⟨ak,rfl⟩:=fV _ _ hf
    clear hf
    subst U
    replace a:=gi a
    rcases iv a with ⟨F,a⟩|⟨F,a⟩
    ·refine jJ (cb F) (q ?_)
     obtain ⟨Y9,h,a⟩:=bs a
     refine nT (fun f w=>∃ (e:Int),Has f [(0,T o),(1,V e),(2,V c)]∧Bx D w aj G [] []∧Ld.go e=Y9) (fun J9 H=>?_) ?_
     ·refine nS (kE (fun al f w=>∃ (e:Int),Has f [(0,T o),(1,V e),(2,V c)]∧Bx D w aj G [] []∧rR fu o al e=some Y9) fu ⟨d,⟨r,r,r,y⟩,i,h⟩ ?_)
      clear i h
      rintro W f w ⟨e,hf,i,h⟩ K9 X
      obtain ⟨ak,rfl⟩:=fV _ _ hf
      clear hf
      cases W with
      | zero=>exact nn h
      | succ W=>
       rw [rR] at h
       refine q (q (g (s (mi r) (s (kY r) (s (BU uz r) (s (qo r r) (s (kQ r) ?_)))))))
       rcases iv h with ⟨u,h⟩|⟨u,h⟩
       ·rw [decide_eq_true u]
        refine ku r (s (kY r) (ku r (s (mi r) ?_)))
        obtain ⟨aa,I,h⟩:=bs h
        refine ku r (s (EC uz r r I) (ku r (s (rT r r) (s (kG r r) (n ?_)))))
        rcases iv h with ⟨v,h⟩|⟨v,h⟩
        ·refine jJ (bt v) (wk (nS (g (s (mi r) (s (kJ r r) (s (xi r) (n ?_)))))))
         exact X W _ _ (Nat.lt_succ_self _) ⟨(wr (e+1)),⟨r,r,r,y⟩,i,h⟩
        refine jD (bf v) (ug ?_)
        exact H _ _ ⟨e,⟨r,r,r,y⟩,i,sm h⟩
       rw [decide_eq_false u]
       refine jL r (jL r (jL r (jL r (s (jZ r r) (n (jD r (ug ?_)))))))
       exact H _ _ ⟨e,⟨r,r,r,y⟩,i,sm h⟩
     clear i
     rintro f w ⟨e,hf,i,Y⟩
     obtain ⟨ak,rfl⟩:=fV _ _ hf
     clear hf
     subst Y
     replace a:=gi a
     refine ug ?_
     exact p E _ _ (Nat.lt_succ_self _) ⟨e,c,⟨r,r,r,y⟩,i,a⟩
    replace F:=nt F
    refine jD (cb F) (wk (q ?_))
    obtain ⟨a0,b,a⟩:=bs a
    refine nT (fun f w=>Has f [(0,T o),(1,V d),(2,V c),(8,.int .u8 g3)]∧Bx D w aj G [] []∧Ld.go ()=a0) (fun ab k=>?_) ?_
    ·unfold yj at b
     refine q (g (s (mi r) (s (rT r r) (s (kQ r) ?_))))
     rcases iv b with ⟨x,b⟩|⟨x,b⟩
     ·rw [decide_eq_true x]
      refine ku r (s (mi r) (ku r (s (rT r r) (s (kG r r) (s (kQ r) ?_)))))
      rcases iv b with ⟨z,b⟩|⟨z,b⟩
      ·rw [decide_eq_true z]
       refine ku r (s (mi r) (ku r (s (rT r r) (s (kG r r) (s (kQ r) ?_)))))
       rcases iv b with ⟨A,b⟩|⟨A,b⟩
       ·rw [decide_eq_true A]
        refine ku r (s (mi r) (ku r (s (rT r r) (s (kG r r) (n ?_)))))
        rcases iv b with ⟨B,b⟩|⟨B,b⟩
        ·refine jJ (bt B) (q (g (s (mi r) (s (mi r) (s (xi r) (s (xi r) (n (kU ?_))))))))
         obtain rfl:=sm b
         replace a:=oi a
         obtain rfl:=sm a
         replace l:=oi l
         obtain rfl:=sm l
         refine qd r (lq r) (lq r) ?_
         exact mJ (⟨r,i⟩)
        refine jD (bf B) (wk ?_)
        exact k _ _ ⟨⟨r,r,r,r,y⟩,i,sm b⟩
       rw [decide_eq_false A]
       refine jL r (jL r (s (jZ r r) (n (jD r (wk ?_)))))
       exact k _ _ ⟨⟨r,r,r,r,y⟩,i,sm b⟩
      rw [decide_eq_false z]
      refine jL r (jL r (s (jZ r r) (s (kQ r) (jL r (jL r (s (jZ r r) (n (jD r (wk ?_)))))))))
      exact k _ _ ⟨⟨r,r,r,r,y⟩,i,sm b⟩
     rw [decide_eq_false x]
     refine jL r (jL r (s (jZ r r) (s (kQ r) (jL r (jL r (s (jZ r r) (s (kQ r) (jL r (jL r (s (jZ r r) (n (jD r (wk ?_)))))))))))))
     exact k _ _ ⟨⟨r,r,r,r,y⟩,i,sm b⟩
    clear i
    rintro f w ⟨hf,i,J⟩
    obtain ⟨ak,rfl⟩:=fV _ _ hf
    clear hf
    subst J
    replace a:=gi a
    refine q (q (g (s (mi r) (s (kH r r) (n ?_)))))
    rcases iv a with ⟨C,a⟩|⟨C,a⟩
    ·refine jJ (bt C) (g (s (mi r) (s (kJ r r) (s (xi r) (n (g (s (mi r) (s (kJ r r) (s (xi r) (n ?_))))))))))
     exact p E _ _ (Nat.lt_succ_self _) ⟨(wr (d+1)),(wr (c+1)),⟨r,r,r,y⟩,i,a⟩
    refine jD (bf C) (wk (g (s (mi r) (s (kJ r r) (s (xi r) (n ?_))))))
    exact p E _ _ (Nat.lt_succ_self _) ⟨(wr (d+1)),c,⟨r,r,r,y⟩,i,a⟩
   refine jD (bf L) (ug ?_)
   exact K _ _ ⟨d,c,⟨r,r,y⟩,i,sm a⟩
 clear i
 rintro f w ⟨d,c,hf,i,a1⟩
 obtain ⟨ak,rfl⟩:=fV _ _ hf
 clear hf
 subst a1
 replace l:=gi l
 replace l:=pi l
 refine q (g (s (mi r) (s (mi r) (s (xi r) (s (xi r) (n (kU ?_)))))))
 obtain rfl:=sm l
 refine qd r (lq r) (lq r) ?_
 exact mJ (⟨r,i⟩)
def L8 (m:BA→Int→Int→Option (jY × Int × Int)):Prop:=∀ {b:World} {i:Nat→Prop} {c:BA} {d:Int} {e:Int}  {R:jY × Int × Int},Pre b i [] []→m c d e=some R→
 Calls Try.prog 61 #[T c,V d,V e] b (qQ fun v w=>jy R fun a R=>jy R fun f h=>v=.tuple #[.agg #[V a.e,V a.f,T a.a,V a.c],V f,V h]∧Bx b w i (lS []) [] [])
def uO (fu:Nat)(d:BA) (a:Int):Option (Ld (Bool) (jY × Int × Int)):=
 if a < (d.size:Int) then
  (ixs d a).bind fun f=>
  (q8 fu f).bind fun c=>
  if c=true then
   some (.go true)
  else
   (ixs d a).bind fun e=>
   (uE fu e).bind fun b=>
   some (.go b)
 else
  some (.go false)
def qh (fu:Nat)(c:BA):Nat→Int→Option (Ld (Int) (jY × Int × Int))
 | 0,_=>none
 | d+1,a=>
 (uO fu c a).bind fun e=>e.el (fun b=>
 if b=true then
  qh fu c d (wr (a+1))
 else
  some (.go a)
 ) (fun o=>some (.out o))
def og (fu:Nat)(d:BA) (f:Int):Nat→Int→Int→Option (Ld (Int × Int) (jY × Int × Int))
 | 0,_,_=>none
 | e+1,a,b=>
 if a < (d.size:Int) then
  (ixs d a).bind fun h=>
  (uE fu h).bind fun c=>
  if c=true then
   if (wr (a - f)) < 18 then
    (ixs d a).bind fun i=>
    og fu d f e (wr (a+1)) (wr ((wr (10 * b))+(wr (w8 (i - 48)))))
   else
    og fu d f e (wr (a+1)) b
  else
   some (.go (a,b))
 else
  some (.go (a,b))
def y9 (fu:Nat)(d:BA) (a:Int):Option (Ld (Unit) (jY × Int × Int)):=
 if a < (d.size:Int) then
  (ixs d a).bind fun c=>
  (q8 fu c).bind fun b=>
  if b=true then
   some (.out ((⟨0,0,be,0⟩:jY),0,6))
  else
   some (.go ())
 else
  some (.go ())
def Ah (fu:Nat)(e:BA) (d:Int)(l:Int):Option (jY × Int × Int):=
 (ixs e d).bind fun p=>
 (q8 fu p).bind fun k=>
 if k=true then
  (qh fu e fu d).bind fun t=>t.el (fun c=>
  if 12 < (wr (c - d)) then
   some ((⟨0,0,be,0⟩:jY),0,5)
  else
   (O7 e d c).bind fun f=>
   (uq fu f).bind fun h=>
   if h=true then
    some ((⟨3,l,f,0⟩:jY),c,0)
   else
    some ((⟨1,l,f,0⟩:jY),c,0)
  ) (fun o=>some o)
 else
  (ixs e d).bind fun m=>
  (uE fu m).bind fun i=>
  if i=true then
   (og fu e d fu d 0).bind fun t=>t.el (fun t=>
   jy t fun a j=>
   if 18 < (wr (a - d)) then
    some ((⟨0,0,be,0⟩:jY),0,5)
   else
    (y9 fu e a).bind fun t=>t.el (fun _=>
    some ((⟨2,l,be,j⟩:jY),a,0)
    ) (fun o=>some o)
   ) (fun o=>some o)
  else
   (zA fu e d).bind fun b=>
   if b=(⟨#[]⟩:BA) then
    some ((⟨0,0,be,0⟩:jY),0,6)
   else
    some ((⟨4,l,b,0⟩:jY),(wr (d+(b.size:Int))),0)
theorem Mh (fu:Nat):L8 (Ah fu):=by
 intro X b8 F C l R hP d
 unfold Ah at d
 have a:=hP.bx
 clear hP
 generalize hG:lS _=G at a ⊢
 refine cf Try.func61 r ?_
 refine lM [(0,T F),(1,V C),(2,V l)] ⟨r,r,r,y⟩ fun b9=>?_
 refine q (g (nM (nD a (jU oZ)) ?_))
 rintro _ w1 ⟨o,rfl,a⟩
 refine s (xi r) (s (xi r) (n (q (g (s (mi r) (s (xi r) (n (q (q (g (s (kY r) (s (mi r) ?_))))))))))))
 obtain ⟨g2,a9,d⟩:=bs d
 refine s (EC uz r r a9) ?_
 obtain ⟨ax,h3,d⟩:=bs d
 have hc:=(zZ fu) (a.pr [] [0] [] r)  h3
 refine sc (ec OT r) hc ?_
 rintro _ w3 ⟨rfl,m⟩
 replace a:=a.cl [] [0] r m r
 try dsimp only [pick,nth,ca,na] at a
 refine n ?_
 rcases iv d with ⟨Y,d⟩|⟨Y,d⟩
 ·refine jJ (cb Y) (q ?_)
  obtain ⟨Y5,k,d⟩:=bs d
  refine nT (fun f w=>∃ (j:Int),Has f [(0,T F),(1,V j),(2,V l),(6,Pt o),(9,V C)]∧Bx X w b8 G [.box o 143 #[V 0,V 0,T be,V 0]] []∧Ld.go j=Y5) (fun J5 aa=>?_) ?_
  ·refine nS (kE (fun ba f w=>∃ (j:Int),Has f [(0,T F),(1,V j),(2,V l),(6,Pt o),(9,V C)]∧Bx X w b8 G [.box o 143 #[V 0,V 0,T be,V 0]] []∧qh fu F ba j=some Y5) fu ⟨C,⟨r,r,r,r,r,y⟩,a,k⟩ ?_)
   clear a k
   rintro n5 f w ⟨j,hf,a,k⟩ K5 ac
   obtain ⟨b9,rfl⟩:=fV _ _ hf
   clear hf
   cases n5 with
   | zero=>exact nn k
   | succ n5=>
    rw [qh] at k
    refine q (q ?_)
    obtain ⟨Y6,i,k⟩:=bs k
    refine nT (fun f w=>∃ (p:Bool),Has f [(0,T F),(1,V j),(2,V l),(6,Pt o),(9,V C),(33,.bool p)]∧Bx X w b8 G [.box o 143 #[V 0,V 0,T be,V 0]] []∧Ld.go p=Y6) (fun J6 K=>?_) ?_
    ·unfold uO at i
     refine g (s (mi r) (s (kY r) (s (BU uz r) (s (qo r r) (s (kQ r) ?_)))))
     rcases iv i with ⟨h7,i⟩|⟨h7,i⟩
     ·rw [decide_eq_true h7]
      refine ku r (s (kY r) (ku r (s (mi r) ?_)))
      obtain ⟨g8,af,i⟩:=bs i
      refine ku r (s (EC uz r r af) ?_)
      obtain ⟨az,h9,i⟩:=bs i
      refine ku r ?_
      have hc:=(zZ fu) (a.pr [] [0] [] r)  h9
      refine sc (ec OT r) hc ?_
      rintro _ w9 ⟨rfl,m⟩
      replace a:=a.cl [] [0] r m r
      try dsimp only [pick,nth,ca,na] at a
      refine ku r (s (kQ r) ?_)
      rcases iv i with ⟨t,i⟩|⟨t,i⟩
      ·rw [t]
       refine jL r (jL r (jL r (jL r (ku r (s (kG r r) (s (kG r r) (n ?_)))))))
       exact K _ _ ⟨true,⟨r,r,r,r,r,r,y⟩,a,sm i⟩
      replace t:=nt t
      rw [t]
      refine ku r (s (kY r) (ku r (s (mi r) ?_)))
      obtain ⟨aD,a0,i⟩:=bs i
      refine ku r (s (EC uz r r a0) ?_)
      obtain ⟨L,ag,i⟩:=bs i
      refine ku r ?_
      have hc:=(AQ fu) (a.pr [] [0] [] r)  ag
      refine sc (ec Ph r) hc ?_
      rintro _ aE ⟨rfl,m⟩
      replace a:=a.cl [] [0] r m r
      try dsimp only [pick,nth,ca,na] at a
      refine ku r (s (jZ r r) (s (kG r r) (n ?_)))
      exact K _ _ ⟨L,⟨r,r,r,r,r,r,y⟩,a,sm i⟩
     rw [decide_eq_false h7]
     refine jL r (jL r (jL r (jL r (jL r (jL r (jL r (jL r (jL r (jL r (s (jZ r r) (n ?_)))))))))))
     exact K _ _ ⟨false,⟨r,r,r,r,r,r,y⟩,a,sm i⟩
    clear a
    rintro f w ⟨p,hf,a,ah⟩
    obtain ⟨b9,rfl⟩:=fV _ _ hf
    clear hf
    subst ah
    replace k:=gi k
    rcases iv k with ⟨u,k⟩|⟨u,k⟩
    ·refine jJ (cb u) (wk (nS (g (s (mi r) (s (kJ r r) (s (xi r) (n ?_)))))))
     exact ac n5 _ _ (Nat.lt_succ_self _) ⟨(wr (j+1)),⟨r,r,r,r,r,y⟩,a,k⟩
    replace u:=nt u
    refine jD (cb u) (ug ?_)
    exact aa _ _ ⟨j,⟨r,r,r,r,r,y⟩,a,sm k⟩
  clear a
  rintro f w ⟨j,hf,a,ai⟩
  obtain ⟨b9,rfl⟩:=fV _ _ hf
  clear hf
  subst ai
  replace d:=gi d
  refine q (q (g (s (mi r) (s (mi r) (s (xJ r r) (s (uZ r r) (n ?_)))))))
  rcases iv d with ⟨M,d⟩|⟨M,d⟩
  ·refine jJ (bt M) (q (g (s Jt (kZ (tb a 0 [V 0,V 0,T be,V 0] r oZ r r r r r (show _=#[V 0,V 0,T be,V 0] from r)) ?_))))
   intro aF a
   try dsimp only [List.set] at a
   refine s (xi r) (s (xi r) (n (kU ?_)))
   obtain rfl:=sm d
   refine xI r (tV r BP r oZ r (a.bk 0 r)) (lq r) (lq r) ?_
   exact mJ (mJ (⟨r,(a.arr [] r)⟩))
  refine jD (bf M) (wk (q (g (s (kY r) (s (mi r) (s (mi r) ?_))))))
  obtain ⟨D,a1,d⟩:=bs d
  refine s (Uf uz r r r a1) (s (mD r) (n (q (q (g (s (kY r) ?_))))))
  obtain ⟨aj,ak,d⟩:=bs d
  have hc:=(Ej fu) (a.pr [] [0] [] r)  ak
  refine sc (ec Yh r) hc ?_
  rintro _ aG ⟨rfl,m⟩
  replace a:=a.cl [] [0] r m r
  try dsimp only [pick,nth,ca,na] at a
  refine n ?_
  rcases iv d with ⟨v,d⟩|⟨v,d⟩
  ·refine jJ (cb v) (q (g (s (mi r) (s (kY r) (s (Bo r r r) (s (mi r) (kZ (tb a 0 [V 3,V l,T D,V 0] r oZ r r r r r (show _=#[V 3,V l,T D,V 0] from r)) ?_)))))))
   intro aH a
   try dsimp only [List.set] at a
   refine s (xi r) (s (xi r) (n (kU ?_)))
   obtain rfl:=sm d
   refine xI r (tV r BP r oZ r (a.bk 0 r)) (lq r) (lq r) ?_
   exact mJ (mJ (⟨r,(a.arr [] r)⟩))
  replace v:=nt v
  refine jD (cb v) (wk (q (g (s (mi r) (s (kY r) (s (Bo r r r) (s (mi r) (kZ (tb a 0 [V 1,V l,T D,V 0] r oZ r r r r r (show _=#[V 1,V l,T D,V 0] from r)) ?_))))))))
  intro aI a
  try dsimp only [List.set] at a
  refine s (xi r) (s (xi r) (n (kU ?_)))
  obtain rfl:=sm d
  refine xI r (tV r BP r oZ r (a.bk 0 r)) (lq r) (lq r) ?_
  exact mJ (mJ (⟨r,(a.arr [] r)⟩))
 replace Y:=nt Y
 refine jD (cb Y) (wk (q (q (g (s (kY r) (s (mi r) ?_))))))
 obtain ⟨aJ,a2,d⟩:=bs d
 refine s (EC uz r r a2) ?_
 obtain ⟨al,am,d⟩:=bs d
 have hc:=(AQ fu) (a.pr [] [0] [] r)  am
 refine sc (ec Ph r) hc ?_
 rintro _ aK ⟨rfl,m⟩
 replace a:=a.cl [] [0] r m r
 try dsimp only [pick,nth,ca,na] at a
 refine n ?_
 rcases iv d with ⟨x,d⟩|⟨x,d⟩
 ·refine jJ (cb x) (q (g (s (xi r) (n (q ?_)))))
  obtain ⟨a3,b,d⟩:=bs d
  refine nT (fun f w=>∃ (e:Int)(c:Int),Has f [(0,T F),(1,V e),(2,V l),(6,Pt o),(9,V C),(11,V c)]∧Bx X w b8 G [.box o 143 #[V 0,V 0,T be,V 0]] []∧Ld.go (e,c)=a3) (fun aL H=>?_) ?_
  ·refine nS (kE (fun ba f w=>∃ (e:Int)(c:Int),Has f [(0,T F),(1,V e),(2,V l),(6,Pt o),(9,V C),(11,V c)]∧Bx X w b8 G [.box o 143 #[V 0,V 0,T be,V 0]] []∧og fu F C ba e c=some a3) fu ⟨C,0,⟨r,r,r,r,r,r,y⟩,a,b⟩ ?_)
   clear a b
   rintro E f w ⟨e,c,hf,a,b⟩ aM I
   obtain ⟨b9,rfl⟩:=fV _ _ hf
   clear hf
   cases E with
   | zero=>exact nn b
   | succ E=>
    rw [og] at b
    refine q (q (g (s (mi r) (s (kY r) (s (BU uz r) (s (qo r r) (s (kQ r) ?_)))))))
    rcases iv b with ⟨N,b⟩|⟨N,b⟩
    ·rw [decide_eq_true N]
     refine ku r (s (kY r) (ku r (s (mi r) ?_)))
     obtain ⟨aN,a4,b⟩:=bs b
     refine ku r (s (EC uz r r a4) ?_)
     obtain ⟨an,ao,b⟩:=bs b
     refine ku r ?_
     have hc:=(AQ fu) (a.pr [] [0] [] r)  ao
     refine sc (ec Ph r) hc ?_
     rintro _ aO ⟨rfl,m⟩
     replace a:=a.cl [] [0] r m r
     try dsimp only [pick,nth,ca,na] at a
     refine s (kG r r) (n ?_)
     rcases iv b with ⟨z,b⟩|⟨z,b⟩
     ·refine jJ (cb z) (wk (nS (q (q (g (s (mi r) (s (mi r) (s (xJ r r) (s (qo r r) (n ?_))))))))))
      rcases iv b with ⟨Q,b⟩|⟨Q,b⟩
      ·refine jJ (bt Q) (g (s (mi r) (s (TH r r) (s (kY r) (s (mi r) ?_)))))
       obtain ⟨ap,a5,b⟩:=bs b
       refine s (EC uz r r a5) (s (Yo r r) (s (ZT ⟨_,Yb⟩ F8 r) (s (kJ r r) (s (xi r) (n (g (s (mi r) (s (kJ r r) (s (xi r) (n ?_))))))))))
       exact I E _ _ (Nat.lt_succ_self _) ⟨(wr (e+1)),(wr ((wr (10 * c))+(wr (w8 (ap - 48))))),⟨r,r,r,r,r,r,y⟩,a,b⟩
      refine jD (bf Q) (wk (g (s (mi r) (s (kJ r r) (s (xi r) (n ?_))))))
      exact I E _ _ (Nat.lt_succ_self _) ⟨(wr (e+1)),c,⟨r,r,r,r,r,r,y⟩,a,b⟩
     replace z:=nt z
     refine jD (cb z) (ug ?_)
     exact H _ _ ⟨e,c,⟨r,r,r,r,r,r,y⟩,a,sm b⟩
    rw [decide_eq_false N]
    refine jL r (jL r (jL r (jL r (s (jZ r r) (n (jD r (ug ?_)))))))
    exact H _ _ ⟨e,c,⟨r,r,r,r,r,r,y⟩,a,sm b⟩
  clear a
  rintro f w ⟨e,c,hf,a,a6⟩
  obtain ⟨b9,rfl⟩:=fV _ _ hf
  clear hf
  subst a6
  replace d:=gi d
  replace d:=pi d
  refine q (q (g (s (mi r) (s (mi r) (s (xJ r r) (s (uZ r r) (n ?_)))))))
  rcases iv d with ⟨S,d⟩|⟨S,d⟩
  ·refine jJ (bt S) (q (g (s Jt (kZ (tb a 0 [V 0,V 0,T be,V 0] r oZ r r r r r (show _=#[V 0,V 0,T be,V 0] from r)) ?_))))
   intro aP a
   try dsimp only [List.set] at a
   refine s (xi r) (s (xi r) (n (kU ?_)))
   obtain rfl:=sm d
   refine xI r (tV r BP r oZ r (a.bk 0 r)) (lq r) (lq r) ?_
   exact mJ (mJ (⟨r,(a.arr [] r)⟩))
  refine jD (bf S) (wk (q ?_))
  obtain ⟨aq,h,d⟩:=bs d
  refine nT (fun f w=>Has f [(1,V e),(2,V l),(6,Pt o),(11,V c)]∧Bx X w b8 G [.box o 143 #[V 0,V 0,T be,V 0]] []∧Ld.go ()=aq) (fun aQ J=>?_) ?_
  ·unfold y9 at h
   refine q (g (s (mi r) (s (kY r) (s (BU uz r) (s (qo r r) (s (kQ r) ?_))))))
   rcases iv h with ⟨U,h⟩|⟨U,h⟩
   ·rw [decide_eq_true U]
    refine ku r (s (kY r) (ku r (s (mi r) ?_)))
    obtain ⟨aR,a7,h⟩:=bs h
    refine ku r (s (EC uz r r a7) ?_)
    obtain ⟨ar,au,h⟩:=bs h
    refine ku r ?_
    have hc:=(zZ fu) (a.pr [] [0] [] r)  au
    refine sc (ec OT r) hc ?_
    rintro _ aS ⟨rfl,m⟩
    replace a:=a.cl [] [0] r m r
    try dsimp only [pick,nth,ca,na] at a
    refine s (kG r r) (n ?_)
    rcases iv h with ⟨A,h⟩|⟨A,h⟩
    ·refine jJ (cb A) (q (g (s Jt (kZ (tb a 0 [V 0,V 0,T be,V 0] r oZ r r r r r (show _=#[V 0,V 0,T be,V 0] from r)) ?_))))
     intro aT a
     try dsimp only [List.set] at a
     refine s (xi r) (s (xi r) (n (kU ?_)))
     obtain rfl:=sm h
     replace d:=oi d
     obtain rfl:=sm d
     refine xI r (tV r BP r oZ r (a.bk 0 r)) (lq r) (lq r) ?_
     exact mJ (mJ (⟨r,(a.arr [] r)⟩))
    replace A:=nt A
    refine jD (cb A) (wk ?_)
    exact J _ _ ⟨⟨r,r,r,r,y⟩,a,sm h⟩
   rw [decide_eq_false U]
   refine jL r (jL r (jL r (jL r (s (jZ r r) (n (jD r (wk ?_)))))))
   exact J _ _ ⟨⟨r,r,r,r,y⟩,a,sm h⟩
  clear a
  rintro f w ⟨hf,a,a8⟩
  obtain ⟨b9,rfl⟩:=fV _ _ hf
  clear hf
  subst a8
  replace d:=gi d
  refine q (g (s (mi r) (s (mi r) (s (Kh r r r) (s (mi r) (kZ (tb a 0 [V 2,V l,T be,V c] r oZ r r r r r (show _=#[V 2,V l,T be,V c] from r)) ?_))))))
  intro aU a
  try dsimp only [List.set] at a
  refine s (xi r) (s (xi r) (n (kU ?_)))
  obtain rfl:=sm d
  refine xI r (tV r BP r oZ r (a.bk 0 r)) (lq r) (lq r) ?_
  exact mJ (mJ (⟨r,(a.arr [] r)⟩))
 replace x:=nt x
 refine jD (cb x) (wk (q (g (s (kY r) (s (mi r) ?_)))))
 obtain ⟨B,av,d⟩:=bs d
 have hc:=(JY fu) (a.pr [] [0] [] r)  av
 refine sc (ec Yx r) hc ?_
 rintro _ aV ⟨rfl,m⟩
 replace a:=a.cl [] [0] r m r
 try dsimp only [pick,nth,ca,na] at a
 refine s (mD r) (n (q (q (g (s (kY r) (s (rJ r r) (n ?_)))))))
 rcases iv d with ⟨W,d⟩|⟨W,d⟩
 ·refine jJ (bt W) (q (g (s Jt (kZ (tb a 0 [V 0,V 0,T be,V 0] r oZ r r r r r (show _=#[V 0,V 0,T be,V 0] from r)) ?_))))
  intro aW a
  try dsimp only [List.set] at a
  refine s (xi r) (s (xi r) (n (kU ?_)))
  obtain rfl:=sm d
  refine xI r (tV r BP r oZ r (a.bk 0 r)) (lq r) (lq r) ?_
  exact mJ (mJ (⟨r,(a.arr [] r)⟩))
 refine jD (bf W) (wk (q (g (s (mi r) (s (kY r) (s (Bo r r r) (s (mi r) (s (kY r) (s (BU uz r) (s (kJ r r) (kZ (tb a 0 [V 4,V l,T B,V 0] r oZ r r r r r (show _=#[V 4,V l,T B,V 0] from r)) ?_)))))))))))
 intro aX a
 try dsimp only [List.set] at a
 refine s (xi r) (s (xi r) (n (kU ?_)))
 obtain rfl:=sm d
 refine xI r (tV r BP r oZ r (a.bk 0 r)) (lq r) (lq r) ?_
 exact mJ (mJ (⟨r,(a.arr [] r)⟩))
def Lm (m:BA→Option ((List jY) × Int × Int)):Prop:=∀ {d:World} {j:Nat→Prop} {e:BA}  {R:(List jY) × Int × Int},Pre d j [] []→m e=some R→
 Calls Try.prog 44 #[T e] d (qQ fun v w=>jy R fun f R=>jy R fun h i=>∃ (a:OA)(b:Nat)(c:LV),v=.tuple #[Z a f b,V h,V i]∧Bx d w j (lS []) [O d.heap.size a b 143 jY c] [.els c f])
def xU (fu:Nat)(b:List jY) (a:Int):Option (Ld (Int) ((List jY) × Int × Int)):=
 if a=0 then
  if 2000≤(b.length:Int) then
   some (.go 5)
  else
   some (.go a)
 else
  some (.go a)
def tN (fu:Nat)(k:BA):Nat→Int→Int→(List jY)→Option (Ld (Int × Int × List jY) ((List jY) × Int × Int))
 | 0,_,_,_=>none
 | m+1,b,a,c=>
 if b < (k.size:Int) then
  (Ah fu k b a).bind fun p=>
  jy p fun h p=>jy p fun i j=>
  (xU fu c j).bind fun p=>p.el (fun d=>
  if d≠0 then
   some (.out (([]:List jY),a,d))
  else
   (app c ([h]:List jY)).bind fun l=>
   (xQ fu k i a).bind fun p=>
   jy p fun e f=>
   tN fu k m e f l
  ) (fun o=>some (.out o))
 else
  some (.go (b,a,c))
def zu (fu:Nat)(e:BA):Option ((List jY) × Int × Int):=
 if 4000 < (e.size:Int) then
  some (([]:List jY),0,5)
 else
  (xQ fu e 0 1).bind fun i=>
  jy i fun a b=>
  (tN fu e fu a b ([]:List jY)).bind fun i=>i.el (fun i=>
  jy i fun h i=>jy i fun c d=>
  (app d ([(⟨0,c,be,0⟩:jY)]:List jY)).bind fun f=>
  some (f,0,0)
  ) (fun o=>some o)
theorem Ky (fu:Nat):Lm (zu fu):=by
 intro B au K R hP l
 unfold zu at l
 have c:=hP.bx
 clear hP
 generalize hG:lS _=G at c ⊢
 refine cf Try.func44 r ?_
 refine lM [(0,T K)] ⟨r,y⟩ fun av=>?_
 refine q (g (s (mG r) (s (xi r) (s (xi r) (n (q (q (g (s (kY r) (s (BU uz r) (s (uZ r r) (n ?_))))))))))))
 rcases iv l with ⟨L,l⟩|⟨L,l⟩
 ·refine jJ (bt L) (q (g (s (mG r) (s (xi r) (s (xi r) (n (kU ?_)))))))
  replace c:=c.Bv jY 143
  obtain rfl:=sm l
  refine xI r (lq r) (lq r) (lq r) ?_
  exact mJ (mJ (⟨none,0,[],r,c⟩))
 refine jD (bf L) (wk (q (g (s (mG r) (n (q (g (s (kY r) ?_))))))))
 obtain ⟨⟨C,D⟩,h3,l⟩:=bs l
 replace l:=pi l
 have hc:=(Eb fu) (c.pr [] [] [] r)  h3
 refine sc (ec SS r) hc ?_
 rintro _ w3 ⟨rfl,E⟩
 replace c:=c.cl [] [] r E r
 try dsimp only [pick,nth,ca,na] at c
 refine s sM (s (kg r r) (s (kg r r) (s (xi r) (s (xi r) (n (q ?_))))))
 replace c:=c.Bv jY 143
 obtain ⟨Y4,b,l⟩:=bs l
 refine nT (fun f w=>∃ (m:Int)(j:Int)(i:List jY) (d:OA)(e:Nat)(h:LV),Has f [(5,Z d i e),(7,V j)]∧Bx B w au G [O B.heap.size d e 143 jY h] [.els h i]∧Ld.go (m,j,i)=Y4) (fun J4 M=>?_) ?_
 ·refine nS (kE (fun aw f w=>∃ (m:Int)(j:Int)(i:List jY) (d:OA)(e:Nat)(h:LV),Has f [(0,T K),(5,Z d i e),(6,V m),(7,V j)]∧Bx B w au G [O B.heap.size d e 143 jY h] [.els h i]∧tN fu K aw m j i=some Y4) fu ⟨C,D,([]:List jY),none,0,[],⟨r,r,r,r,y⟩,c,b⟩ ?_)
  clear c b
  rintro N f w ⟨m,j,i,d,e,h,hf,c,b⟩ K4 Q
  obtain ⟨av,rfl⟩:=fV _ _ hf
  clear hf
  cases N with
  | zero=>exact nn b
  | succ N=>
   rw [tN] at b
   refine q (q (g (s (mi r) (s (kY r) (s (BU uz r) (s (qo r r) (n ?_)))))))
   rcases iv b with ⟨S,b⟩|⟨S,b⟩
   ·refine jJ (bt S) (wk (nS (q (g (s (kY r) (s (mi r) (s (mi r) ?_)))))))
    obtain ⟨⟨a,F,t⟩,h7,b⟩:=bs b
    replace b:=pi b
    replace b:=pi b
    have hc:=(Mh fu) (c.pr [] [0] [] r)  h7
    refine sc (ec Yg r) hc ?_
    rintro _ w7 ⟨rfl,E⟩
    replace c:=c.cl [] [0] r E r
    try dsimp only [pick,nth,ca,na] at c
    refine s sM (s (kg r r) (s (kg r r) (s (kg r r) (nM (nD c (jU oZ)) ?_))))
    rintro _ w8 ⟨b8,rfl,c⟩
    refine kZ (tb c 0 [V a.e,V a.f,T a.a,V a.c] r oZ r r r r r (show _=#[V a.e,V a.f,T a.a,V a.c] from r)) ?_
    intro w9 c
    try dsimp only [List.set] at c
    refine s (xi r) (s (xi r) (n (q ?_)))
    obtain ⟨U,k,b⟩:=bs b
    refine nT (fun f w=>∃ (o:Int),Has f [(0,T K),(5,Z d i e),(7,V j),(8,Pt b8),(9,V F),(10,V o)]∧Bx B w au G [.box b8 143 #[V a.e,V a.f,T a.a,V a.c],O B.heap.size d e 143 jY h] [.els h i]∧Ld.go o=U) (fun ab p=>?_) ?_
    ·unfold xU at k
     refine q (g (s (mi r) (s (kH r r) (s (kQ r) ?_))))
     rcases iv k with ⟨u,k⟩|⟨u,k⟩
     ·rw [decide_eq_true u]
      refine ku r (s (nL r) (ku r (s (lF Cu r) (ku r (s (AX r r) (s (kG r r) (n ?_)))))))
      rcases iv k with ⟨v,k⟩|⟨v,k⟩
      ·refine jJ (bt v) (g (s (xi r) (n ?_)))
       exact p _ _ ⟨5,⟨r,r,r,r,r,r,y⟩,c,sm k⟩
      refine jD (bf v) (wk ?_)
      exact p _ _ ⟨t,⟨r,r,r,r,r,r,y⟩,c,sm k⟩
     rw [decide_eq_false u]
     refine jL r (jL r (jL r (s (jZ r r) (n (jD r (wk ?_))))))
     exact p _ _ ⟨t,⟨r,r,r,r,r,r,y⟩,c,sm k⟩
    clear c
    rintro f w ⟨o,hf,c,H⟩
    obtain ⟨av,rfl⟩:=fV _ _ hf
    clear hf
    subst H
    replace b:=gi b
    refine q (q (g (s (mi r) (s (rT r r) (n ?_)))))
    rcases iv b with ⟨x,b⟩|⟨x,b⟩
    ·refine jJ (bt x) (q (g (s (mi r) (s (mi r) (s (mG r) (s (xi r) (s (xi r) (n (kU ?_)))))))))
     replace c:=c.Bv jY 143
     obtain rfl:=sm b
     replace l:=oi l
     obtain rfl:=sm l
     refine xI r (lq r) (lq r) (lq r) ?_
     exact mJ (mJ (⟨none,0,[],r,(c.ad [0] [0])⟩))
    refine jD (bf x) (wk (q (g (s (nL r) (s (mR [V a.e,V a.f,T a.a,V a.c] BP r oZ r r (Cells.part (c.bk 0 r).cells (o2:=0) r)) (nM (jN c [[V a.e,V a.f,T a.a,V a.c]] ([a]:List jY) (Kg r) r r (by decide) ⟨r,y⟩) ?_))))))
    rintro _ ac ⟨ae,rfl,c⟩
    obtain ⟨W,I,b⟩:=bs b
    refine nM (kL c 2 1 r r Cu oZ r (by decide) (by decide) (Nat.le_refl _) r r (c.zN 0 0 r r) I) ?_
    rintro _ af ⟨X,Y,a0,rfl,c⟩
    refine s (mG r) (n (g (s (kY r) (s (mi r) (s (mi r) ?_)))))
    obtain ⟨⟨z,A⟩,a1,b⟩:=bs b
    replace b:=pi b
    have hc:=(Eb fu) (c.pr [] [0,1,2] [] r)  a1
    refine sc (ec SS r) hc ?_
    rintro _ ag ⟨rfl,E⟩
    replace c:=c.cl [] [0,1,2] r E r
    try dsimp only [pick,nth,ca,na] at c
    refine s sM (s (kg r r) (s (kg r r) (s (xi r) (s (xi r) (n ?_)))))
    exact Q N _ _ (Nat.lt_succ_self _) ⟨z,A,W,X,Y,a0,⟨r,r,r,r,y⟩,(c.ad [2] [1]),b⟩
   refine jD (bf S) (ug ?_)
   exact M _ _ ⟨m,j,i,d,e,h,⟨r,r,y⟩,c,sm b⟩
 clear c
 rintro f w ⟨m,j,i,d,e,h,hf,c,a2⟩
 obtain ⟨av,rfl⟩:=fV _ _ hf
 clear hf
 subst a2
 replace l:=gi l
 replace l:=pi l
 replace l:=pi l
 refine q (g (s (nL r) (s (mi r) (s (Ny r r) (nM (jN c [[V 0,V j,T be,V 0]] ([(⟨0,j,be,0⟩:jY)]:List jY) (Kg r) r r (by decide) ⟨r,y⟩) ?_)))))
 rintro _ ah ⟨ai,rfl,c⟩
 obtain ⟨aj,J,l⟩:=bs l
 refine nM (kL c 1 1 r r Cu oZ r (by decide) (by decide) (Nat.le_refl _) r r (c.zN 0 0 r r) J) ?_
 rintro _ ak ⟨a3,a4,a5,rfl,c⟩
 refine s (mG r) (s (xi r) (s (xi r) (n (kU ?_))))
 obtain rfl:=sm l
 refine xI r (lq r) (lq r) (lq r) ?_
 exact mJ (mJ (⟨a3,a4,a5,r,(c.ad [1] [1])⟩))
abbrev CV:=Int→Option (ByteArray)
def yA (m:Int→Option (BA)):Prop:=∀ {a:World} {d:Nat→Prop} {b:Int}  {c:BA},Pre a d [] []→m b=some c→
 Calls Try.prog 79 #[V b] a (qQ fun v w=>v=T c∧Bx a w d (lS []) [] [])
def wK (fu:Nat)(r_r03_Digits:CV) (a:Int):Option (BA):=
 if a < 0 then
  if a=(-9223372036854775808) then
   some (⟨#[45,57,50,50,51,51,55,50,48,51,54,56,53,52,55,55,53,56,48,56]⟩:BA)
  else
   (r_r03_Digits (wr (0 - a))).bind fun c=>
   (cat (⟨#[45]⟩:BA) c).bind fun f=>
   some f
 else
  if a < 10 then
   some (Zf ([⟨(w8 (wr (48+a)))⟩]:List Dv))
  else
   (r_r03_Digits (wr (a.tdiv 10))).bind fun d=>
   (r_r03_Digits (a.tmod 10)).bind fun b=>
   (cat d b).bind fun e=>
   some e
def Bu:Nat→(Int→Option (BA))
 | 0=>(fun _=>none)
 | fu+1=>wK fu (Bu fu)
def rz (fu:Nat):=(Bu fu)
theorem Gy (fu:Nat)(r_r03_Digits:CV) (H_r03_Digits:yA r_r03_Digits):yA (wK fu r_r03_Digits):=by
 intro x F e z m a
 unfold wK at a
 have b:=m.bx
 clear m
 generalize A:lS _=G at b ⊢
 refine cf Try.func79 r ?_
 refine lM [(0,V e)] ⟨r,y⟩ fun H=>?_
 refine q (g (s (mD r) (n (q (q (g (s (mi r) (s (qo r r) (n ?_)))))))))
 rcases iv a with ⟨f,a⟩|⟨f,a⟩
 ·refine jJ (bt f) (q (q (g (s (mi r) (s (kH r r) (n ?_))))))
  rcases iv a with ⟨h,a⟩|⟨h,a⟩
  ·refine jJ (bt h) (q (g (s (mD r) (n (kU ?_)))))
   obtain rfl:=sm a
   refine jB r (lq r) ?_
   exact ⟨r,b⟩
  refine jD (bf h) (wk (q (g (s (mi r) (s (xJ r r) ?_)))))
  obtain ⟨o,t,a⟩:=bs a
  have hc:=H_r03_Digits (b.pr [] [] [] r)  t
  refine sc (ec Hz r) hc ?_
  rintro _ B ⟨rfl,c⟩
  replace b:=b.cl [] [] r c r
  try dsimp only [pick,nth,ca,na] at b
  obtain ⟨C,i,a⟩:=bs a
  refine s (lN r r i) (s (mD r) (n (kU ?_)))
  obtain rfl:=sm a
  refine jB r (lq r) ?_
  exact ⟨r,b⟩
 refine jD (bf f) (wk (q (q (g (s (mi r) (s (qo r r) (n ?_)))))))
 rcases iv a with ⟨j,a⟩|⟨j,a⟩
 ·refine jJ (bt j) (q (g (s (mi r) (s (kJ r r) (s (Z9 ⟨_,F8⟩ Yb r) (nM (jN b [[.int .u8 (w8 (wr (48+e)))]] ([⟨(w8 (wr (48+e)))⟩]:List Dv) (N8 r) r r (by decide) ⟨r,y⟩) ?_))))))
  rintro _ D ⟨E,rfl,b⟩
  refine s (ZI Nh Yb uz r (b.vw 0 0 r r)) (s (mD r) (n (kU ?_)))
  obtain rfl:=sm a
  refine jB r (lq r) ?_
  exact ⟨r,(b.ad [] [])⟩
 refine jD (bf j) (wk (q (g (s (mi r) (s (TA r r (by decide)) ?_)))))
 obtain ⟨p,u,a⟩:=bs a
 have hc:=H_r03_Digits (b.pr [] [] [] r)  u
 refine sc (ec Hz r) hc ?_
 rintro _ w8 ⟨rfl,c⟩
 replace b:=b.cl [] [] r c r
 try dsimp only [pick,nth,ca,na] at b
 refine s (mi r) (s (PZ r r (by decide)) ?_)
 obtain ⟨k,l,a⟩:=bs a
 have hc:=H_r03_Digits (b.pr [] [] [] r)  l
 refine sc (ec Hz r) hc ?_
 rintro _ v ⟨rfl,c⟩
 replace b:=b.cl [] [] r c r
 try dsimp only [pick,nth,ca,na] at b
 obtain ⟨w,d,a⟩:=bs a
 refine s (lN r r d) (s (mD r) (n (kU ?_)))
 obtain rfl:=sm a
 refine jB r (lq r) ?_
 exact ⟨r,b⟩
theorem F3 (fu:Nat):yA (rz fu):=by
 induction fu with
 | zero=>exact by intro a b;intros;exact nn (by assumption)
 | succ fu ih=>exact Gy fu (rz fu) ih
theorem Ab (fu:Nat):yA (rz fu):=(F3 fu)
end
end Go.Proofs.Ytfglbdkfnphjgaa
