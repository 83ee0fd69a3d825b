/- Contracts, printed by gen3.py. -/
import Derived.Test.YtfglbdkfnphjgaaZt
import Derived.Test.YtfglbdkfnphjgaaLt
set_option linter.unusedVariables false
set_option maxHeartbeats 12800000
set_option linter.unusedSimpArgs false
set_option maxRecDepth 4000
namespace Go.Proofs.Ytfglbdkfnphjgaa
open Go.RowKit Go.Fw
noncomputable section
def Mc (m:Int→Int→Option (Int)):Prop:=∀ {a:World} {e:Nat→Prop} {b:Int} {c:Int}  {d:Int},Pre a e [] []→m b c=some d→
 Calls Try.prog 16 #[V b,V c] a (rf fun v w=>v=V d∧Bx a w e (lT []) [] [])
def yK (fu:Nat)(b:Int)(a:Int):Option (Int):=
 if a=0 then
  none
 else
  if (b.tmod a) < 0 then
   some (wr ((b.tmod a)+a))
  else
   some (b.tmod a)
theorem Dz (fu:Nat):Mc (yK fu):=by
 intro i l e f j d a
 unfold yK at a
 have b:=d.bx
 clear d
 generalize k:lT _=G at b ⊢
 refine cf Try.func16 r (ma [(0,V e),(1,V f)] ⟨r,r,y⟩ fun m=>q (g (s (xi r) (n (q (g (s (mi r) (s (mi r) ?_))))))))
 rcases iv a with ⟨_,a⟩|⟨h,a⟩
 · exact nn a
 refine s (QZ r r h) (s (xi r) (n (q (q (g (s (mi r) (s (qB r r) (n ?_))))))))
 rcases iv a with ⟨c,a⟩|⟨c,a⟩
 ·refine jH (bt c) (g (s (mi r) (s (mi r) (s (kN r r) (s (xi r) (n (q (g (s (mi r) (s (xi r) (n (kP ?_))))))))))))
  obtain rfl:=sm a
  exact jC r (kT r) ⟨r,b⟩
 refine jI (bf c) (wk (q (g (s (mi r) (s (xi r) (n (kP ?_)))))))
 obtain rfl:=sm a
 exact jC r (kT r) ⟨r,b⟩
def Kw (m:jR→Int→Option (Int × jR)):Prop:=∀ {f:World} {j:Nat→Prop} {e:jR} {h:Int} {c:Nat} {a:Option Addr} {b:Nat} {R:Int × jR},Pre f j [.box c 132 #[Z a e.l b,V e.a]] [.l a b e.l]→m e h=some R→
 Calls Try.prog 57 #[Pt c,V h] f (rf fun v w=>iA R fun i d=>v=V i∧Bx f w j (lT [.box c 132 #[Z a e.l b,V e.a]]) [.box c 132 #[Z a d.l b,V d.a]] [.l a b d.l])
def kM (fu:Nat)(a:jR) (c:Int):Option (Int × jR):=
 if (a.l.length:Int)≤a.a then
  some (0,a)
 else
  (ix a.l (wr ((wr (a.a+1)) - 1))).bind fun d=>
  (yK fu d c).bind fun b=>
  some (b,(⟨a.l,(wr (a.a+1))⟩:jR))
theorem kr (fu:Nat):Kw (kM fu):=by
 intro A F j v m c d R t e
 unfold kM at e
 have b:=t.bx
 clear t
 generalize B:lT _=G at b ⊢
 refine cf Try.func57 r (ma [(0,Pt m),(1,V v)] ⟨r,r,y⟩ fun H=>q (g (s (xi r) (n (q (q (oJ b [0] [] [] (by kernel_rfl) ?_)))))))
 replace b:=b.drew
 have a:=(b.dp [])
 refine pF 0 r (mp r) a (pF 1 r (xn r) a (pF 2 r (GR r) a (uF 3 r (fun hS=>l3 r (hS.bk 0 r) r) a (pF 4 r (mp r) a (pF 5 r (xn r) a (pF 6 r (LQ r) a (uF 7 r (fun hS=>Ko r (hS.bk 0 r) r) a (pF 8 r (lg vE r) a (pF 9 r (Bi r r) a (hD ?_))))))))))
 rcases iv e with ⟨o,e⟩|⟨o,e⟩
 ·refine jH (bt o) (q (g (s (xi r) (n (kP ?_)))))
  obtain rfl:=sm e
  exact jC r (kT r) (lw (⟨r,b⟩))
 refine jI (bf o) (wk (q (g (s (mp r) (s (xn r) (s (GR r) (s (l3 r (b.bk 0 r) r) (s (kN r r) (s (xn r) (s (GR r) (lu (lW b 0 [V (wr (j.a+1))] r pJ r r) fun C b=>n (q (oJ b [0] [0] [] (by kernel_rfl) ?_)))))))))))))
 replace b:=b.drew
 have a:=b
 refine pF 0 r (mp r) a (pF 1 r (xn r) a (pF 2 r (LQ r) a (uF 3 r (fun hS=>Ko r (hS.bk 0 r) r) a (pF 4 r (mp r) a (pF 5 r (xn r) a (pF 6 r (GR r) a (uF 7 r (fun hS=>l3 r (hS.bk 0 r) r) a (pF 8 r (xU r r) a ?_))))))))
 obtain ⟨w,f,e⟩:=bs e
 obtain ⟨D,p,f⟩:=kG f
 refine pF 9 r (kZ vE pJ r r p (b.dl 0 r) f) a (tU 10 r (fun _ hS=>kz EU r r ((vo (ds:=[V w]) (hS.dl 0 r) f (fun _ h=>h)) 0 _ r)) (sF a) (pF 11 r (mi r) a ?_))
 obtain ⟨u,x,e⟩:=bs e
 have hc:=(Dz fu) (b.pr [] [0] [] r)  x
 refine hO 12 (oc r r (ec N9 r) hc ?_)
 rintro _ E ⟨rfl,z⟩
 replace b:=b.cn [] [0] z
 have a:=b
 refine ⟨(sF a),(pF 13 r (xi r) a (hD (kP ?_)))⟩
 obtain rfl:=sm e
 exact jC r (kT r) (lw (⟨r,b⟩))
def LH (m:jR→Option (Bool)):Prop:=∀ {e:World} {h:Nat→Prop} {c:jR} {d:Nat} {a:Option Addr} {b:Nat} {f:Bool},Pre e h [.box d 132 #[Z a c.l b,V c.a]] [.l a b c.l]→m c=some f→
 Calls Try.prog 81 #[Pt d] e (rf fun v w=>v=.bool f∧Bx e w h (lT [.box d 132 #[Z a c.l b,V c.a]]) [.box d 132 #[Z a c.l b,V c.a]] [.l a b c.l])
def Bw (fu:Nat)(a:jR):Option (Bool):=
 some (decide (a.a < (a.l.length:Int)))
theorem Kr (fu:Nat):LH (Bw fu):=by
 intro m t f e b c o h j
 unfold Bw at j
 have d:=h.bx
 clear h
 generalize p:lT _=G at d ⊢
 refine cf Try.func81 r (ma [(0,Pt e)] ⟨r,y⟩ fun u=>q (g (s (jU r) (n (q (oJ d [0] [] [] (by kernel_rfl) ?_))))))
 replace d:=d.drew
 have a:=(d.dp [])
 refine pF 0 r (mp r) a (pF 1 r (xn r) a (pF 2 r (GR r) a (uF 3 r (fun hS=>l3 r (hS.bk 0 r) r) a (pF 4 r (mp r) a (pF 5 r (xn r) a (pF 6 r (LQ r) a (uF 7 r (fun hS=>Ko r (hS.bk 0 r) r) a (pF 8 r (lg vE r) a (pF 9 r (qB r r) a (pF 10 r (jU r) a (hD (kP ?_))))))))))))
 obtain rfl:=sm j
 exact jC r (kT r) ⟨r,d⟩
def Ig (m:jR→Option (Int × jR)):Prop:=∀ {f:World} {i:Nat→Prop} {e:jR} {c:Nat} {a:Option Addr} {b:Nat} {R:Int × jR},Pre f i [.box c 132 #[Z a e.l b,V e.a]] [.l a b e.l]→m e=some R→
 Calls Try.prog 109 #[Pt c] f (rf fun v w=>iA R fun h d=>v=V h∧Bx f w i (lT [.box c 132 #[Z a e.l b,V e.a]]) [.box c 132 #[Z a d.l b,V d.a]] [.l a b d.l])
def ym (fu:Nat)(c:jR):Option (Int × jR):=
 (kM fu c ((([0,1,2,3,5,7,4,10,100,1048576,2147483648,1099511627776,999999999999999999,6,8,9]:List Int).length:Nat):Int)).bind fun e=>
 iA e fun a b=>
 (ix ([0,1,2,3,5,7,4,10,100,1048576,2147483648,1099511627776,999999999999999999,6,8,9]:List Int) a).bind fun d=>
 some (d,b)
theorem Hu (fu:Nat):Ig (ym fu):=by
 intro v C j f d e R k c
 unfold ym at c
 have a:=k.bx
 clear k
 generalize w:lT _=G at a ⊢
 refine cf Try.func109 r (ma [(0,Pt f)] ⟨r,y⟩ fun D=>q (g (s (xi r) (n (q (g (qF (jV a [[V 0],[V 1],[V 2],[V 3],[V 5],[V 7],[V 4],[V 10],[V 100],[V 1048576],[V 2147483648],[V 1099511627776],[V 999999999999999999],[V 6],[V 8],[V 9]] ([0,1,2,3,5,7,4,10,100,1048576,2147483648,1099511627776,999999999999999999,6,8,9]:List Int) (Nq r r r r r r r r r r r r r r r r) r r (by decide) ⟨r,⟨r,⟨r,⟨r,⟨r,⟨r,⟨r,⟨r,⟨r,⟨r,⟨r,⟨r,⟨r,⟨r,⟨r,⟨r,y⟩⟩⟩⟩⟩⟩⟩⟩⟩⟩⟩⟩⟩⟩⟩⟩) ?_)))))))
 rintro _ x ⟨z,rfl,a⟩
 refine s (nJ r) (n (q (g (s (mD r) (s (mp r) (s (mD r) (s (lg vE r) ?_)))))))
 obtain ⟨m,o,p,c⟩:=lV c
 have hc:=(kr fu) (a.pr [1] [0] [1] r)  p
 refine sc (ec pG r) hc ?_
 rintro _ A ⟨rfl,t⟩
 replace a:=a.cn [1] [0] t
 obtain ⟨u,b,c⟩:=bs c
 obtain ⟨B,i,b⟩:=kG b
 refine s (kZ vE pJ r r i (a.vw 1 1 r r) b) (s (kz EU r r ((vo (ds:=[V u]) (a.vw 1 1 r r) b (fun _ h=>h)) 0 _ r)) (s (xi r) (n (kP ?_))))
 obtain rfl:=sm c
 exact jC r (kT r) (lw (⟨r,(a.ad [0] [0])⟩))
def Iy (m:Int→Option (Bool)):Prop:=∀ {a:World} {d:Nat→Prop} {b:Int}  {c:Bool},Pre a d [] []→m b=some c→
 Calls Try.prog 89 #[.int .u8 b] a (rf fun v w=>v=.bool c∧Bx a w d (lT []) [] [])
def ui (fu:Nat)(a:Int):Option (Bool):=
 if 97≤a then
  if a≤122 then
   some true
  else
   if 65≤a then
    if a≤90 then
     some true
    else
     some (decide (a=95))
   else
    some (decide (a=95))
 else
  if 65≤a then
   if a≤90 then
    some true
   else
    some (decide (a=95))
  else
   some (decide (a=95))
theorem AZ (fu:Nat):Iy (ui fu):=by
 intro l p k m j a
 unfold ui at a
 have b:=j.bx
 clear j
 generalize o:lT _=G at b ⊢
 refine cf Try.func89 r (ma [(0,.int .u8 k)] ⟨r,y⟩ fun t=>q (g (s (jU r) (n (q (g (s (mi r) (s (Bi r r) (s (jZ r) ?_)))))))))
 rcases iv a with ⟨c,a⟩|⟨c,a⟩
 ·rw [decide_eq_true c]
  refine jQ r (s (mi r) (jQ r (s (JD r r) (s (jN r r) (s (jZ r) ?_)))))
  rcases iv a with ⟨d,a⟩|⟨d,a⟩
  ·rw [decide_eq_true d]
   refine jB r (jB r (jB r (jB r (jB r (jB r (s (jN r r) (s (jZ r) (jB r (jB r (s (jN r r) (s (jU r) (n (kP ?_)))))))))))))
   obtain rfl:=sm a
   exact jC r (kT r) ⟨r,b⟩
  rw [decide_eq_false d]
  refine jQ r (s (mi r) (jQ r (s (Bi r r) (jQ r (s (jZ r) ?_)))))
  rcases iv a with ⟨e,a⟩|⟨e,a⟩
  ·rw [decide_eq_true e]
   refine jQ r (s (mi r) (jQ r (s (JD r r) (jQ r (s (jN r r) (s (jX r r) (s (jZ r) ?_)))))))
   rcases iv a with ⟨f,a⟩|⟨f,a⟩
   ·rw [decide_eq_true f]
    refine jB r (jB r (s (jN r r) (s (jU r) (n (kP ?_)))))
    obtain rfl:=sm a
    exact jC r (kT r) ⟨r,b⟩
   rw [decide_eq_false f]
   refine jQ r (s (mi r) (jQ r (s (kK r r) (s (jX r r) (s (jU r) (n (kP ?_)))))))
   obtain rfl:=sm a
   exact jC r (kT r) ⟨r,b⟩
  rw [decide_eq_false e]
  refine jB r (jB r (jQ r (s (jX r r) (s (jX r r) (s (jZ r) (jQ r (s (mi r) (jQ r (s (kK r r) (s (jX r r) (s (jU r) (n (kP ?_)))))))))))))
  obtain rfl:=sm a
  exact jC r (kT r) ⟨r,b⟩
 rw [decide_eq_false c]
 refine jB r (jB r (s (jX r r) (s (jZ r) (jQ r (s (mi r) (jQ r (s (Bi r r) (jQ r (s (jZ r) ?_)))))))))
 rcases iv a with ⟨h,a⟩|⟨h,a⟩
 ·rw [decide_eq_true h]
  refine jQ r (s (mi r) (jQ r (s (JD r r) (jQ r (s (jN r r) (s (jX r r) (s (jZ r) ?_)))))))
  rcases iv a with ⟨i,a⟩|⟨i,a⟩
  ·rw [decide_eq_true i]
   refine jB r (jB r (s (jN r r) (s (jU r) (n (kP ?_)))))
   obtain rfl:=sm a
   exact jC r (kT r) ⟨r,b⟩
  rw [decide_eq_false i]
  refine jQ r (s (mi r) (jQ r (s (kK r r) (s (jX r r) (s (jU r) (n (kP ?_)))))))
  obtain rfl:=sm a
  exact jC r (kT r) ⟨r,b⟩
 rw [decide_eq_false h]
 refine jB r (jB r (jQ r (s (jX r r) (s (jX r r) (s (jZ r) (jQ r (s (mi r) (jQ r (s (kK r r) (s (jX r r) (s (jU r) (n (kP ?_)))))))))))))
 obtain rfl:=sm a
 exact jC r (kT r) ⟨r,b⟩
def JK (m:Int→Option (Bool)):Prop:=∀ {a:World} {d:Nat→Prop} {b:Int}  {c:Bool},Pre a d [] []→m b=some c→
 Calls Try.prog 90 #[.int .u8 b] a (rf fun v w=>v=.bool c∧Bx a w d (lT []) [] [])
def vH (fu:Nat)(a:Int):Option (Bool):=
 if 48≤a then
  some (decide (a≤57))
 else
  some false
theorem Bz (fu:Nat):JK (vH fu):=by
 intro f j e h d a
 unfold vH at a
 have b:=d.bx
 clear d
 generalize i:lT _=G at b ⊢
 refine cf Try.func90 r (ma [(0,.int .u8 e)] ⟨r,y⟩ fun k=>q (g (s (jU r) (n (q (g (s (mi r) (s (Bi r r) (s (jZ r) ?_)))))))))
 rcases iv a with ⟨c,a⟩|⟨c,a⟩
 ·rw [decide_eq_true c]
  refine jQ r (s (mi r) (jQ r (s (JD r r) (s (jN r r) (s (jU r) (n (kP ?_)))))))
  obtain rfl:=sm a
  exact jC r (kT r) ⟨r,b⟩
 rw [decide_eq_false c]
 refine jB r (jB r (s (jX r r) (s (jU r) (n (kP ?_)))))
 obtain rfl:=sm a
 exact jC r (kT r) ⟨r,b⟩
def Fu (m:BA→Option (Bool)):Prop:=∀ {a:World} {d:Nat→Prop} {b:BA}  {c:Bool},Pre a d [] []→m b=some c→
 Calls Try.prog 91 #[T b] a (rf fun v w=>v=.bool c∧Bx a w d (lT []) [] [])
def pX (fu:Nat)(a:BA):List BA→Nat→Option (Ld (Unit) (Bool))
 | [],_=>some (.go ())
 | b :: c,d=>
 if b=a then
  some (.out true)
 else
  pX fu a c (d+1)
def vJ (fu:Nat)(a:BA):Option (Bool):=
 (pX fu a ([(⟨#[114,101,99,111,114,100]⟩:BA),(⟨#[102,117,110,99]⟩:BA),(⟨#[118,97,114]⟩:BA),(⟨#[105,110,116]⟩:BA),(⟨#[105,102]⟩:BA),(⟨#[101,108,115,101]⟩:BA),(⟨#[119,104,105,108,101]⟩:BA),(⟨#[114,101,116,117,114,110]⟩:BA),(⟨#[116,104,114,111,119]⟩:BA),(⟨#[116,114,121]⟩:BA),(⟨#[99,97,116,99,104]⟩:BA),(⟨#[112,114,105,110,116]⟩:BA)]:List BA) 0).bind fun b=>b.el (fun _=>
 some false
 ) (fun o=>some o)
theorem FI (fu:Nat):Fu (vJ fu):=by
 intro j I k C v d
 unfold vJ at d
 have b:=v.bx
 clear v
 generalize D:lT _=G at b ⊢
 refine cf Try.func91 r (ma [(0,T k)] ⟨r,y⟩ fun J=>q (g (s (jU r) (n (q (q (g (qF (jV b [[T (⟨#[114,101,99,111,114,100]⟩:BA)],[T (⟨#[102,117,110,99]⟩:BA)],[T (⟨#[118,97,114]⟩:BA)],[T (⟨#[105,110,116]⟩:BA)],[T (⟨#[105,102]⟩:BA)],[T (⟨#[101,108,115,101]⟩:BA)],[T (⟨#[119,104,105,108,101]⟩:BA)],[T (⟨#[114,101,116,117,114,110]⟩:BA)],[T (⟨#[116,104,114,111,119]⟩:BA)],[T (⟨#[116,114,121]⟩:BA)],[T (⟨#[99,97,116,99,104]⟩:BA)],[T (⟨#[112,114,105,110,116]⟩:BA)]] ([(⟨#[114,101,99,111,114,100]⟩:BA),(⟨#[102,117,110,99]⟩:BA),(⟨#[118,97,114]⟩:BA),(⟨#[105,110,116]⟩:BA),(⟨#[105,102]⟩:BA),(⟨#[101,108,115,101]⟩:BA),(⟨#[119,104,105,108,101]⟩:BA),(⟨#[114,101,116,117,114,110]⟩:BA),(⟨#[116,104,114,111,119]⟩:BA),(⟨#[116,114,121]⟩:BA),(⟨#[99,97,116,99,104]⟩:BA),(⟨#[112,114,105,110,116]⟩:BA)]:List BA) (Es r r r r r r r r r r r r) r r (by decide) ⟨r,⟨r,⟨r,⟨r,⟨r,⟨r,⟨r,⟨r,⟨r,⟨r,⟨r,⟨r,y⟩⟩⟩⟩⟩⟩⟩⟩⟩⟩⟩⟩) ?_))))))))
 rintro _ E ⟨m,rfl,b⟩
 refine s (lg kL r) (s (mi r) (n ?_))
 have z:=(b.vw 0 0 r r).bd
 obtain ⟨x,a,d⟩:=bs d
 refine oC (fun f w=>Has f []∧Bx j w I G [O j.heap.size (ad m) 12 9 BA [[T (⟨#[114,101,99,111,114,100]⟩:BA)],[T (⟨#[102,117,110,99]⟩:BA)],[T (⟨#[118,97,114]⟩:BA)],[T (⟨#[105,110,116]⟩:BA)],[T (⟨#[105,102]⟩:BA)],[T (⟨#[101,108,115,101]⟩:BA)],[T (⟨#[119,104,105,108,101]⟩:BA)],[T (⟨#[114,101,116,117,114,110]⟩:BA)],[T (⟨#[116,104,114,111,119]⟩:BA)],[T (⟨#[116,114,121]⟩:BA)],[T (⟨#[99,97,116,99,104]⟩:BA)],[T (⟨#[112,114,105,110,116]⟩:BA)]]] [.els [[T (⟨#[114,101,99,111,114,100]⟩:BA)],[T (⟨#[102,117,110,99]⟩:BA)],[T (⟨#[118,97,114]⟩:BA)],[T (⟨#[105,110,116]⟩:BA)],[T (⟨#[105,102]⟩:BA)],[T (⟨#[101,108,115,101]⟩:BA)],[T (⟨#[119,104,105,108,101]⟩:BA)],[T (⟨#[114,101,116,117,114,110]⟩:BA)],[T (⟨#[116,104,114,111,119]⟩:BA)],[T (⟨#[116,114,121]⟩:BA)],[T (⟨#[99,97,116,99,104]⟩:BA)],[T (⟨#[112,114,105,110,116]⟩:BA)]] ([(⟨#[114,101,99,111,114,100]⟩:BA),(⟨#[102,117,110,99]⟩:BA),(⟨#[118,97,114]⟩:BA),(⟨#[105,110,116]⟩:BA),(⟨#[105,102]⟩:BA),(⟨#[101,108,115,101]⟩:BA),(⟨#[119,104,105,108,101]⟩:BA),(⟨#[114,101,116,117,114,110]⟩:BA),(⟨#[116,104,114,111,119]⟩:BA),(⟨#[116,114,121]⟩:BA),(⟨#[99,97,116,99,104]⟩:BA),(⟨#[112,114,105,110,116]⟩:BA)]:List BA)]∧Ld.go ()=x) (fun F o=>?_) ?_
 ·refine nZ (kH (fun K f w=>∃ (c:Nat),K=([(⟨#[114,101,99,111,114,100]⟩:BA),(⟨#[102,117,110,99]⟩:BA),(⟨#[118,97,114]⟩:BA),(⟨#[105,110,116]⟩:BA),(⟨#[105,102]⟩:BA),(⟨#[101,108,115,101]⟩:BA),(⟨#[119,104,105,108,101]⟩:BA),(⟨#[114,101,116,117,114,110]⟩:BA),(⟨#[116,104,114,111,119]⟩:BA),(⟨#[116,114,121]⟩:BA),(⟨#[99,97,116,99,104]⟩:BA),(⟨#[112,114,105,110,116]⟩:BA)]:List BA).length - c∧c≤([(⟨#[114,101,99,111,114,100]⟩:BA),(⟨#[102,117,110,99]⟩:BA),(⟨#[118,97,114]⟩:BA),(⟨#[105,110,116]⟩:BA),(⟨#[105,102]⟩:BA),(⟨#[101,108,115,101]⟩:BA),(⟨#[119,104,105,108,101]⟩:BA),(⟨#[114,101,116,117,114,110]⟩:BA),(⟨#[116,104,114,111,119]⟩:BA),(⟨#[116,114,121]⟩:BA),(⟨#[99,97,116,99,104]⟩:BA),(⟨#[112,114,105,110,116]⟩:BA)]:List BA).length∧Has f [(7,V (c:Int)),(0,T k),(5,.slice (ad m) ([(⟨#[114,101,99,111,114,100]⟩:BA),(⟨#[102,117,110,99]⟩:BA),(⟨#[118,97,114]⟩:BA),(⟨#[105,110,116]⟩:BA),(⟨#[105,102]⟩:BA),(⟨#[101,108,115,101]⟩:BA),(⟨#[119,104,105,108,101]⟩:BA),(⟨#[114,101,116,117,114,110]⟩:BA),(⟨#[116,104,114,111,119]⟩:BA),(⟨#[116,114,121]⟩:BA),(⟨#[99,97,116,99,104]⟩:BA),(⟨#[112,114,105,110,116]⟩:BA)]:List BA).length 12),(6,V ((([(⟨#[114,101,99,111,114,100]⟩:BA),(⟨#[102,117,110,99]⟩:BA),(⟨#[118,97,114]⟩:BA),(⟨#[105,110,116]⟩:BA),(⟨#[105,102]⟩:BA),(⟨#[101,108,115,101]⟩:BA),(⟨#[119,104,105,108,101]⟩:BA),(⟨#[114,101,116,117,114,110]⟩:BA),(⟨#[116,104,114,111,119]⟩:BA),(⟨#[116,114,121]⟩:BA),(⟨#[99,97,116,99,104]⟩:BA),(⟨#[112,114,105,110,116]⟩:BA)]:List BA).length:Nat):Int))]∧Bx j w I G [O j.heap.size (ad m) 12 9 BA [[T (⟨#[114,101,99,111,114,100]⟩:BA)],[T (⟨#[102,117,110,99]⟩:BA)],[T (⟨#[118,97,114]⟩:BA)],[T (⟨#[105,110,116]⟩:BA)],[T (⟨#[105,102]⟩:BA)],[T (⟨#[101,108,115,101]⟩:BA)],[T (⟨#[119,104,105,108,101]⟩:BA)],[T (⟨#[114,101,116,117,114,110]⟩:BA)],[T (⟨#[116,104,114,111,119]⟩:BA)],[T (⟨#[116,114,121]⟩:BA)],[T (⟨#[99,97,116,99,104]⟩:BA)],[T (⟨#[112,114,105,110,116]⟩:BA)]]] [.els [[T (⟨#[114,101,99,111,114,100]⟩:BA)],[T (⟨#[102,117,110,99]⟩:BA)],[T (⟨#[118,97,114]⟩:BA)],[T (⟨#[105,110,116]⟩:BA)],[T (⟨#[105,102]⟩:BA)],[T (⟨#[101,108,115,101]⟩:BA)],[T (⟨#[119,104,105,108,101]⟩:BA)],[T (⟨#[114,101,116,117,114,110]⟩:BA)],[T (⟨#[116,104,114,111,119]⟩:BA)],[T (⟨#[116,114,121]⟩:BA)],[T (⟨#[99,97,116,99,104]⟩:BA)],[T (⟨#[112,114,105,110,116]⟩:BA)]] ([(⟨#[114,101,99,111,114,100]⟩:BA),(⟨#[102,117,110,99]⟩:BA),(⟨#[118,97,114]⟩:BA),(⟨#[105,110,116]⟩:BA),(⟨#[105,102]⟩:BA),(⟨#[101,108,115,101]⟩:BA),(⟨#[119,104,105,108,101]⟩:BA),(⟨#[114,101,116,117,114,110]⟩:BA),(⟨#[116,104,114,111,119]⟩:BA),(⟨#[116,114,121]⟩:BA),(⟨#[99,97,116,99,104]⟩:BA),(⟨#[112,114,105,110,116]⟩:BA)]:List BA)]∧pX fu k (([(⟨#[114,101,99,111,114,100]⟩:BA),(⟨#[102,117,110,99]⟩:BA),(⟨#[118,97,114]⟩:BA),(⟨#[105,110,116]⟩:BA),(⟨#[105,102]⟩:BA),(⟨#[101,108,115,101]⟩:BA),(⟨#[119,104,105,108,101]⟩:BA),(⟨#[114,101,116,117,114,110]⟩:BA),(⟨#[116,104,114,111,119]⟩:BA),(⟨#[116,114,121]⟩:BA),(⟨#[99,97,116,99,104]⟩:BA),(⟨#[112,114,105,110,116]⟩:BA)]:List BA).drop c) c=some x) (([(⟨#[114,101,99,111,114,100]⟩:BA),(⟨#[102,117,110,99]⟩:BA),(⟨#[118,97,114]⟩:BA),(⟨#[105,110,116]⟩:BA),(⟨#[105,102]⟩:BA),(⟨#[101,108,115,101]⟩:BA),(⟨#[119,104,105,108,101]⟩:BA),(⟨#[114,101,116,117,114,110]⟩:BA),(⟨#[116,104,114,111,119]⟩:BA),(⟨#[116,114,121]⟩:BA),(⟨#[99,97,116,99,104]⟩:BA),(⟨#[112,114,105,110,116]⟩:BA)]:List BA).length) ⟨0,r,Nat.zero_le _,⟨r,r,r,r,y⟩,b,a⟩ ?_)
  clear b a
  rintro K f w ⟨c,rfl,A,hf,b,a⟩ H p
  obtain ⟨J,rfl⟩:=gP _ _ hf
  clear hf
  rcases Nat.lt_or_ge c ([(⟨#[114,101,99,111,114,100]⟩:BA),(⟨#[102,117,110,99]⟩:BA),(⟨#[118,97,114]⟩:BA),(⟨#[105,110,116]⟩:BA),(⟨#[105,102]⟩:BA),(⟨#[101,108,115,101]⟩:BA),(⟨#[119,104,105,108,101]⟩:BA),(⟨#[114,101,116,117,114,110]⟩:BA),(⟨#[116,104,114,111,119]⟩:BA),(⟨#[116,114,121]⟩:BA),(⟨#[99,97,116,99,104]⟩:BA),(⟨#[112,114,105,110,116]⟩:BA)]:List BA).length with i | i
  ·obtain ⟨B,e⟩:=lL (l:=([(⟨#[114,101,99,111,114,100]⟩:BA),(⟨#[102,117,110,99]⟩:BA),(⟨#[118,97,114]⟩:BA),(⟨#[105,110,116]⟩:BA),(⟨#[105,102]⟩:BA),(⟨#[101,108,115,101]⟩:BA),(⟨#[119,104,105,108,101]⟩:BA),(⟨#[114,101,116,117,114,110]⟩:BA),(⟨#[116,104,114,111,119]⟩:BA),(⟨#[116,114,121]⟩:BA),(⟨#[99,97,116,99,104]⟩:BA),(⟨#[112,114,105,110,116]⟩:BA)]:List BA)) i
   rw [mQ e,pX] at a
   refine q (g (s (qK r r (by omega)) (n (q (jH r (wk (q (nZ (q (g (s (kZ kL pV r r r (b.vw 0 0 r r) e) (s (kz rH r r ((vo (ds:=[T B]) (b.vw 0 0 r r) e (fun _ h=>h)) 0 _ r)) (s (mZ r) (n (q (g (s (lc r) (s (lc r) (s (rT r r) (n ?_))))))))))))))))))))
   rcases iv a with ⟨t,a⟩|⟨t,a⟩
   ·refine jH (bt t) (q (g (s (jU r) (n (kP ?_)))))
    obtain rfl:=sm a
    replace d:=oi d
    obtain rfl:=sm d
    exact jC r (kT r) ⟨r,(b.ad [] [])⟩
   exact jI (bf t) (wk (g (s (mg r r (by omega) (by omega)) (s (mi r) (n (p (([(⟨#[114,101,99,111,114,100]⟩:BA),(⟨#[102,117,110,99]⟩:BA),(⟨#[118,97,114]⟩:BA),(⟨#[105,110,116]⟩:BA),(⟨#[105,102]⟩:BA),(⟨#[101,108,115,101]⟩:BA),(⟨#[119,104,105,108,101]⟩:BA),(⟨#[114,101,116,117,114,110]⟩:BA),(⟨#[116,104,114,111,119]⟩:BA),(⟨#[116,114,121]⟩:BA),(⟨#[99,97,116,99,104]⟩:BA),(⟨#[112,114,105,110,116]⟩:BA)]:List BA).length - (c+1)) _ _ (by omega) ⟨c+1,r,by omega,⟨r,r,r,r,y⟩,b,a⟩))))))
  obtain rfl:c=([(⟨#[114,101,99,111,114,100]⟩:BA),(⟨#[102,117,110,99]⟩:BA),(⟨#[118,97,114]⟩:BA),(⟨#[105,110,116]⟩:BA),(⟨#[105,102]⟩:BA),(⟨#[101,108,115,101]⟩:BA),(⟨#[119,104,105,108,101]⟩:BA),(⟨#[114,101,116,117,114,110]⟩:BA),(⟨#[116,104,114,111,119]⟩:BA),(⟨#[116,114,121]⟩:BA),(⟨#[99,97,116,99,104]⟩:BA),(⟨#[112,114,105,110,116]⟩:BA)]:List BA).length:=by omega
  rw [lH,pX] at a
  exact q (g (s (qL r r (by omega)) (n (q (jI r (uW (o _ _ ⟨y,b,sm a⟩)))))))
 clear b
 rintro f w ⟨hf,b,u⟩
 obtain ⟨J,rfl⟩:=gP _ _ hf
 clear hf
 subst u
 replace d:=gi d
 refine q (g (s (jU r) (n (kP ?_))))
 obtain rfl:=sm d
 exact jC r (kT r) ⟨r,(b.ad [] [])⟩
def Li (m:BA→Int→Option (BA)):Prop:=∀ {a:World} {e:Nat→Prop} {b:BA} {c:Int}  {d:BA},Pre a e [] []→m b c=some d→
 Calls Try.prog 92 #[T b,V c] a (rf fun v w=>v=T d∧Bx a w e (lT []) [] [])
def uu (fu:Nat)(b:BA) (a:Int):List BA→Nat→Option (Ld (Unit) (BA))
 | [],_=>some (.go ())
 | c :: d,e=>
 (KA b a (wr (a+2))).bind fun f=>
 if f=c then
  some (.out c)
 else
  uu fu b a d (e+1)
def zi (fu:Nat)(a:BA) (b:Int):Option (Ld (Unit) (BA)):=
 if (wr (b+1)) < (a.size:Int) then
  (uu fu a b ([(⟨#[60,61]⟩:BA),(⟨#[61,61]⟩:BA),(⟨#[33,61]⟩:BA)]:List BA) 0).bind fun c=>c.el (fun _=>
  some (.go ())
  ) (fun o=>some (.out o))
 else
  some (.go ())
def uC (fu:Nat)(b:BA) (a:Int):List Ei→Nat→Option (Ld (Unit) (BA))
 | [],_=>some (.go ())
 | e :: f,h=>
 (AQ b a).bind fun c=>
 if c=e.n then
  (KA b a (wr (a+1))).bind fun d=>
  some (.out d)
 else
  uC fu b a f (h+1)
def Aw (fu:Nat)(a:BA) (b:Int):Option (BA):=
 (zi fu a b).bind fun c=>c.el (fun _=>
 (uC fu a b ([⟨40⟩,⟨41⟩,⟨123⟩,⟨125⟩,⟨91⟩,⟨93⟩,⟨44⟩,⟨59⟩,⟨58⟩,⟨46⟩,⟨43⟩,⟨45⟩,⟨42⟩,⟨47⟩,⟨37⟩,⟨38⟩,⟨124⟩,⟨94⟩,⟨60⟩,⟨61⟩,⟨33⟩]:List Ei) 0).bind fun c=>c.el (fun _=>
 some (⟨#[]⟩:BA)
 ) (fun o=>some o)
 ) (fun o=>some o)
theorem Ky (fu:Nat):Li (Aw fu):=by
 intro k ah m o r0 R e
 unfold Aw at e
 have a:=R.bx
 clear R
 generalize hG:lT _=G at a ⊢
 refine cf Try.func92 r (ma [(0,T m),(1,V o)] ⟨r,r,y⟩ fun ai=>q (g (s (mZ r) (n (q ?_)))))
 obtain ⟨W,c,e⟩:=bs e
 refine oC (fun f w=>Has f [(0,T m),(1,V o)]∧Bx k w ah G [] []∧Ld.go ()=W) (fun J1 v=>?_) ?_
 ·unfold zi at c
  refine q (g (s (mi r) (s (kN r r) (s (lc r) (s (Be rH r) (s (qB r r) (n ?_)))))))
  rcases iv c with ⟨C,c⟩|⟨C,c⟩
  ·refine jH (bt C) (q (g (qF (jV a [[T (⟨#[60,61]⟩:BA)],[T (⟨#[61,61]⟩:BA)],[T (⟨#[33,61]⟩:BA)]] ([(⟨#[60,61]⟩:BA),(⟨#[61,61]⟩:BA),(⟨#[33,61]⟩:BA)]:List BA) (OJ r r r) r r (by decide) ⟨r,⟨r,⟨r,y⟩⟩⟩) ?_)))
   rintro _ w3 ⟨D,rfl,a⟩
   refine s (lg kL r) (s (mi r) (n ?_))
   have X:=(a.vw 0 0 r r).bd
   obtain ⟨S,d,c⟩:=bs c
   refine oC (fun f w=>Has f [(0,T m),(1,V o)]∧Bx k w ah G [O k.heap.size (ad D) 3 9 BA [[T (⟨#[60,61]⟩:BA)],[T (⟨#[61,61]⟩:BA)],[T (⟨#[33,61]⟩:BA)]]] [.els [[T (⟨#[60,61]⟩:BA)],[T (⟨#[61,61]⟩:BA)],[T (⟨#[33,61]⟩:BA)]] ([(⟨#[60,61]⟩:BA),(⟨#[61,61]⟩:BA),(⟨#[33,61]⟩:BA)]:List BA)]∧Ld.go ()=S) (fun J4 E=>?_) ?_
   ·refine nZ (kH (fun aj f w=>∃ (i:Nat),aj=([(⟨#[60,61]⟩:BA),(⟨#[61,61]⟩:BA),(⟨#[33,61]⟩:BA)]:List BA).length - i∧i≤([(⟨#[60,61]⟩:BA),(⟨#[61,61]⟩:BA),(⟨#[33,61]⟩:BA)]:List BA).length∧Has f [(16,V (i:Int)),(0,T m),(1,V o),(14,.slice (ad D) ([(⟨#[60,61]⟩:BA),(⟨#[61,61]⟩:BA),(⟨#[33,61]⟩:BA)]:List BA).length 3),(15,V ((([(⟨#[60,61]⟩:BA),(⟨#[61,61]⟩:BA),(⟨#[33,61]⟩:BA)]:List BA).length:Nat):Int))]∧Bx k w ah G [O k.heap.size (ad D) 3 9 BA [[T (⟨#[60,61]⟩:BA)],[T (⟨#[61,61]⟩:BA)],[T (⟨#[33,61]⟩:BA)]]] [.els [[T (⟨#[60,61]⟩:BA)],[T (⟨#[61,61]⟩:BA)],[T (⟨#[33,61]⟩:BA)]] ([(⟨#[60,61]⟩:BA),(⟨#[61,61]⟩:BA),(⟨#[33,61]⟩:BA)]:List BA)]∧uu fu m o (([(⟨#[60,61]⟩:BA),(⟨#[61,61]⟩:BA),(⟨#[33,61]⟩:BA)]:List BA).drop i) i=some S) (([(⟨#[60,61]⟩:BA),(⟨#[61,61]⟩:BA),(⟨#[33,61]⟩:BA)]:List BA).length) ⟨0,r,Nat.zero_le _,⟨r,r,r,r,r,y⟩,a,d⟩ ?_)
    clear a d
    rintro aj f w ⟨i,rfl,Y,hf,a,d⟩ K4 F
    obtain ⟨ai,rfl⟩:=gP _ _ hf
    clear hf
    rcases Nat.lt_or_ge i ([(⟨#[60,61]⟩:BA),(⟨#[61,61]⟩:BA),(⟨#[33,61]⟩:BA)]:List BA).length with x | x
    ·obtain ⟨u4,p⟩:=lL (l:=([(⟨#[60,61]⟩:BA),(⟨#[61,61]⟩:BA),(⟨#[33,61]⟩:BA)]:List BA)) x
     rw [mQ p,uu] at d
     refine q (g (s (qK r r (by omega)) (n (q (jH r (wk (q (nZ (q (g (s (kZ kL pV r r r (a.vw 0 0 r r) p) (s (kz rH r r ((vo (ds:=[T u4]) (a.vw 0 0 r r) p (fun _ h=>h)) 0 _ r)) (s (mZ r) (n (q (g (s (lc r) (s (mi r) (s (mi r) (s (kN r r) ?_))))))))))))))))))))
     obtain ⟨g5,H,d⟩:=bs d
     refine s (RZ rH r r r H) (s (lc r) (s (rT r r) (n ?_)))
     rcases iv d with ⟨I,d⟩|⟨I,d⟩
     ·refine jH (bt I) (q (g (s (lc r) (s (mZ r) (n (kP ?_))))))
      obtain rfl:=sm d
      replace c:=oi c
      obtain rfl:=sm c
      replace e:=oi e
      obtain rfl:=sm e
      exact jC r (kT r) ⟨r,(a.ad [] [])⟩
     exact jI (bf I) (wk (g (s (mg r r (by omega) (by omega)) (s (mi r) (n (F (([(⟨#[60,61]⟩:BA),(⟨#[61,61]⟩:BA),(⟨#[33,61]⟩:BA)]:List BA).length - (i+1)) _ _ (by omega) ⟨i+1,r,by omega,⟨r,r,r,r,r,y⟩,a,d⟩))))))
    obtain rfl:i=([(⟨#[60,61]⟩:BA),(⟨#[61,61]⟩:BA),(⟨#[33,61]⟩:BA)]:List BA).length:=by omega
    rw [lH,uu] at d
    exact q (g (s (qL r r (by omega)) (n (q (jI r (uW (E _ _ ⟨⟨r,r,y⟩,a,sm d⟩)))))))
   clear a
   rintro f w ⟨hf,a,J⟩
   obtain ⟨ai,rfl⟩:=gP _ _ hf
   clear hf
   subst J
   replace c:=gi c
   exact v _ _ ⟨⟨r,r,y⟩,(a.ad [] []),sm c⟩
  exact jI (bf C) (wk (v _ _ ⟨⟨r,r,y⟩,a,sm c⟩))
 clear a
 rintro f w ⟨hf,a,K⟩
 obtain ⟨ai,rfl⟩:=gP _ _ hf
 clear hf
 subst K
 replace e:=gi e
 refine q (q (g (qF (jV a [[.int .u8 40],[.int .u8 41],[.int .u8 123],[.int .u8 125],[.int .u8 91],[.int .u8 93],[.int .u8 44],[.int .u8 59],[.int .u8 58],[.int .u8 46],[.int .u8 43],[.int .u8 45],[.int .u8 42],[.int .u8 47],[.int .u8 37],[.int .u8 38],[.int .u8 124],[.int .u8 94],[.int .u8 60],[.int .u8 61],[.int .u8 33]] ([⟨40⟩,⟨41⟩,⟨123⟩,⟨125⟩,⟨91⟩,⟨93⟩,⟨44⟩,⟨59⟩,⟨58⟩,⟨46⟩,⟨43⟩,⟨45⟩,⟨42⟩,⟨47⟩,⟨37⟩,⟨38⟩,⟨124⟩,⟨94⟩,⟨60⟩,⟨61⟩,⟨33⟩]:List Ei) (Ml r r r r r r r r r r r r r r r r r r r r r) r r (by decide) ⟨r,⟨r,⟨r,⟨r,⟨r,⟨r,⟨r,⟨r,⟨r,⟨r,⟨r,⟨r,⟨r,⟨r,⟨r,⟨r,⟨r,⟨r,⟨r,⟨r,⟨r,y⟩⟩⟩⟩⟩⟩⟩⟩⟩⟩⟩⟩⟩⟩⟩⟩⟩⟩⟩⟩⟩) ?_)))
 rintro _ w7 ⟨L,rfl,a⟩
 refine qF (UG a 0 0 r r MO TU r) ?_
 rintro _ w8 ⟨rfl,a⟩
 try dsimp only [List.eraseIdx] at a
 refine s (lg MO r) (s (mi r) (n ?_))
 have a1:=(a.dl 0 r).bd
 obtain ⟨U,b,e⟩:=bs e
 refine oC (fun f w=>Has f []∧Bx k w ah G [] [.l (ad L) 21 ([⟨40⟩,⟨41⟩,⟨123⟩,⟨125⟩,⟨91⟩,⟨93⟩,⟨44⟩,⟨59⟩,⟨58⟩,⟨46⟩,⟨43⟩,⟨45⟩,⟨42⟩,⟨47⟩,⟨37⟩,⟨38⟩,⟨124⟩,⟨94⟩,⟨60⟩,⟨61⟩,⟨33⟩]:List Ei)]∧Ld.go ()=U) (fun J9 M=>?_) ?_
 ·refine nZ (kH (fun aj f w=>∃ (j:Nat),aj=([⟨40⟩,⟨41⟩,⟨123⟩,⟨125⟩,⟨91⟩,⟨93⟩,⟨44⟩,⟨59⟩,⟨58⟩,⟨46⟩,⟨43⟩,⟨45⟩,⟨42⟩,⟨47⟩,⟨37⟩,⟨38⟩,⟨124⟩,⟨94⟩,⟨60⟩,⟨61⟩,⟨33⟩]:List Ei).length - j∧j≤([⟨40⟩,⟨41⟩,⟨123⟩,⟨125⟩,⟨91⟩,⟨93⟩,⟨44⟩,⟨59⟩,⟨58⟩,⟨46⟩,⟨43⟩,⟨45⟩,⟨42⟩,⟨47⟩,⟨37⟩,⟨38⟩,⟨124⟩,⟨94⟩,⟨60⟩,⟨61⟩,⟨33⟩]:List Ei).length∧Has f [(32,V (j:Int)),(0,T m),(1,V o),(30,.slice (ad L) ([⟨40⟩,⟨41⟩,⟨123⟩,⟨125⟩,⟨91⟩,⟨93⟩,⟨44⟩,⟨59⟩,⟨58⟩,⟨46⟩,⟨43⟩,⟨45⟩,⟨42⟩,⟨47⟩,⟨37⟩,⟨38⟩,⟨124⟩,⟨94⟩,⟨60⟩,⟨61⟩,⟨33⟩]:List Ei).length 21),(31,V ((([⟨40⟩,⟨41⟩,⟨123⟩,⟨125⟩,⟨91⟩,⟨93⟩,⟨44⟩,⟨59⟩,⟨58⟩,⟨46⟩,⟨43⟩,⟨45⟩,⟨42⟩,⟨47⟩,⟨37⟩,⟨38⟩,⟨124⟩,⟨94⟩,⟨60⟩,⟨61⟩,⟨33⟩]:List Ei).length:Nat):Int))]∧Bx k w ah G [] [.l (ad L) 21 ([⟨40⟩,⟨41⟩,⟨123⟩,⟨125⟩,⟨91⟩,⟨93⟩,⟨44⟩,⟨59⟩,⟨58⟩,⟨46⟩,⟨43⟩,⟨45⟩,⟨42⟩,⟨47⟩,⟨37⟩,⟨38⟩,⟨124⟩,⟨94⟩,⟨60⟩,⟨61⟩,⟨33⟩]:List Ei)]∧uC fu m o (([⟨40⟩,⟨41⟩,⟨123⟩,⟨125⟩,⟨91⟩,⟨93⟩,⟨44⟩,⟨59⟩,⟨58⟩,⟨46⟩,⟨43⟩,⟨45⟩,⟨42⟩,⟨47⟩,⟨37⟩,⟨38⟩,⟨124⟩,⟨94⟩,⟨60⟩,⟨61⟩,⟨33⟩]:List Ei).drop j) j=some U) (([⟨40⟩,⟨41⟩,⟨123⟩,⟨125⟩,⟨91⟩,⟨93⟩,⟨44⟩,⟨59⟩,⟨58⟩,⟨46⟩,⟨43⟩,⟨45⟩,⟨42⟩,⟨47⟩,⟨37⟩,⟨38⟩,⟨124⟩,⟨94⟩,⟨60⟩,⟨61⟩,⟨33⟩]:List Ei).length) ⟨0,r,Nat.zero_le _,⟨r,r,r,r,r,y⟩,a,b⟩ ?_)
  clear a b
  rintro aj f w ⟨j,rfl,a2,hf,a,b⟩ K9 N
  obtain ⟨ai,rfl⟩:=gP _ _ hf
  clear hf
  rcases Nat.lt_or_ge j ([⟨40⟩,⟨41⟩,⟨123⟩,⟨125⟩,⟨91⟩,⟨93⟩,⟨44⟩,⟨59⟩,⟨58⟩,⟨46⟩,⟨43⟩,⟨45⟩,⟨42⟩,⟨47⟩,⟨37⟩,⟨38⟩,⟨124⟩,⟨94⟩,⟨60⟩,⟨61⟩,⟨33⟩]:List Ei).length with z | z
  ·obtain ⟨u9,t⟩:=lL (l:=([⟨40⟩,⟨41⟩,⟨123⟩,⟨125⟩,⟨91⟩,⟨93⟩,⟨44⟩,⟨59⟩,⟨58⟩,⟨46⟩,⟨43⟩,⟨45⟩,⟨42⟩,⟨47⟩,⟨37⟩,⟨38⟩,⟨124⟩,⟨94⟩,⟨60⟩,⟨61⟩,⟨33⟩]:List Ei)) z
   rw [mQ t,uC] at b
   refine q (g (s (qK r r (by omega)) (n (q (jH r (wk (q (nZ (q (g (s (kZ MO VN r r r (a.dl 0 r) t) (s (kz TU r r ((vo (ds:=[.int .u8 u9.n]) (a.dl 0 r) t (fun _ h=>h)) 0 _ r)) (s (xi r) (n (q (g (s (lc r) (s (mi r) ?_))))))))))))))))))
   obtain ⟨a4,A,b⟩:=bs b
   refine s (BB rH r r A) (s (mi r) (s (kK r r) (n ?_)))
   rcases iv b with ⟨u,b⟩|⟨u,b⟩
   ·refine jH (bt u) (q (g (s (lc r) (s (mi r) (s (mi r) (s (kN r r) ?_))))))
    obtain ⟨a5,B,b⟩:=bs b
    refine s (RZ rH r r r B) (s (mZ r) (n (kP ?_)))
    obtain rfl:=sm b
    replace e:=oi e
    obtain rfl:=sm e
    exact jC r (kT r) ⟨r,(a.dp [])⟩
   exact jI (bf u) (wk (g (s (mg r r (by omega) (by omega)) (s (mi r) (n (N (([⟨40⟩,⟨41⟩,⟨123⟩,⟨125⟩,⟨91⟩,⟨93⟩,⟨44⟩,⟨59⟩,⟨58⟩,⟨46⟩,⟨43⟩,⟨45⟩,⟨42⟩,⟨47⟩,⟨37⟩,⟨38⟩,⟨124⟩,⟨94⟩,⟨60⟩,⟨61⟩,⟨33⟩]:List Ei).length - (j+1)) _ _ (by omega) ⟨j+1,r,by omega,⟨r,r,r,r,r,y⟩,a,b⟩))))))
  obtain rfl:j=([⟨40⟩,⟨41⟩,⟨123⟩,⟨125⟩,⟨91⟩,⟨93⟩,⟨44⟩,⟨59⟩,⟨58⟩,⟨46⟩,⟨43⟩,⟨45⟩,⟨42⟩,⟨47⟩,⟨37⟩,⟨38⟩,⟨124⟩,⟨94⟩,⟨60⟩,⟨61⟩,⟨33⟩]:List Ei).length:=by omega
  rw [lH,uC] at b
  exact q (g (s (qL r r (by omega)) (n (q (jI r (uW (M _ _ ⟨y,a,sm b⟩)))))))
 clear a
 rintro f w ⟨hf,a,Q⟩
 obtain ⟨ai,rfl⟩:=gP _ _ hf
 clear hf
 subst Q
 replace e:=gi e
 refine q (g (s (mZ r) (n (kP ?_))))
 obtain rfl:=sm e
 exact jC r (kT r) ⟨r,(a.dp [])⟩
def KD (m:Int→Option (Int)):Prop:=∀ {a:World} {d:Nat→Prop} {b:Int}  {c:Int},Pre a d [] []→m b=some c→
 Calls Try.prog 106 #[V b] a (rf fun v w=>v=V c∧Bx a w d (lT []) [] [])
def yX (fu:Nat)(a:Int):Option (Ld (Bool) (Int)):=
 if a=14 then
  some (.go (decide (a=14)))
 else
  if a=15 then
   some (.go (decide (a=15)))
  else
   if a=16 then
    some (.go (decide (a=16)))
   else
    some (.go (decide (a=17)))
def zn (fu:Nat)(a:Int):Option (Ld (Bool) (Int)):=
 if a=11 then
  some (.go (decide (a=11)))
 else
  if a=12 then
   some (.go (decide (a=12)))
  else
   some (.go (decide (a=13)))
def zt (fu:Nat)(a:Int):Option (Ld (Bool) (Int)):=
 if a=6 then
  some (.go (decide (a=6)))
 else
  some (.go (decide (a=7)))
def Aq (fu:Nat)(a:Int):Option (Int):=
 (yX fu a).bind fun e=>e.el (fun c=>
 if c=true then
  some 1
 else
  (zn fu a).bind fun e=>e.el (fun d=>
  if d=true then
   some 2
  else
   (zt fu a).bind fun e=>e.el (fun b=>
   if b=true then
    some 3
   else
    if a=8 then
     some 4
    else
     if a=9 then
      some 4
     else
      if a=10 then
       some 4
      else
       if a=4 then
        some 5
       else
        if a=5 then
         some 5
        else
         some 6
   ) (fun o=>some o)
  ) (fun o=>some o)
 ) (fun o=>some o)
theorem KY (fu:Nat):KD (Aq fu):=by
 intro E a1 i W Q a
 unfold Aq at a
 have c:=Q.bx
 clear Q
 generalize X:lT _=G at c ⊢
 refine cf Try.func106 r (ma [(0,V i)] ⟨r,y⟩ fun a2=>q (g (s (xi r) (n (q (q (g (s (mi r) (n (nZ (q ?_)))))))))))
 obtain ⟨R,b,a⟩:=bs a
 refine oC (fun f w=>∃ (j:Bool),Has f [(3,V i),(4,.bool j)]∧Bx E w a1 G [] []∧Ld.go j=R) (fun Y m=>?_) ?_
 ·unfold yX at b
  refine q (g (s (kK r r) (s (jU r) (n ?_))))
  rcases iv b with ⟨F,b⟩|⟨F,b⟩
  ·exact jH (bt F) (wk (m _ _ ⟨(decide (i=14)),⟨r,r,y⟩,c,sm b⟩))
  refine jI (bf F) (q (g (s (kK r r) (s (jU r) (n ?_)))))
  rcases iv b with ⟨H,b⟩|⟨H,b⟩
  ·exact jH (bt H) (wk (m _ _ ⟨(decide (i=15)),⟨r,r,y⟩,c,sm b⟩))
  refine jI (bf H) (q (g (s (kK r r) (s (jU r) (n ?_)))))
  rcases iv b with ⟨I,b⟩|⟨I,b⟩
  ·exact jH (bt I) (wk (m _ _ ⟨(decide (i=16)),⟨r,r,y⟩,c,sm b⟩))
  exact jI (bf I) (g (s (kK r r) (s (jU r) (n (m _ _ ⟨(decide (i=17)),⟨r,r,y⟩,c,sm b⟩)))))
 clear c
 rintro f w ⟨j,hf,c,J⟩
 obtain ⟨a2,rfl⟩:=gP _ _ hf
 clear hf
 subst J
 replace a:=gi a
 rcases iv a with ⟨B,a⟩|⟨B,a⟩
 ·refine jH (cb B) (q (g (s (xi r) (n (kP ?_)))))
  obtain rfl:=sm a
  exact jC r (kT r) ⟨r,c⟩
 replace B:=nt B
 refine jI (cb B) (q ?_)
 obtain ⟨S,d,a⟩:=bs a
 refine oC (fun f w=>∃ (k:Bool),Has f [(3,V i),(9,.bool k)]∧Bx E w a1 G [] []∧Ld.go k=S) (fun J6 v=>?_) ?_
 ·unfold zn at d
  refine q (g (s (kK r r) (s (jU r) (n ?_))))
  rcases iv d with ⟨K,d⟩|⟨K,d⟩
  ·exact jH (bt K) (wk (v _ _ ⟨(decide (i=11)),⟨r,r,y⟩,c,sm d⟩))
  refine jI (bf K) (q (g (s (kK r r) (s (jU r) (n ?_)))))
  rcases iv d with ⟨L,d⟩|⟨L,d⟩
  ·exact jH (bt L) (wk (v _ _ ⟨(decide (i=12)),⟨r,r,y⟩,c,sm d⟩))
  exact jI (bf L) (g (s (kK r r) (s (jU r) (n (v _ _ ⟨(decide (i=13)),⟨r,r,y⟩,c,sm d⟩)))))
 clear c
 rintro f w ⟨k,hf,c,M⟩
 obtain ⟨a2,rfl⟩:=gP _ _ hf
 clear hf
 subst M
 replace a:=gi a
 rcases iv a with ⟨C,a⟩|⟨C,a⟩
 ·refine jH (cb C) (q (g (s (xi r) (n (kP ?_)))))
  obtain rfl:=sm a
  exact jC r (kT r) ⟨r,c⟩
 replace C:=nt C
 refine jI (cb C) (q ?_)
 obtain ⟨N,e,a⟩:=bs a
 refine oC (fun f w=>∃ (h:Bool),Has f [(3,V i),(13,.bool h)]∧Bx E w a1 G [] []∧Ld.go h=N) (fun U u=>?_) ?_
 ·unfold zt at e
  refine q (g (s (kK r r) (s (jU r) (n ?_))))
  rcases iv e with ⟨x,e⟩|⟨x,e⟩
  ·exact jH (bt x) (wk (u _ _ ⟨(decide (i=6)),⟨r,r,y⟩,c,sm e⟩))
  exact jI (bf x) (g (s (kK r r) (s (jU r) (n (u _ _ ⟨(decide (i=7)),⟨r,r,y⟩,c,sm e⟩)))))
 clear c
 rintro f w ⟨h,hf,c,D⟩
 obtain ⟨a2,rfl⟩:=gP _ _ hf
 clear hf
 subst D
 replace a:=gi a
 rcases iv a with ⟨l,a⟩|⟨l,a⟩
 ·refine jH (cb l) (q (g (s (xi r) (n (kP ?_)))))
  obtain rfl:=sm a
  exact jC r (kT r) ⟨r,c⟩
 replace l:=nt l
 refine jI (cb l) (q (q (g (s (kK r r) (s (jU r) (n ?_))))))
 rcases iv a with ⟨o,a⟩|⟨o,a⟩
 ·refine jH (bt o) (wk ?_)
  rw [decide_eq_true o]
  refine jH r (q (g (s (xi r) (n (kP ?_)))))
  obtain rfl:=sm a
  exact jC r (kT r) ⟨r,c⟩
 refine jI (bf o) (q (g (s (kK r r) (s (jU r) (n ?_)))))
 rcases iv a with ⟨p,a⟩|⟨p,a⟩
 ·refine jH (bt p) (wk ?_)
  rw [decide_eq_true p]
  refine jH r (q (g (s (xi r) (n (kP ?_)))))
  obtain rfl:=sm a
  exact jC r (kT r) ⟨r,c⟩
 refine jI (bf p) (g (s (kK r r) (s (jU r) (n ?_))))
 rcases iv a with ⟨z,a⟩|⟨z,a⟩
 ·refine jH (bt z) (q (g (s (xi r) (n (kP ?_)))))
  obtain rfl:=sm a
  exact jC r (kT r) ⟨r,c⟩
 refine jI (bf z) (q (q (g (s (kK r r) (s (jU r) (n ?_))))))
 rcases iv a with ⟨t,a⟩|⟨t,a⟩
 ·refine jH (bt t) (wk ?_)
  rw [decide_eq_true t]
  refine jH r (q (g (s (xi r) (n (kP ?_)))))
  obtain rfl:=sm a
  exact jC r (kT r) ⟨r,c⟩
 refine jI (bf t) (g (s (kK r r) (s (jU r) (n ?_))))
 rcases iv a with ⟨A,a⟩|⟨A,a⟩
 ·refine jH (bt A) (q (g (s (xi r) (n (kP ?_)))))
  obtain rfl:=sm a
  exact jC r (kT r) ⟨r,c⟩
 refine jI (bf A) (wk (q (g (s (xi r) (n (kP ?_))))))
 obtain rfl:=sm a
 exact jC r (kT r) ⟨r,c⟩
def FJ (m:BA→Option (Ge)):Prop:=∀ {d:World} {f:Nat→Prop} {e:BA}  {c:Ge},Pre d f [] []→m e=some c→
 Calls Try.prog 59 #[T e] d (rf fun v w=>∃ (a:OA)(b:Nat),v=.agg #[V c.e,V c.d,V c.j,T c.a,T c.c,Z a c.b b]∧Bx d w f (lT []) [] [.l a b c.b])
def oO (fu:Nat)(a:BA):Option (Ge):=
 some (⟨1,0,0,a,be,([]:List Ge)⟩:Ge)
theorem ql (fu:Nat):FJ (oO fu):=by
 intro f o b h c e
 unfold oO at e
 have a:=c.bx
 clear c
 generalize i:lT _=G at a ⊢
 refine cf Try.func59 r (ma [(0,T b)] ⟨r,y⟩ fun p=>q (g (tL a (ko jT) fun j k a=>n (q (g (s (lc r) (s (EH r r) (lu (nD a 0 [V 1,V 0,V 0,T b,T be,sn] r jT r r) fun m a=>n (kP ?_)))))))))
 replace a:=a.ku (d:=.l none 0 ([]:List Ge)) oP
 obtain rfl:=sm e
 exact jC r (uN r mo r jT r (a.bk 0 r)) ⟨none,0,r,(a.arr [] r)⟩
def Ha (m:Int→Option (Ge)):Prop:=∀ {d:World} {f:Nat→Prop} {e:Int}  {c:Ge},Pre d f [] []→m e=some c→
 Calls Try.prog 108 #[V e] d (rf fun v w=>∃ (a:OA)(b:Nat),v=.agg #[V c.e,V c.d,V c.j,T c.a,T c.c,Z a c.b b]∧Bx d w f (lT []) [] [.l a b c.b])
def uz (fu:Nat)(a:Int):Option (Ge):=
 some (⟨0,a,0,be,be,([]:List Ge)⟩:Ge)
theorem tC (fu:Nat):Ha (uz fu):=by
 intro f o b h c e
 unfold uz at e
 have a:=c.bx
 clear c
 generalize i:lT _=G at a ⊢
 refine cf Try.func108 r (ma [(0,V b)] ⟨r,y⟩ fun p=>q (g (tL a (ko jT) fun j k a=>n (q (g (s (mi r) (s (IR r r) (lu (nD a 0 [V 0,V b,V 0,T be,T be,sn] r jT r r) fun m a=>n (kP ?_)))))))))
 replace a:=a.ku (d:=.l none 0 ([]:List Ge)) oP
 obtain rfl:=sm e
 exact jC r (uN r mo r jT r (a.bk 0 r)) ⟨none,0,r,(a.arr [] r)⟩
def JI (m:(List Int)→Option ((List Int))):Prop:=∀ {e:World} {i:Nat→Prop} {f:(List Int)} {a:Option Addr} {b:Nat} {h:(List Int)},Pre e i [] [.l a b f]→m f=some h→
 Calls Try.prog 27 #[Z a f b] e (rf fun v w=>∃ (c:OA)(d:Nat),v=Z c h d∧Bx e w i (lT []) [] [.l c d h])
def zJ (fu:Nat)(a:(List Int)):Option ((List Int)):=
 if 200 < (a.length:Int) then
  (sl a 0 200).bind fun b=>
  some b
 else
  some a
theorem Jn (fu:Nat):JI (zJ fu):=by
 intro A D v a b B p c
 unfold zJ at c
 have e:=p.bx
 clear p
 generalize C:lT _=G at e ⊢
 refine cf Try.func27 r (ma [(0,Z a v b)] ⟨r,y⟩ fun E=>q (g (s (nJ r) (n (q (q (g (s (mD r) (s (lg vE r) (s (vG r r) (n ?_)))))))))))
 rcases iv c with ⟨j,c⟩|⟨j,c⟩
 ·refine jH (bt j) (q (g (s (mD r) ?_)))
  obtain ⟨k,m,c⟩:=bs c
  obtain ⟨w,t,x,o,u,f,h⟩:=AX m
  obtain rfl:w=0:=by omega
  have i:k.length=t:=by rw [← h,List.length_take,List.length_drop];omega
  replace e:=e.ku (d:=.l a b k) (by have F:=(e.dl 0 r).head f;rw [h] at F;exact F)
  refine s (show Yl _ _ _ _ _ _ _ _ _ (.slice a k.length b) from (congrArg (fun z=>Value.slice a z b) i).symm ▸ zS t vE pJ r r o (Nat.le_trans f ((e.dl 1 r)).cap)) (s (nJ r) (n (kP ?_)))
  obtain rfl:=sm c
  exact jC r (kT r) ⟨a,b,r,(e.dp [0])⟩
 refine jI (bf j) (wk (q (g (s (mD r) (s (nJ r) (n (kP ?_)))))))
 obtain rfl:=sm c
 exact jC r (kT r) ⟨a,b,r,e⟩
def Lg (m:BA→Int→Int→Option (Int × Int)):Prop:=∀ {a:World} {h:Nat→Prop} {b:BA} {c:Int} {d:Int}  {R:Int × Int},Pre a h [] []→m b c d=some R→
 Calls Try.prog 60 #[T b,V c,V d] a (rf fun v w=>iA R fun e f=>v=.tuple #[V e,V f]∧Bx a w h (lT []) [] [])
def y9 (fu:Nat)(b:BA) (a:Int)(c:Int):Option (Ld (Bool) (Int × Int)):=
 if c=47 then
  if (wr (a+1)) < (b.size:Int) then
   (AQ b (wr (a+1))).bind fun d=>
   some (.go (decide (d=47)))
  else
   some (.go false)
 else
  some (.go false)
def uD (fu:Nat)(b:BA):Nat→Int→Option (Ld (Int) (Int × Int))
 | 0,_=>none
 | d+1,a=>
 if a < (b.size:Int) then
  (AQ b a).bind fun c=>
  if c≠10 then
   uD fu b d (wr (a+1))
  else
   some (.go a)
 else
  some (.go a)
def zb (fu:Nat)(a:Int)(b:Int)(c:Int):Option (Ld (Unit) (Int × Int)):=
 if c≠32 then
  if c≠9 then
   if c≠13 then
    if c≠10 then
     some (.out (a,b))
    else
     some (.go ())
   else
    some (.go ())
  else
   some (.go ())
 else
  some (.go ())
def qH (fu:Nat)(c:BA):Nat→Int→Int→Option (Ld (Int × Int) (Int × Int))
 | 0,_,_=>none
 | f+1,a,b=>
 if a < (c.size:Int) then
  (AQ c a).bind fun h=>
  (y9 fu c a h).bind fun i=>i.el (fun d=>
  if d=true then
   (uD fu c fu a).bind fun i=>i.el (fun e=>
   qH fu c f e b
   ) (fun o=>some (.out o))
  else
   (zb fu a b h).bind fun i=>i.el (fun _=>
   if h=10 then
    qH fu c f (wr (a+1)) (wr (b+1))
   else
    qH fu c f (wr (a+1)) b
   ) (fun o=>some (.out o))
  ) (fun o=>some (.out o))
 else
  some (.go (a,b))
def yN (fu:Nat)(c:BA) (d:Int)(e:Int):Option (Int × Int):=
 (qH fu c fu d e).bind fun f=>f.el (fun f=>
 iA f fun a b=>
 some (a,b)
 ) (fun o=>some o)
theorem Fb (fu:Nat):Lg (yN fu):=by
 intro D aj o x1 x2 R hP l
 unfold yN at l
 have i:=hP.bx
 clear hP
 generalize hG:lT _=G at i ⊢
 refine cf Try.func60 r (ma [(0,T o),(1,V x1),(2,V x2)] ⟨r,r,r,y⟩ fun ak=>q (g (s (xi r) (s (xi r) (n (q ?_))))))
 obtain ⟨Y1,a,l⟩:=bs l
 refine oC (fun f w=>∃ (d:Int)(c:Int),Has f [(1,V d),(2,V c)]∧Bx D w aj G [] []∧Ld.go (d,c)=Y1) (fun J1 K=>?_) ?_
 ·refine nZ (kH (fun al f w=>∃ (d:Int)(c:Int),Has f [(0,T o),(1,V d),(2,V c)]∧Bx D w aj G [] []∧qH fu o al d c=some Y1) fu ⟨x1,x2,⟨r,r,r,y⟩,i,a⟩ ?_)
  clear i a
  rintro E f w ⟨d,c,hf,i,a⟩ K1 p
  obtain ⟨ak,rfl⟩:=gP _ _ hf
  clear hf
  cases E with
  | zero=>exact nn a
  | succ E=>
   rw [qH] at a
   refine q (q (g (s (mi r) (s (lc r) (s (Be rH r) (s (qB r r) (n ?_)))))))
   rcases iv a with ⟨L,a⟩|⟨L,a⟩
   ·refine jH (bt L) (wk (nZ (q (g (s (lc r) (s (mi r) ?_))))))
    obtain ⟨g3,M,a⟩:=bs a
    refine s (BB rH r r M) (s (xi r) (n (q (q ?_))))
    obtain ⟨Y4,j,a⟩:=bs a
    refine oC (fun f w=>∃ (m:Bool),Has f [(0,T o),(1,V d),(2,V c),(8,.int .u8 g3),(31,.bool m)]∧Bx D w aj G [] []∧Ld.go m=Y4) (fun J4 t=>?_) ?_
    ·unfold y9 at j
     refine g (s (mi r) (s (kK r r) (s (jZ r) ?_)))
     rcases iv j with ⟨N,j⟩|⟨N,j⟩
     ·rw [decide_eq_true N]
      refine jQ r (s (mi r) (jQ r (s (kN r r) (jQ r (s (lc r) (jQ r (s (Be rH r) (jQ r (s (qB r r) (s (jN r r) (s (jZ r) ?_)))))))))))
      rcases iv j with ⟨Q,j⟩|⟨Q,j⟩
      ·rw [decide_eq_true Q]
       refine jQ r (s (lc r) (jQ r (s (mi r) (jQ r (s (kN r r) ?_)))))
       obtain ⟨g7,S,j⟩:=bs j
       exact jQ r (s (BB rH r r S) (jQ r (s (kK r r) (s (jN r r) (n (t _ _ ⟨(decide (g7=47)),⟨r,r,r,r,r,y⟩,i,sm j⟩))))))
      rw [decide_eq_false Q]
      exact jB r (jB r (jB r (jB r (jB r (s (jX r r) (n (t _ _ ⟨false,⟨r,r,r,r,r,y⟩,i,sm j⟩)))))))
     rw [decide_eq_false N]
     exact jB r (jB r (jB r (jB r (jB r (s (jX r r) (s (jZ r) (jB r (jB r (jB r (jB r (jB r (s (jX r r) (n (t _ _ ⟨false,⟨r,r,r,r,r,y⟩,i,sm j⟩))))))))))))))
    clear i
    rintro f w ⟨m,hf,i,U⟩
    obtain ⟨ak,rfl⟩:=gP _ _ hf
    clear hf
    subst U
    replace a:=gi a
    rcases iv a with ⟨F,a⟩|⟨F,a⟩
    ·refine jH (cb F) (q ?_)
     obtain ⟨Y9,h,a⟩:=bs a
     refine oC (fun f w=>∃ (e:Int),Has f [(0,T o),(1,V e),(2,V c)]∧Bx D w aj G [] []∧Ld.go e=Y9) (fun J9 H=>?_) ?_
     ·refine nZ (kH (fun al f w=>∃ (e:Int),Has f [(0,T o),(1,V e),(2,V c)]∧Bx D w aj G [] []∧uD fu o al e=some Y9) fu ⟨d,⟨r,r,r,y⟩,i,h⟩ ?_)
      clear i h
      rintro W f w ⟨e,hf,i,h⟩ K9 X
      obtain ⟨ak,rfl⟩:=gP _ _ hf
      clear hf
      cases W with
      | zero=>exact nn h
      | succ W=>
       rw [uD] at h
       refine q (q (g (s (mi r) (s (lc r) (s (Be rH r) (s (qB r r) (s (jZ r) ?_)))))))
       rcases iv h with ⟨u,h⟩|⟨u,h⟩
       ·rw [decide_eq_true u]
        refine jQ r (s (lc r) (jQ r (s (mi r) ?_)))
        obtain ⟨aa,I,h⟩:=bs h
        refine jQ r (s (BB rH r r I) (jQ r (s (mI r r) (s (jN r r) (n ?_)))))
        rcases iv h with ⟨v,h⟩|⟨v,h⟩
        ·exact jH (bt v) (wk (nZ (g (s (mi r) (s (kN r r) (s (xi r) (n (X W _ _ (Nat.lt_succ_self _) ⟨(wr (e+1)),⟨r,r,r,y⟩,i,h⟩))))))))
        exact jI (bf v) (uW (H _ _ ⟨e,⟨r,r,r,y⟩,i,sm h⟩))
       rw [decide_eq_false u]
       exact jB r (jB r (jB r (jB r (s (jX r r) (n (jI r (uW (H _ _ ⟨e,⟨r,r,r,y⟩,i,sm h⟩))))))))
     clear i
     rintro f w ⟨e,hf,i,Y⟩
     obtain ⟨ak,rfl⟩:=gP _ _ hf
     clear hf
     subst Y
     replace a:=gi a
     exact uW (p E _ _ (Nat.lt_succ_self _) ⟨e,c,⟨r,r,r,y⟩,i,a⟩)
    replace F:=nt F
    refine jI (cb F) (wk (q ?_))
    obtain ⟨a0,b,a⟩:=bs a
    refine oC (fun f w=>Has f [(0,T o),(1,V d),(2,V c),(8,.int .u8 g3)]∧Bx D w aj G [] []∧Ld.go ()=a0) (fun ab k=>?_) ?_
    ·unfold zb at b
     refine q (g (s (mi r) (s (mI r r) (s (jZ r) ?_))))
     rcases iv b with ⟨x,b⟩|⟨x,b⟩
     ·rw [decide_eq_true x]
      refine jQ r (s (mi r) (jQ r (s (mI r r) (s (jN r r) (s (jZ r) ?_)))))
      rcases iv b with ⟨z,b⟩|⟨z,b⟩
      ·rw [decide_eq_true z]
       refine jQ r (s (mi r) (jQ r (s (mI r r) (s (jN r r) (s (jZ r) ?_)))))
       rcases iv b with ⟨A,b⟩|⟨A,b⟩
       ·rw [decide_eq_true A]
        refine jQ r (s (mi r) (jQ r (s (mI r r) (s (jN r r) (n ?_)))))
        rcases iv b with ⟨B,b⟩|⟨B,b⟩
        ·refine jH (bt B) (q (g (s (mi r) (s (mi r) (s (xi r) (s (xi r) (n (kP ?_))))))))
         obtain rfl:=sm b
         replace a:=oi a
         obtain rfl:=sm a
         replace l:=oi l
         obtain rfl:=sm l
         exact rO r (kT r) (kT r) (lw (⟨r,i⟩))
        exact jI (bf B) (wk (k _ _ ⟨⟨r,r,r,r,y⟩,i,sm b⟩))
       rw [decide_eq_false A]
       exact jB r (jB r (s (jX r r) (n (jI r (wk (k _ _ ⟨⟨r,r,r,r,y⟩,i,sm b⟩))))))
      rw [decide_eq_false z]
      exact jB r (jB r (s (jX r r) (s (jZ r) (jB r (jB r (s (jX r r) (n (jI r (wk (k _ _ ⟨⟨r,r,r,r,y⟩,i,sm b⟩))))))))))
     rw [decide_eq_false x]
     exact jB r (jB r (s (jX r r) (s (jZ r) (jB r (jB r (s (jX r r) (s (jZ r) (jB r (jB r (s (jX r r) (n (jI r (wk (k _ _ ⟨⟨r,r,r,r,y⟩,i,sm b⟩))))))))))))))
    clear i
    rintro f w ⟨hf,i,J⟩
    obtain ⟨ak,rfl⟩:=gP _ _ hf
    clear hf
    subst J
    replace a:=gi a
    refine q (q (g (s (mi r) (s (kK r r) (n ?_)))))
    rcases iv a with ⟨C,a⟩|⟨C,a⟩
    ·exact jH (bt C) (g (s (mi r) (s (kN r r) (s (xi r) (n (g (s (mi r) (s (kN r r) (s (xi r) (n (p E _ _ (Nat.lt_succ_self _) ⟨(wr (d+1)),(wr (c+1)),⟨r,r,r,y⟩,i,a⟩)))))))))))
    exact jI (bf C) (wk (g (s (mi r) (s (kN r r) (s (xi r) (n (p E _ _ (Nat.lt_succ_self _) ⟨(wr (d+1)),c,⟨r,r,r,y⟩,i,a⟩)))))))
   exact jI (bf L) (uW (K _ _ ⟨d,c,⟨r,r,y⟩,i,sm a⟩))
 clear i
 rintro f w ⟨d,c,hf,i,a1⟩
 obtain ⟨ak,rfl⟩:=gP _ _ hf
 clear hf
 subst a1
 replace l:=gi l
 replace l:=pi l
 refine q (g (s (mi r) (s (mi r) (s (xi r) (s (xi r) (n (kP ?_)))))))
 obtain rfl:=sm l
 exact rO r (kT r) (kT r) (lw (⟨r,i⟩))
def Mt (m:BA→Int→Int→Option (kv × Int × Int)):Prop:=∀ {b:World} {i:Nat→Prop} {c:BA} {d:Int} {e:Int}  {R:kv × Int × Int},Pre b i [] []→m c d e=some R→
 Calls Try.prog 61 #[T c,V d,V e] b (rf fun v w=>iA R fun a R=>iA R fun f h=>v=.tuple #[.agg #[V a.e,V a.c,T a.a,V a.d],V f,V h]∧Bx b w i (lT []) [] [])
def vX (fu:Nat)(d:BA) (a:Int):Option (Ld (Bool) (kv × Int × Int)):=
 if a < (d.size:Int) then
  (AQ d a).bind fun f=>
  (ui fu f).bind fun c=>
  if c=true then
   some (.go true)
  else
   (AQ d a).bind fun e=>
   (vH fu e).bind fun b=>
   some (.go b)
 else
  some (.go false)
def rP (fu:Nat)(c:BA):Nat→Int→Option (Ld (Int) (kv × Int × Int))
 | 0,_=>none
 | d+1,a=>
 (vX fu c a).bind fun e=>e.el (fun b=>
 if b=true then
  rP fu c d (wr (a+1))
 else
  some (.go a)
 ) (fun o=>some (.out o))
def qi (fu:Nat)(d:BA) (f:Int):Nat→Int→Int→Option (Ld (Int × Int) (kv × Int × Int))
 | 0,_,_=>none
 | e+1,a,b=>
 if a < (d.size:Int) then
  (AQ d a).bind fun h=>
  (vH fu h).bind fun c=>
  if c=true then
   if (wr (a - f)) < 18 then
    (AQ d a).bind fun i=>
    qi fu d f e (wr (a+1)) (wr ((wr (10 * b))+(wr (w8 (i - 48)))))
   else
    qi fu d f e (wr (a+1)) b
  else
   some (.go (a,b))
 else
  some (.go (a,b))
def zW (fu:Nat)(d:BA) (a:Int):Option (Ld (Unit) (kv × Int × Int)):=
 if a < (d.size:Int) then
  (AQ d a).bind fun c=>
  (ui fu c).bind fun b=>
  if b=true then
   some (.out ((⟨0,0,be,0⟩:kv),0,6))
  else
   some (.go ())
 else
  some (.go ())
def Bq (fu:Nat)(e:BA) (d:Int)(l:Int):Option (kv × Int × Int):=
 (AQ e d).bind fun p=>
 (ui fu p).bind fun k=>
 if k=true then
  (rP fu e fu d).bind fun t=>t.el (fun c=>
  if 12 < (wr (c - d)) then
   some ((⟨0,0,be,0⟩:kv),0,5)
  else
   (KA e d c).bind fun f=>
   (vJ fu f).bind fun h=>
   if h=true then
    some ((⟨3,l,f,0⟩:kv),c,0)
   else
    some ((⟨1,l,f,0⟩:kv),c,0)
  ) (fun o=>some o)
 else
  (AQ e d).bind fun m=>
  (vH fu m).bind fun i=>
  if i=true then
   (qi fu e d fu d 0).bind fun t=>t.el (fun t=>
   iA t fun a j=>
   if 18 < (wr (a - d)) then
    some ((⟨0,0,be,0⟩:kv),0,5)
   else
    (zW fu e a).bind fun t=>t.el (fun _=>
    some ((⟨2,l,be,j⟩:kv),a,0)
    ) (fun o=>some o)
   ) (fun o=>some o)
  else
   (Aw fu e d).bind fun b=>
   if b=(⟨#[]⟩:BA) then
    some ((⟨0,0,be,0⟩:kv),0,6)
   else
    some ((⟨4,l,b,0⟩:kv),(wr (d+(b.size:Int))),0)
theorem Me (fu:Nat):Mt (Bq fu):=by
 intro X b8 F C l R hP d
 unfold Bq at d
 have a:=hP.bx
 clear hP
 generalize hG:lT _=G at a ⊢
 refine cf Try.func61 r (ma [(0,T F),(1,V C),(2,V l)] ⟨r,r,r,y⟩ fun b9=>q (g (tL a (ko qO) fun w1 o a=>s (xi r) (s (xi r) (n (q (g (s (mi r) (s (xi r) (n (q (q (g (s (lc r) (s (mi r) ?_)))))))))))))))
 obtain ⟨g2,a9,d⟩:=bs d
 refine s (BB rH r r a9) ?_
 obtain ⟨ax,h3,d⟩:=bs d
 have hc:=(AZ fu) (a.pr [] [0] [] r)  h3
 refine sc (ec Pk r) hc ?_
 rintro _ w3 ⟨rfl,m⟩
 replace a:=a.cn [] [0] m
 refine n ?_
 rcases iv d with ⟨Y,d⟩|⟨Y,d⟩
 ·refine jH (cb Y) (q ?_)
  obtain ⟨Y5,k,d⟩:=bs d
  refine oC (fun f w=>∃ (j:Int),Has f [(0,T F),(1,V j),(2,V l),(6,Pt o),(9,V C)]∧Bx X w b8 G [.box o 143 #[V 0,V 0,T be,V 0]] []∧Ld.go j=Y5) (fun J5 aa=>?_) ?_
  ·refine nZ (kH (fun ba f w=>∃ (j:Int),Has f [(0,T F),(1,V j),(2,V l),(6,Pt o),(9,V C)]∧Bx X w b8 G [.box o 143 #[V 0,V 0,T be,V 0]] []∧rP fu F ba j=some Y5) fu ⟨C,⟨r,r,r,r,r,y⟩,a,k⟩ ?_)
   clear a k
   rintro n5 f w ⟨j,hf,a,k⟩ K5 ac
   obtain ⟨b9,rfl⟩:=gP _ _ hf
   clear hf
   cases n5 with
   | zero=>exact nn k
   | succ n5=>
    rw [rP] at k
    refine q (q ?_)
    obtain ⟨Y6,i,k⟩:=bs k
    refine oC (fun f w=>∃ (p:Bool),Has f [(0,T F),(1,V j),(2,V l),(6,Pt o),(9,V C),(33,.bool p)]∧Bx X w b8 G [.box o 143 #[V 0,V 0,T be,V 0]] []∧Ld.go p=Y6) (fun J6 K=>?_) ?_
    ·unfold vX at i
     refine g (s (mi r) (s (lc r) (s (Be rH r) (s (qB r r) (s (jZ r) ?_)))))
     rcases iv i with ⟨h7,i⟩|⟨h7,i⟩
     ·rw [decide_eq_true h7]
      refine jQ r (s (lc r) (jQ r (s (mi r) ?_)))
      obtain ⟨g8,af,i⟩:=bs i
      refine jQ r (s (BB rH r r af) ?_)
      obtain ⟨az,h9,i⟩:=bs i
      refine jQ r ?_
      have hc:=(AZ fu) (a.pr [] [0] [] r)  h9
      refine sc (ec Pk r) hc ?_
      rintro _ w9 ⟨rfl,m⟩
      replace a:=a.cn [] [0] m
      refine jQ r (s (jZ r) ?_)
      rcases iv i with ⟨t,i⟩|⟨t,i⟩
      ·rw [t]
       exact jB r (jB r (jB r (jB r (jQ r (s (jN r r) (s (jN r r) (n (K _ _ ⟨true,⟨r,r,r,r,r,r,y⟩,a,sm i⟩))))))))
      replace t:=nt t
      rw [t]
      refine jQ r (s (lc r) (jQ r (s (mi r) ?_)))
      obtain ⟨aD,a0,i⟩:=bs i
      refine jQ r (s (BB rH r r a0) ?_)
      obtain ⟨L,ag,i⟩:=bs i
      refine jQ r ?_
      have hc:=(Bz fu) (a.pr [] [0] [] r)  ag
      refine sc (ec Oq r) hc ?_
      rintro _ aE ⟨rfl,m⟩
      replace a:=a.cn [] [0] m
      exact jQ r (s (jX r r) (s (jN r r) (n (K _ _ ⟨L,⟨r,r,r,r,r,r,y⟩,a,sm i⟩))))
     rw [decide_eq_false h7]
     exact jB r (jB r (jB r (jB r (jB r (jB r (jB r (jB r (jB r (jB r (s (jX r r) (n (K _ _ ⟨false,⟨r,r,r,r,r,r,y⟩,a,sm i⟩))))))))))))
    clear a
    rintro f w ⟨p,hf,a,ah⟩
    obtain ⟨b9,rfl⟩:=gP _ _ hf
    clear hf
    subst ah
    replace k:=gi k
    rcases iv k with ⟨u,k⟩|⟨u,k⟩
    ·exact jH (cb u) (wk (nZ (g (s (mi r) (s (kN r r) (s (xi r) (n (ac n5 _ _ (Nat.lt_succ_self _) ⟨(wr (j+1)),⟨r,r,r,r,r,y⟩,a,k⟩))))))))
    replace u:=nt u
    exact jI (cb u) (uW (aa _ _ ⟨j,⟨r,r,r,r,r,y⟩,a,sm k⟩))
  clear a
  rintro f w ⟨j,hf,a,ai⟩
  obtain ⟨b9,rfl⟩:=gP _ _ hf
  clear hf
  subst ai
  replace d:=gi d
  refine q (q (g (s (mi r) (s (mi r) (s (xU r r) (s (vG r r) (n ?_)))))))
  rcases iv d with ⟨M,d⟩|⟨M,d⟩
  ·refine jH (bt M) (q (g (s JY (lu (nD a 0 [V 0,V 0,T be,V 0] r qO r r) fun aF a=>s (xi r) (s (xi r) (n (kP ?_)))))))
   obtain rfl:=sm d
   exact yJ r (uN r CO r qO r (a.bk 0 r)) (kT r) (kT r) (lw (lw (⟨r,(a.arr [] r)⟩)))
  refine jI (bf M) (wk (q (g (s (lc r) (s (mi r) (s (mi r) ?_))))))
  obtain ⟨D,a1,d⟩:=bs d
  refine s (RZ rH r r r a1) (s (mZ r) (n (q (q (g (s (lc r) ?_))))))
  obtain ⟨aj,ak,d⟩:=bs d
  have hc:=(FI fu) (a.pr [] [0] [] r)  ak
  refine sc (ec UD r) hc ?_
  rintro _ aG ⟨rfl,m⟩
  replace a:=a.cn [] [0] m
  refine n ?_
  rcases iv d with ⟨v,d⟩|⟨v,d⟩
  ·refine jH (cb v) (q (g (s (mi r) (s (lc r) (s (BU r r r) (s (mi r) (lu (nD a 0 [V 3,V l,T D,V 0] r qO r r) fun aH a=>s (xi r) (s (xi r) (n (kP ?_))))))))))
   obtain rfl:=sm d
   exact yJ r (uN r CO r qO r (a.bk 0 r)) (kT r) (kT r) (lw (lw (⟨r,(a.arr [] r)⟩)))
  replace v:=nt v
  refine jI (cb v) (wk (q (g (s (mi r) (s (lc r) (s (BU r r r) (s (mi r) (lu (nD a 0 [V 1,V l,T D,V 0] r qO r r) fun aI a=>s (xi r) (s (xi r) (n (kP ?_)))))))))))
  obtain rfl:=sm d
  exact yJ r (uN r CO r qO r (a.bk 0 r)) (kT r) (kT r) (lw (lw (⟨r,(a.arr [] r)⟩)))
 replace Y:=nt Y
 refine jI (cb Y) (wk (q (q (g (s (lc r) (s (mi r) ?_))))))
 obtain ⟨aJ,a2,d⟩:=bs d
 refine s (BB rH r r a2) ?_
 obtain ⟨al,am,d⟩:=bs d
 have hc:=(Bz fu) (a.pr [] [0] [] r)  am
 refine sc (ec Oq r) hc ?_
 rintro _ aK ⟨rfl,m⟩
 replace a:=a.cn [] [0] m
 refine n ?_
 rcases iv d with ⟨x,d⟩|⟨x,d⟩
 ·refine jH (cb x) (q (g (s (xi r) (n (q ?_)))))
  obtain ⟨a3,b,d⟩:=bs d
  refine oC (fun f w=>∃ (e:Int)(c:Int),Has f [(0,T F),(1,V e),(2,V l),(6,Pt o),(9,V C),(11,V c)]∧Bx X w b8 G [.box o 143 #[V 0,V 0,T be,V 0]] []∧Ld.go (e,c)=a3) (fun aL H=>?_) ?_
  ·refine nZ (kH (fun ba f w=>∃ (e:Int)(c:Int),Has f [(0,T F),(1,V e),(2,V l),(6,Pt o),(9,V C),(11,V c)]∧Bx X w b8 G [.box o 143 #[V 0,V 0,T be,V 0]] []∧qi fu F C ba e c=some a3) fu ⟨C,0,⟨r,r,r,r,r,r,y⟩,a,b⟩ ?_)
   clear a b
   rintro E f w ⟨e,c,hf,a,b⟩ aM I
   obtain ⟨b9,rfl⟩:=gP _ _ hf
   clear hf
   cases E with
   | zero=>exact nn b
   | succ E=>
    rw [qi] at b
    refine q (q (g (s (mi r) (s (lc r) (s (Be rH r) (s (qB r r) (s (jZ r) ?_)))))))
    rcases iv b with ⟨N,b⟩|⟨N,b⟩
    ·rw [decide_eq_true N]
     refine jQ r (s (lc r) (jQ r (s (mi r) ?_)))
     obtain ⟨aN,a4,b⟩:=bs b
     refine jQ r (s (BB rH r r a4) ?_)
     obtain ⟨an,ao,b⟩:=bs b
     refine jQ r ?_
     have hc:=(Bz fu) (a.pr [] [0] [] r)  ao
     refine sc (ec Oq r) hc ?_
     rintro _ aO ⟨rfl,m⟩
     replace a:=a.cn [] [0] m
     refine s (jN r r) (n ?_)
     rcases iv b with ⟨z,b⟩|⟨z,b⟩
     ·refine jH (cb z) (wk (nZ (q (q (g (s (mi r) (s (mi r) (s (xU r r) (s (qB r r) (n ?_))))))))))
      rcases iv b with ⟨Q,b⟩|⟨Q,b⟩
      ·refine jH (bt Q) (g (s (mi r) (s (Tq r r) (s (lc r) (s (mi r) ?_)))))
       obtain ⟨ap,a5,b⟩:=bs b
       exact s (BB rH r r a5) (s (UN r r) (s (Vv ⟨_,TU⟩ EU r) (s (kN r r) (s (xi r) (n (g (s (mi r) (s (kN r r) (s (xi r) (n (I E _ _ (Nat.lt_succ_self _) ⟨(wr (e+1)),(wr ((wr (10 * c))+(wr (w8 (ap - 48))))),⟨r,r,r,r,r,r,y⟩,a,b⟩)))))))))))
      exact jI (bf Q) (wk (g (s (mi r) (s (kN r r) (s (xi r) (n (I E _ _ (Nat.lt_succ_self _) ⟨(wr (e+1)),c,⟨r,r,r,r,r,r,y⟩,a,b⟩)))))))
     replace z:=nt z
     exact jI (cb z) (uW (H _ _ ⟨e,c,⟨r,r,r,r,r,r,y⟩,a,sm b⟩))
    rw [decide_eq_false N]
    exact jB r (jB r (jB r (jB r (s (jX r r) (n (jI r (uW (H _ _ ⟨e,c,⟨r,r,r,r,r,r,y⟩,a,sm b⟩))))))))
  clear a
  rintro f w ⟨e,c,hf,a,a6⟩
  obtain ⟨b9,rfl⟩:=gP _ _ hf
  clear hf
  subst a6
  replace d:=gi d
  replace d:=pi d
  refine q (q (g (s (mi r) (s (mi r) (s (xU r r) (s (vG r r) (n ?_)))))))
  rcases iv d with ⟨S,d⟩|⟨S,d⟩
  ·refine jH (bt S) (q (g (s JY (lu (nD a 0 [V 0,V 0,T be,V 0] r qO r r) fun aP a=>s (xi r) (s (xi r) (n (kP ?_)))))))
   obtain rfl:=sm d
   exact yJ r (uN r CO r qO r (a.bk 0 r)) (kT r) (kT r) (lw (lw (⟨r,(a.arr [] r)⟩)))
  refine jI (bf S) (wk (q ?_))
  obtain ⟨aq,h,d⟩:=bs d
  refine oC (fun f w=>Has f [(1,V e),(2,V l),(6,Pt o),(11,V c)]∧Bx X w b8 G [.box o 143 #[V 0,V 0,T be,V 0]] []∧Ld.go ()=aq) (fun aQ J=>?_) ?_
  ·unfold zW at h
   refine q (g (s (mi r) (s (lc r) (s (Be rH r) (s (qB r r) (s (jZ r) ?_))))))
   rcases iv h with ⟨U,h⟩|⟨U,h⟩
   ·rw [decide_eq_true U]
    refine jQ r (s (lc r) (jQ r (s (mi r) ?_)))
    obtain ⟨aR,a7,h⟩:=bs h
    refine jQ r (s (BB rH r r a7) ?_)
    obtain ⟨ar,au,h⟩:=bs h
    refine jQ r ?_
    have hc:=(AZ fu) (a.pr [] [0] [] r)  au
    refine sc (ec Pk r) hc ?_
    rintro _ aS ⟨rfl,m⟩
    replace a:=a.cn [] [0] m
    refine s (jN r r) (n ?_)
    rcases iv h with ⟨A,h⟩|⟨A,h⟩
    ·refine jH (cb A) (q (g (s JY (lu (nD a 0 [V 0,V 0,T be,V 0] r qO r r) fun aT a=>s (xi r) (s (xi r) (n (kP ?_)))))))
     obtain rfl:=sm h
     replace d:=oi d
     obtain rfl:=sm d
     exact yJ r (uN r CO r qO r (a.bk 0 r)) (kT r) (kT r) (lw (lw (⟨r,(a.arr [] r)⟩)))
    replace A:=nt A
    exact jI (cb A) (wk (J _ _ ⟨⟨r,r,r,r,y⟩,a,sm h⟩))
   rw [decide_eq_false U]
   exact jB r (jB r (jB r (jB r (s (jX r r) (n (jI r (wk (J _ _ ⟨⟨r,r,r,r,y⟩,a,sm h⟩))))))))
  clear a
  rintro f w ⟨hf,a,a8⟩
  obtain ⟨b9,rfl⟩:=gP _ _ hf
  clear hf
  subst a8
  replace d:=gi d
  refine q (g (s (mi r) (s (mi r) (s (Lv r r r) (s (mi r) (lu (nD a 0 [V 2,V l,T be,V c] r qO r r) fun aU a=>s (xi r) (s (xi r) (n (kP ?_)))))))))
  obtain rfl:=sm d
  exact yJ r (uN r CO r qO r (a.bk 0 r)) (kT r) (kT r) (lw (lw (⟨r,(a.arr [] r)⟩)))
 replace x:=nt x
 refine jI (cb x) (wk (q (g (s (lc r) (s (mi r) ?_)))))
 obtain ⟨B,av,d⟩:=bs d
 have hc:=(Ky fu) (a.pr [] [0] [] r)  av
 refine sc (ec Ug r) hc ?_
 rintro _ aV ⟨rfl,m⟩
 replace a:=a.cn [] [0] m
 refine s (mZ r) (n (q (q (g (s (lc r) (s (rT r r) (n ?_)))))))
 rcases iv d with ⟨W,d⟩|⟨W,d⟩
 ·refine jH (bt W) (q (g (s JY (lu (nD a 0 [V 0,V 0,T be,V 0] r qO r r) fun aW a=>s (xi r) (s (xi r) (n (kP ?_)))))))
  obtain rfl:=sm d
  exact yJ r (uN r CO r qO r (a.bk 0 r)) (kT r) (kT r) (lw (lw (⟨r,(a.arr [] r)⟩)))
 refine jI (bf W) (wk (q (g (s (mi r) (s (lc r) (s (BU r r r) (s (mi r) (s (lc r) (s (Be rH r) (s (kN r r) (lu (nD a 0 [V 4,V l,T B,V 0] r qO r r) fun aX a=>s (xi r) (s (xi r) (n (kP ?_))))))))))))))
 obtain rfl:=sm d
 exact yJ r (uN r CO r qO r (a.bk 0 r)) (kT r) (kT r) (lw (lw (⟨r,(a.arr [] r)⟩)))
def Lp (m:BA→Option ((List kv) × Int × Int)):Prop:=∀ {d:World} {j:Nat→Prop} {e:BA}  {R:(List kv) × Int × Int},Pre d j [] []→m e=some R→
 Calls Try.prog 44 #[T e] d (rf fun v w=>iA R fun f R=>iA R fun h i=>∃ (a:OA)(b:Nat)(c:LV),v=.tuple #[Z a f b,V h,V i]∧Bx d w j (lT []) [O d.heap.size a b 143 kv c] [.els c f])
def zf (fu:Nat)(b:List kv) (a:Int):Option (Ld (Int) ((List kv) × Int × Int)):=
 if a=0 then
  if 2000≤(b.length:Int) then
   some (.go 5)
  else
   some (.go a)
 else
  some (.go a)
def vk (fu:Nat)(k:BA):Nat→Int→Int→(List kv)→Option (Ld (Int × Int × List kv) ((List kv) × Int × Int))
 | 0,_,_,_=>none
 | m+1,b,a,c=>
 if b < (k.size:Int) then
  (Bq fu k b a).bind fun p=>
  iA p fun h p=>iA p fun i j=>
  (zf fu c j).bind fun p=>p.el (fun d=>
  if d≠0 then
   some (.out (([]:List kv),a,d))
  else
   (app c ([h]:List kv)).bind fun l=>
   (yN fu k i a).bind fun p=>
   iA p fun e f=>
   vk fu k m e f l
  ) (fun o=>some (.out o))
 else
  some (.go (b,a,c))
def Az (fu:Nat)(e:BA):Option ((List kv) × Int × Int):=
 if 4000 < (e.size:Int) then
  some (([]:List kv),0,5)
 else
  (yN fu e 0 1).bind fun i=>
  iA i fun a b=>
  (vk fu e fu a b ([]:List kv)).bind fun i=>i.el (fun i=>
  iA i fun h i=>iA i fun c d=>
  (app d ([(⟨0,c,be,0⟩:kv)]:List kv)).bind fun f=>
  some (f,0,0)
  ) (fun o=>some o)
theorem LA (fu:Nat):Lp (Az fu):=by
 intro B au K R hP l
 unfold Az at l
 have c:=hP.bx
 clear hP
 generalize hG:lT _=G at c ⊢
 refine cf Try.func44 r (ma [(0,T K)] ⟨r,y⟩ fun av=>q (g (s (nJ r) (s (xi r) (s (xi r) (n (q (q (g (s (lc r) (s (Be rH r) (s (vG r r) (n ?_)))))))))))))
 rcases iv l with ⟨L,l⟩|⟨L,l⟩
 ·refine jH (bt L) (q (g (s (nJ r) (s (xi r) (s (xi r) (n (kP ?_)))))))
  replace c:=c.BQ kv 143
  obtain rfl:=sm l
  exact yJ r (kT r) (kT r) (kT r) (lw (lw (⟨none,0,[],r,c⟩)))
 refine jI (bf L) (wk (q (g (s (nJ r) (n (q (g (s (lc r) ?_))))))))
 obtain ⟨C,D,h3,l⟩:=lV l
 have hc:=(Fb fu) (c.pr [] [] [] r)  h3
 refine sc (ec Rb r) hc ?_
 rintro _ w3 ⟨rfl,E⟩
 replace c:=c.cn [] [] E
 refine s pQ (s (jO r r) (s (jO r r) (s (xi r) (s (xi r) (n (q ?_))))))
 replace c:=c.BQ kv 143
 obtain ⟨Y4,b,l⟩:=bs l
 refine oC (fun f w=>∃ (m:Int)(j:Int)(i:List kv) (d:OA)(e:Nat)(h:LV),Has f [(5,Z d i e),(7,V j)]∧Bx B w au G [O B.heap.size d e 143 kv h] [.els h i]∧Ld.go (m,j,i)=Y4) (fun J4 M=>?_) ?_
 ·refine nZ (kH (fun aw f w=>∃ (m:Int)(j:Int)(i:List kv) (d:OA)(e:Nat)(h:LV),Has f [(0,T K),(5,Z d i e),(6,V m),(7,V j)]∧Bx B w au G [O B.heap.size d e 143 kv h] [.els h i]∧vk fu K aw m j i=some Y4) fu ⟨C,D,([]:List kv),none,0,[],⟨r,r,r,r,y⟩,c,b⟩ ?_)
  clear c b
  rintro N f w ⟨m,j,i,d,e,h,hf,c,b⟩ K4 Q
  obtain ⟨av,rfl⟩:=gP _ _ hf
  clear hf
  cases N with
  | zero=>exact nn b
  | succ N=>
   rw [vk] at b
   refine q (q (g (s (mi r) (s (lc r) (s (Be rH r) (s (qB r r) (n ?_)))))))
   rcases iv b with ⟨S,b⟩|⟨S,b⟩
   ·refine jH (bt S) (wk (nZ (q (g (s (lc r) (s (mi r) (s (mi r) ?_)))))))
    obtain ⟨a,F,t,h7,b⟩:=qG b
    have hc:=(Me fu) (c.pr [] [0] [] r)  h7
    refine sc (ec Tu r) hc ?_
    rintro _ w7 ⟨rfl,E⟩
    replace c:=c.cn [] [0] E
    refine s pQ (s (jO r r) (s (jO r r) (s (jO r r) (tL c (ko qO) fun w8 b8 c=>lu (nD c 0 [V a.e,V a.c,T a.a,V a.d] r qO r r) fun w9 c=>s (xi r) (s (xi r) (n (q ?_)))))))
    obtain ⟨U,k,b⟩:=bs b
    refine oC (fun f w=>∃ (o:Int),Has f [(0,T K),(5,Z d i e),(7,V j),(8,Pt b8),(9,V F),(10,V o)]∧Bx B w au G [.box b8 143 #[V a.e,V a.c,T a.a,V a.d],O B.heap.size d e 143 kv h] [.els h i]∧Ld.go o=U) (fun ab p=>?_) ?_
    ·unfold zf at k
     refine q (g (s (mi r) (s (kK r r) (s (jZ r) ?_))))
     rcases iv k with ⟨u,k⟩|⟨u,k⟩
     ·rw [decide_eq_true u]
      refine jQ r (s (mD r) (jQ r (s (lg Du r) (jQ r (s (Bi r r) (s (jN r r) (n ?_)))))))
      rcases iv k with ⟨v,k⟩|⟨v,k⟩
      ·exact jH (bt v) (g (s (xi r) (n (p _ _ ⟨5,⟨r,r,r,r,r,r,y⟩,c,sm k⟩))))
      exact jI (bf v) (wk (p _ _ ⟨t,⟨r,r,r,r,r,r,y⟩,c,sm k⟩))
     rw [decide_eq_false u]
     exact jB r (jB r (jB r (s (jX r r) (n (jI r (wk (p _ _ ⟨t,⟨r,r,r,r,r,r,y⟩,c,sm k⟩)))))))
    clear c
    rintro f w ⟨o,hf,c,H⟩
    obtain ⟨av,rfl⟩:=gP _ _ hf
    clear hf
    subst H
    replace b:=gi b
    refine q (q (g (s (mi r) (s (mI r r) (n ?_)))))
    rcases iv b with ⟨x,b⟩|⟨x,b⟩
    ·refine jH (bt x) (q (g (s (mi r) (s (mi r) (s (nJ r) (s (xi r) (s (xi r) (n (kP ?_)))))))))
     replace c:=c.BQ kv 143
     obtain rfl:=sm b
     replace l:=oi l
     obtain rfl:=sm l
     exact yJ r (kT r) (kT r) (kT r) (lw (lw (⟨none,0,[],r,(c.ad [0] [0])⟩)))
    refine jI (bf x) (wk (q (g (s (mD r) (s (mE [V a.e,V a.c,T a.a,V a.d] CO qO r (c.bk 0 r)) (qF (jV c [[V a.e,V a.c,T a.a,V a.d]] ([a]:List kv) (KC r) r r (by decide) ⟨r,y⟩) ?_))))))
    rintro _ ac ⟨ae,rfl,c⟩
    obtain ⟨W,I,b⟩:=bs b
    refine qF (kS c 2 1 r r Du qO r (by decide) (by decide) (Nat.le_refl _) r r (c.AJ 0 0 r r) I) ?_
    rintro _ af ⟨X,Y,a0,rfl,c⟩
    refine s (nJ r) (n (g (s (lc r) (s (mi r) (s (mi r) ?_)))))
    obtain ⟨z,A,a1,b⟩:=lV b
    have hc:=(Fb fu) (c.pr [] [0,1,2] [] r)  a1
    refine sc (ec Rb r) hc ?_
    rintro _ ag ⟨rfl,E⟩
    replace c:=c.cn [] [0,1,2] E
    exact s pQ (s (jO r r) (s (jO r r) (s (xi r) (s (xi r) (n (Q N _ _ (Nat.lt_succ_self _) ⟨z,A,W,X,Y,a0,⟨r,r,r,r,y⟩,(c.ad [2] [1]),b⟩))))))
   exact jI (bf S) (uW (M _ _ ⟨m,j,i,d,e,h,⟨r,r,y⟩,c,sm b⟩))
 clear c
 rintro f w ⟨m,j,i,d,e,h,hf,c,a2⟩
 obtain ⟨av,rfl⟩:=gP _ _ hf
 clear hf
 subst a2
 replace l:=gi l
 replace l:=Ak l
 refine q (g (s (mD r) (s (mi r) (s (NM r r) (qF (jV c [[V 0,V j,T be,V 0]] ([(⟨0,j,be,0⟩:kv)]:List kv) (KC r) r r (by decide) ⟨r,y⟩) ?_)))))
 rintro _ ah ⟨ai,rfl,c⟩
 obtain ⟨aj,J,l⟩:=bs l
 refine qF (kS c 1 1 r r Du qO r (by decide) (by decide) (Nat.le_refl _) r r (c.AJ 0 0 r r) J) ?_
 rintro _ ak ⟨a3,a4,a5,rfl,c⟩
 refine s (nJ r) (s (xi r) (s (xi r) (n (kP ?_))))
 obtain rfl:=sm l
 exact yJ r (kT r) (kT r) (kT r) (lw (lw (⟨a3,a4,a5,r,(c.ad [1] [1])⟩)))
abbrev DT:=Int→Option (ByteArray)
def ze (m:Int→Option (BA)):Prop:=∀ {a:World} {d:Nat→Prop} {b:Int}  {c:BA},Pre a d [] []→m b=some c→
 Calls Try.prog 79 #[V b] a (rf fun v w=>v=T c∧Bx a w d (lT []) [] [])
def yh (fu:Nat)(r_r03_Digits:DT) (a:Int):Option (BA):=
 if a < 0 then
  if a=(-9223372036854775808) then
   some (⟨#[45,57,50,50,51,51,55,50,48,51,54,56,53,52,55,55,53,56,48,56]⟩:BA)
  else
   (r_r03_Digits (wr (0 - a))).bind fun c=>
   (qw (⟨#[45]⟩:BA) c).bind fun f=>
   some f
 else
  if a < 10 then
   some (UZ ([⟨(w8 (wr (48+a)))⟩]:List Ei))
  else
   (r_r03_Digits (wr (a.tdiv 10))).bind fun d=>
   (r_r03_Digits (a.tmod 10)).bind fun b=>
   (qw d b).bind fun e=>
   some e
def Cg:Nat→(Int→Option (BA))
 | 0=>(fun _=>none)
 | fu+1=>yh fu (Cg fu)
def um (fu:Nat):=(Cg fu)
theorem H9 (fu:Nat)(r_r03_Digits:DT) (H_r03_Digits:ze r_r03_Digits):ze (yh fu r_r03_Digits):=by
 intro x F e z m a
 unfold yh at a
 have b:=m.bx
 clear m
 generalize A:lT _=G at b ⊢
 refine cf Try.func79 r (ma [(0,V e)] ⟨r,y⟩ fun H=>q (g (s (mZ r) (n (q (q (g (s (mi r) (s (qB r r) (n ?_))))))))))
 rcases iv a with ⟨f,a⟩|⟨f,a⟩
 ·refine jH (bt f) (q (q (g (s (mi r) (s (kK r r) (n ?_))))))
  rcases iv a with ⟨h,a⟩|⟨h,a⟩
  ·refine jH (bt h) (q (g (s (mZ r) (n (kP ?_)))))
   obtain rfl:=sm a
   exact jC r (kT r) ⟨r,b⟩
  refine jI (bf h) (wk (q (g (s (mi r) (s (xU r r) ?_)))))
  obtain ⟨o,t,a⟩:=bs a
  have hc:=H_r03_Digits (b.pr [] [] [] r)  t
  refine sc (ec I4 r) hc ?_
  rintro _ B ⟨rfl,c⟩
  replace b:=b.cn [] [] c
  obtain ⟨C,i,a⟩:=bs a
  refine s (l7 r r i) (s (mZ r) (n (kP ?_)))
  obtain rfl:=sm a
  exact jC r (kT r) ⟨r,b⟩
 refine jI (bf f) (wk (q (q (g (s (mi r) (s (qB r r) (n ?_)))))))
 rcases iv a with ⟨j,a⟩|⟨j,a⟩
 ·refine jH (bt j) (q (g (s (mi r) (s (kN r r) (s (Vy ⟨_,EU⟩ TU r) (qF (jV b [[.int .u8 (w8 (wr (48+e)))]] ([⟨(w8 (wr (48+e)))⟩]:List Ei) (NC r) r r (by decide) ⟨r,y⟩) ?_))))))
  rintro _ D ⟨E,rfl,b⟩
  refine s (Vh MO TU rH r (b.vw 0 0 r r)) (s (mZ r) (n (kP ?_)))
  obtain rfl:=sm a
  exact jC r (kT r) ⟨r,(b.ad [] [])⟩
 refine jI (bf j) (wk (q (g (s (mi r) (s (Uc r r (by decide)) ?_)))))
 obtain ⟨p,u,a⟩:=bs a
 have hc:=H_r03_Digits (b.pr [] [] [] r)  u
 refine sc (ec I4 r) hc ?_
 rintro _ w8 ⟨rfl,c⟩
 replace b:=b.cn [] [] c
 refine s (mi r) (s (QZ r r (by decide)) ?_)
 obtain ⟨k,l,a⟩:=bs a
 have hc:=H_r03_Digits (b.pr [] [] [] r)  l
 refine sc (ec I4 r) hc ?_
 rintro _ v ⟨rfl,c⟩
 replace b:=b.cn [] [] c
 obtain ⟨w,d,a⟩:=bs a
 refine s (l7 r r d) (s (mZ r) (n (kP ?_)))
 obtain rfl:=sm a
 exact jC r (kT r) ⟨r,b⟩
theorem Gy (fu:Nat):ze (um fu):=by
 induction fu with
 | zero=>exact by intro a b;intros;exact nn (by assumption)
 | succ fu ih=>exact H9 fu (um fu) ih
theorem Bc (fu:Nat):ze (um fu):=(Gy fu)
end
end Go.Proofs.Ytfglbdkfnphjgaa
