/- Contracts, printed by gen3.py. -/
import Derived.Test.YtfglbdkfnphjgaaZt
import Derived.Test.YtfglbdkfnphjgaaLt
set_option linter.unusedVariables false
set_option maxHeartbeats 12800000
set_option linter.unusedSimpArgs false
set_option maxRecDepth 4000
namespace Go.Proofs.Ytfglbdkfnphjgaa
open Go.RowKit Go.Fw
noncomputable section
def Ct_kit_Mod (m:Int→Int→Option (Int)):Prop:=∀ {a:World} {e:Nat→Prop} {b:Int} {c:Int}  {d:Int},Pre a e [] []→m b c=some d→
 Calls Try.prog 16 #[V b,V c] a (Ret fun v w=>v=V d∧Bx a w e (Gof []) [] [])
def m_kit_Mod (fu:Nat)(b:Int)(a:Int):Option (Int):=
 if a=0 then
  none
 else
  if (b.tmod a) < 0 then
   some (wr ((b.tmod a)+a))
  else
   some (b.tmod a)
theorem sp_kit_Mod (fu:Nat):Ct_kit_Mod (m_kit_Mod fu):=by
 intro i l e f j d a
 unfold m_kit_Mod at a
 have b:=d.bx
 clear d
 generalize k:Gof _=G at b ⊢
 refine cf Try.func16 r ?_
 refine wCut [(0,V e),(1,V f)] ⟨r,r,y⟩ fun m=>?_
 refine q (g (s (xi r) (n (q (g (s (mi r) (s (mi r) ?_)))))))
 rcases iv a with ⟨_,a⟩|⟨h,a⟩
 · exact nn a
 refine s (xRemW r r h) (s (xi r) (n (q (q (g (s (mi r) (s (xLss r r) (n ?_))))))))
 rcases iv a with ⟨c,a⟩|⟨c,a⟩
 ·refine wIfT (bt c) (g (s (mi r) (s (mi r) (s (xAddW r r) (s (xi r) (n (q (g (s (mi r) (s (xi r) (n (wRt ?_))))))))))))
  obtain rfl:=sm a
  refine resV1 r (rdT r) ?_
  exact ⟨r,b⟩
 refine wIfF (bf c) (wk (q (g (s (mi r) (s (xi r) (n (wRt ?_)))))))
 obtain rfl:=sm a
 refine resV1 r (rdT r) ?_
 exact ⟨r,b⟩
def Ct_kit_next (m:GTape→Int→Option (Int × GTape)):Prop:=∀ {f:World} {j:Nat→Prop} {e:GTape} {h:Int} {c:Nat} {a:Option Addr} {b:Nat} {R:Int × GTape},Pre f j [.box c 132 #[Z a e.l b,V e.at_]] [.l a b e.l]→m e h=some R→
 Calls Try.prog 57 #[Pt c,V h] f (Ret fun v w=>pel R fun i d=>v=V i∧Bx f w j (Gof [.box c 132 #[Z a e.l b,V e.at_]]) [.box c 132 #[Z a d.l b,V d.at_]] [.l a b d.l])
def m_kit_next (fu:Nat)(a:GTape) (c:Int):Option (Int × GTape):=
 if (a.l.length:Int)≤a.at_ then
  some (0,a)
 else
  (ix a.l (wr ((wr (a.at_+1)) - 1))).bind fun d=>
  (m_kit_Mod fu d c).bind fun b=>
  some (b,(⟨a.l,(wr (a.at_+1))⟩:GTape))
theorem sp_kit_next (fu:Nat):Ct_kit_next (m_kit_next fu):=by
 intro A F j v m c d R t e
 unfold m_kit_next at e
 have b:=t.bx
 clear t
 generalize B:Gof _=G at b ⊢
 refine cf Try.func57 r ?_
 refine wCut [(0,Pt m),(1,V v)] ⟨r,r,y⟩ fun H=>?_
 refine q (g (s (xi r) (n (q (q (wDr1 b [0] [] [] (by kernel_rfl) ?_))))))
 replace b:=b.drew
 have a:=(b.dp [])
 refine pF 0 r (mp r) a (pF 1 r (xn r) a (pF 2 r (f132_1 r) a (uF 3 r (fun hS=>l3 r (hS.bk 0 r) r) a (pF 4 r (mp r) a (pF 5 r (xn r) a (pF 6 r (f132_0 r) a (uF 7 r (fun hS=>l22 r (hS.bk 0 r) r) a (pF 8 r (xLnR u22_ r) a (pF 9 r (xGeq r r) a (hD ?_))))))))))
 rcases iv e with ⟨o,e⟩|⟨o,e⟩
 ·refine wIfT (bt o) (q (g (s (xi r) (n (wRt ?_)))))
  obtain rfl:=sm e
  refine resV1 r (rdT r) ?_
  exact pok (⟨r,b⟩)
 refine wIfF (bf o) (wk (q (g (s (mp r) (s (xn r) (s (f132_1 r) (s (l3 r (b.bk 0 r) r) (s (xAddW r r) (s (xn r) (s (f132_1 r) (sTs (tb b 0 [V (wr (j.at_+1))] r ti3 r r r r r (show _=#[Z c j.l d,V (wr (j.at_+1))] from r)) ?_)))))))))))
 intro C b
 try dsimp only [List.set] at b
 refine n (q (wDr1 b [0] [0] [] (by kernel_rfl) ?_))
 replace b:=b.drew
 have a:=b
 refine pF 0 r (mp r) a (pF 1 r (xn r) a (pF 2 r (f132_0 r) a (uF 3 r (fun hS=>l22 r (hS.bk 0 r) r) a (pF 4 r (mp r) a (pF 5 r (xn r) a (pF 6 r (f132_1 r) a (uF 7 r (fun hS=>l3 r (hS.bk 0 r) r) a (pF 8 r (xSubW r r) a ?_))))))))
 obtain ⟨w,f,e⟩:=bs e
 obtain ⟨D,p,f⟩:=ix_inv f
 refine pF 9 r (xIdR u22_ ti3 r r p (b.dl 0 r) f) a (tU 10 r (fun _ hS=>xLoad u3_ r r ((elF (ds:=[V w]) (hS.dl 0 r) f (fun _ h=>h)) 0 _ r)) (sF a) (pF 11 r (mi r) a ?_))
 obtain ⟨u,x,e⟩:=bs e
 have hc:=(sp_kit_Mod fu) (b.pr [] [0] [] r)  x
 refine hO 12 (oc r r (ec cal16 r) hc ?_)
 rintro _ E ⟨rfl,z⟩
 replace b:=b.cl [] [0] r z r
 try dsimp only [pick,nth,ca,na] at b
 have a:=b
 refine ⟨(sF a),?_⟩
 refine pF 13 r (xi r) a (hD (wRt ?_))
 obtain rfl:=sm e
 refine resV1 r (rdT r) ?_
 exact pok (⟨r,b⟩)
def Ct_kit_more (m:GTape→Option (Bool)):Prop:=∀ {e:World} {h:Nat→Prop} {c:GTape} {d:Nat} {a:Option Addr} {b:Nat} {f:Bool},Pre e h [.box d 132 #[Z a c.l b,V c.at_]] [.l a b c.l]→m c=some f→
 Calls Try.prog 81 #[Pt d] e (Ret fun v w=>v=.bool f∧Bx e w h (Gof [.box d 132 #[Z a c.l b,V c.at_]]) [.box d 132 #[Z a c.l b,V c.at_]] [.l a b c.l])
def m_kit_more (fu:Nat)(a:GTape):Option (Bool):=
 some (decide (a.at_ < (a.l.length:Int)))
theorem sp_kit_more (fu:Nat):Ct_kit_more (m_kit_more fu):=by
 intro m t f e b c o h j
 unfold m_kit_more at j
 have d:=h.bx
 clear h
 generalize p:Gof _=G at d ⊢
 refine cf Try.func81 r ?_
 refine wCut [(0,Pt e)] ⟨r,y⟩ fun u=>?_
 refine q (g (s (xAsB r) (n (q (wDr1 d [0] [] [] (by kernel_rfl) ?_)))))
 replace d:=d.drew
 have a:=(d.dp [])
 refine pF 0 r (mp r) a (pF 1 r (xn r) a (pF 2 r (f132_1 r) a (uF 3 r (fun hS=>l3 r (hS.bk 0 r) r) a (pF 4 r (mp r) a (pF 5 r (xn r) a (pF 6 r (f132_0 r) a (uF 7 r (fun hS=>l22 r (hS.bk 0 r) r) a (pF 8 r (xLnR u22_ r) a (pF 9 r (xLss r r) a (pF 10 r (xAsB r) a (hD (wRt ?_))))))))))))
 obtain rfl:=sm j
 refine resV1 r (rdT r) ?_
 exact ⟨r,d⟩
def Ct_kit_number (m:GTape→Option (Int × GTape)):Prop:=∀ {f:World} {i:Nat→Prop} {e:GTape} {c:Nat} {a:Option Addr} {b:Nat} {R:Int × GTape},Pre f i [.box c 132 #[Z a e.l b,V e.at_]] [.l a b e.l]→m e=some R→
 Calls Try.prog 109 #[Pt c] f (Ret fun v w=>pel R fun h d=>v=V h∧Bx f w i (Gof [.box c 132 #[Z a e.l b,V e.at_]]) [.box c 132 #[Z a d.l b,V d.at_]] [.l a b d.l])
def m_kit_number (fu:Nat)(c:GTape):Option (Int × GTape):=
 (m_kit_next fu c ((([0,1,2,3,5,7,4,10,100,1048576,2147483648,1099511627776,999999999999999999,6,8,9]:List Int).length:Nat):Int)).bind fun e=>
 pel e fun a b=>
 (ix ([0,1,2,3,5,7,4,10,100,1048576,2147483648,1099511627776,999999999999999999,6,8,9]:List Int) a).bind fun d=>
 some (d,b)
theorem sp_kit_number (fu:Nat):Ct_kit_number (m_kit_number fu):=by
 intro v C j f d e R k c
 unfold m_kit_number at c
 have a:=k.bx
 clear k
 generalize w:Gof _=G at a ⊢
 refine cf Try.func109 r ?_
 refine wCut [(0,Pt f)] ⟨r,y⟩ fun D=>?_
 refine q (g (s (xi r) (n (q (g (sTo (aRowB a [[V 0],[V 1],[V 2],[V 3],[V 5],[V 7],[V 4],[V 10],[V 100],[V 1048576],[V 2147483648],[V 1099511627776],[V 999999999999999999],[V 6],[V 8],[V 9]] ([0,1,2,3,5,7,4,10,100,1048576,2147483648,1099511627776,999999999999999999,6,8,9]:List Int) (bs22_16_a r r r r r r r r r r r r r r r r) r r (by decide) ⟨r,⟨r,⟨r,⟨r,⟨r,⟨r,⟨r,⟨r,⟨r,⟨r,⟨r,⟨r,⟨r,⟨r,⟨r,⟨r,y⟩⟩⟩⟩⟩⟩⟩⟩⟩⟩⟩⟩⟩⟩⟩⟩) ?_))))))
 rintro _ x ⟨z,rfl,a⟩
 refine s (xAsS r) (n (q (g (s (xMvS r) (s (mp r) (s (xMvS r) (s (xLnR u22_ r) ?_)))))))
 obtain ⟨⟨m,o⟩,p,c⟩:=bs c
 replace c:=pi c
 have hc:=(sp_kit_next fu) (a.pr [1] [0] [1] r)  p
 refine sc (ec cal57 r) hc ?_
 rintro _ A ⟨rfl,t⟩
 replace a:=a.cl [1] [0] r t r
 try dsimp only [pick,nth,ca,na] at a
 obtain ⟨u,b,c⟩:=bs c
 obtain ⟨B,i,b⟩:=ix_inv b
 refine s (xIdR u22_ ti3 r r i (a.vw 1 1 r r) b) (s (xLoad u3_ r r ((elF (ds:=[V u]) (a.vw 1 1 r r) b (fun _ h=>h)) 0 _ r)) (s (xi r) (n (wRt ?_))))
 obtain rfl:=sm c
 refine resV1 r (rdT r) ?_
 exact pok (⟨r,(a.ad [0] [0])⟩)
def Ct_r02_letter (m:Int→Option (Bool)):Prop:=∀ {a:World} {d:Nat→Prop} {b:Int}  {c:Bool},Pre a d [] []→m b=some c→
 Calls Try.prog 89 #[.int .u8 b] a (Ret fun v w=>v=.bool c∧Bx a w d (Gof []) [] [])
def m_r02_letter (fu:Nat)(a:Int):Option (Bool):=
 if 97≤a then
  if a≤122 then
   some true
  else
   if 65≤a then
    if a≤90 then
     some true
    else
     some (decide (a=95))
   else
    some (decide (a=95))
 else
  if 65≤a then
   if a≤90 then
    some true
   else
    some (decide (a=95))
  else
   some (decide (a=95))
theorem sp_r02_letter (fu:Nat):Ct_r02_letter (m_r02_letter fu):=by
 intro l p k m j a
 unfold m_r02_letter at a
 have b:=j.bx
 clear j
 generalize o:Gof _=G at b ⊢
 refine cf Try.func89 r ?_
 refine wCut [(0,.int .u8 k)] ⟨r,y⟩ fun t=>?_
 refine q (g (s (xAsB r) (n (q (g (s (mi r) (s (xGeq r r) (s (xMvB r) ?_))))))))
 rcases iv a with ⟨c,a⟩|⟨c,a⟩
 ·rw [decide_eq_true c]
  refine sGo r (s (mi r) (sGo r (s (xLeq r r) (s (xPkTB r r) (s (xMvB r) ?_)))))
  rcases iv a with ⟨d,a⟩|⟨d,a⟩
  ·rw [decide_eq_true d]
   refine sNo r (sNo r (sNo r (sNo r (sNo r (sNo r (s (xPkTB r r) (s (xMvB r) (sNo r (sNo r (s (xPkTB r r) (s (xAsB r) (n (wRt ?_)))))))))))))
   obtain rfl:=sm a
   refine resV1 r (rdT r) ?_
   exact ⟨r,b⟩
  rw [decide_eq_false d]
  refine sGo r (s (mi r) (sGo r (s (xGeq r r) (sGo r (s (xMvB r) ?_)))))
  rcases iv a with ⟨e,a⟩|⟨e,a⟩
  ·rw [decide_eq_true e]
   refine sGo r (s (mi r) (sGo r (s (xLeq r r) (sGo r (s (xPkTB r r) (s (xPkFB r r) (s (xMvB r) ?_)))))))
   rcases iv a with ⟨f,a⟩|⟨f,a⟩
   ·rw [decide_eq_true f]
    refine sNo r (sNo r (s (xPkTB r r) (s (xAsB r) (n (wRt ?_)))))
    obtain rfl:=sm a
    refine resV1 r (rdT r) ?_
    exact ⟨r,b⟩
   rw [decide_eq_false f]
   refine sGo r (s (mi r) (sGo r (s (xEqlD r r) (s (xPkFB r r) (s (xAsB r) (n (wRt ?_)))))))
   obtain rfl:=sm a
   refine resV1 r (rdT r) ?_
   exact ⟨r,b⟩
  rw [decide_eq_false e]
  refine sNo r (sNo r (sGo r (s (xPkFB r r) (s (xPkFB r r) (s (xMvB r) (sGo r (s (mi r) (sGo r (s (xEqlD r r) (s (xPkFB r r) (s (xAsB r) (n (wRt ?_)))))))))))))
  obtain rfl:=sm a
  refine resV1 r (rdT r) ?_
  exact ⟨r,b⟩
 rw [decide_eq_false c]
 refine sNo r (sNo r (s (xPkFB r r) (s (xMvB r) (sGo r (s (mi r) (sGo r (s (xGeq r r) (sGo r (s (xMvB r) ?_)))))))))
 rcases iv a with ⟨h,a⟩|⟨h,a⟩
 ·rw [decide_eq_true h]
  refine sGo r (s (mi r) (sGo r (s (xLeq r r) (sGo r (s (xPkTB r r) (s (xPkFB r r) (s (xMvB r) ?_)))))))
  rcases iv a with ⟨i,a⟩|⟨i,a⟩
  ·rw [decide_eq_true i]
   refine sNo r (sNo r (s (xPkTB r r) (s (xAsB r) (n (wRt ?_)))))
   obtain rfl:=sm a
   refine resV1 r (rdT r) ?_
   exact ⟨r,b⟩
  rw [decide_eq_false i]
  refine sGo r (s (mi r) (sGo r (s (xEqlD r r) (s (xPkFB r r) (s (xAsB r) (n (wRt ?_)))))))
  obtain rfl:=sm a
  refine resV1 r (rdT r) ?_
  exact ⟨r,b⟩
 rw [decide_eq_false h]
 refine sNo r (sNo r (sGo r (s (xPkFB r r) (s (xPkFB r r) (s (xMvB r) (sGo r (s (mi r) (sGo r (s (xEqlD r r) (s (xPkFB r r) (s (xAsB r) (n (wRt ?_)))))))))))))
 obtain rfl:=sm a
 refine resV1 r (rdT r) ?_
 exact ⟨r,b⟩
def Ct_r02_digit (m:Int→Option (Bool)):Prop:=∀ {a:World} {d:Nat→Prop} {b:Int}  {c:Bool},Pre a d [] []→m b=some c→
 Calls Try.prog 90 #[.int .u8 b] a (Ret fun v w=>v=.bool c∧Bx a w d (Gof []) [] [])
def m_r02_digit (fu:Nat)(a:Int):Option (Bool):=
 if 48≤a then
  some (decide (a≤57))
 else
  some false
theorem sp_r02_digit (fu:Nat):Ct_r02_digit (m_r02_digit fu):=by
 intro f j e h d a
 unfold m_r02_digit at a
 have b:=d.bx
 clear d
 generalize i:Gof _=G at b ⊢
 refine cf Try.func90 r ?_
 refine wCut [(0,.int .u8 e)] ⟨r,y⟩ fun k=>?_
 refine q (g (s (xAsB r) (n (q (g (s (mi r) (s (xGeq r r) (s (xMvB r) ?_))))))))
 rcases iv a with ⟨c,a⟩|⟨c,a⟩
 ·rw [decide_eq_true c]
  refine sGo r (s (mi r) (sGo r (s (xLeq r r) (s (xPkTB r r) (s (xAsB r) (n (wRt ?_)))))))
  obtain rfl:=sm a
  refine resV1 r (rdT r) ?_
  exact ⟨r,b⟩
 rw [decide_eq_false c]
 refine sNo r (sNo r (s (xPkFB r r) (s (xAsB r) (n (wRt ?_)))))
 obtain rfl:=sm a
 refine resV1 r (rdT r) ?_
 exact ⟨r,b⟩
def Ct_r02_Reserved (m:BA→Option (Bool)):Prop:=∀ {a:World} {d:Nat→Prop} {b:BA}  {c:Bool},Pre a d [] []→m b=some c→
 Calls Try.prog 91 #[T b] a (Ret fun v w=>v=.bool c∧Bx a w d (Gof []) [] [])
def m_r02_Reserved_L0 (fu:Nat)(a:BA):List BA→Nat→Option (Ld (Unit) (Bool))
 | [],_=>some (.go ())
 | b :: c,d=>
 if b=a then
  some (.out true)
 else
  m_r02_Reserved_L0 fu a c (d+1)
def m_r02_Reserved (fu:Nat)(a:BA):Option (Bool):=
 (m_r02_Reserved_L0 fu a ([(⟨#[114,101,99,111,114,100]⟩:BA),(⟨#[102,117,110,99]⟩:BA),(⟨#[118,97,114]⟩:BA),(⟨#[105,110,116]⟩:BA),(⟨#[105,102]⟩:BA),(⟨#[101,108,115,101]⟩:BA),(⟨#[119,104,105,108,101]⟩:BA),(⟨#[114,101,116,117,114,110]⟩:BA),(⟨#[116,104,114,111,119]⟩:BA),(⟨#[116,114,121]⟩:BA),(⟨#[99,97,116,99,104]⟩:BA),(⟨#[112,114,105,110,116]⟩:BA)]:List BA) 0).bind fun b=>b.el (fun _=>
 some false
 ) (fun o=>some o)
theorem sp_r02_Reserved (fu:Nat):Ct_r02_Reserved (m_r02_Reserved fu):=by
 intro j I k C v d
 unfold m_r02_Reserved at d
 have b:=v.bx
 clear v
 generalize D:Gof _=G at b ⊢
 refine cf Try.func91 r ?_
 refine wCut [(0,T k)] ⟨r,y⟩ fun J=>?_
 refine q (g (s (xAsB r) (n (q (q (g (sTo (aRowB b [[T (⟨#[114,101,99,111,114,100]⟩:BA)],[T (⟨#[102,117,110,99]⟩:BA)],[T (⟨#[118,97,114]⟩:BA)],[T (⟨#[105,110,116]⟩:BA)],[T (⟨#[105,102]⟩:BA)],[T (⟨#[101,108,115,101]⟩:BA)],[T (⟨#[119,104,105,108,101]⟩:BA)],[T (⟨#[114,101,116,117,114,110]⟩:BA)],[T (⟨#[116,104,114,111,119]⟩:BA)],[T (⟨#[116,114,121]⟩:BA)],[T (⟨#[99,97,116,99,104]⟩:BA)],[T (⟨#[112,114,105,110,116]⟩:BA)]] ([(⟨#[114,101,99,111,114,100]⟩:BA),(⟨#[102,117,110,99]⟩:BA),(⟨#[118,97,114]⟩:BA),(⟨#[105,110,116]⟩:BA),(⟨#[105,102]⟩:BA),(⟨#[101,108,115,101]⟩:BA),(⟨#[119,104,105,108,101]⟩:BA),(⟨#[114,101,116,117,114,110]⟩:BA),(⟨#[116,104,114,111,119]⟩:BA),(⟨#[116,114,121]⟩:BA),(⟨#[99,97,116,99,104]⟩:BA),(⟨#[112,114,105,110,116]⟩:BA)]:List BA) (bs70_12_a r r r r r r r r r r r r) r r (by decide) ⟨r,⟨r,⟨r,⟨r,⟨r,⟨r,⟨r,⟨r,⟨r,⟨r,⟨r,⟨r,y⟩⟩⟩⟩⟩⟩⟩⟩⟩⟩⟩⟩) ?_)))))))
 rintro _ E ⟨m,rfl,b⟩
 refine s (xLnR u70_ r) (s (mi r) (n ?_))
 have z:=(b.vw 0 0 r r).bd
 obtain ⟨x,a,d⟩:=bs d
 refine wJd (fun f w=>Has f []∧Bx j w I G [O j.heap.size (ad m) 12 9 BA [[T (⟨#[114,101,99,111,114,100]⟩:BA)],[T (⟨#[102,117,110,99]⟩:BA)],[T (⟨#[118,97,114]⟩:BA)],[T (⟨#[105,110,116]⟩:BA)],[T (⟨#[105,102]⟩:BA)],[T (⟨#[101,108,115,101]⟩:BA)],[T (⟨#[119,104,105,108,101]⟩:BA)],[T (⟨#[114,101,116,117,114,110]⟩:BA)],[T (⟨#[116,104,114,111,119]⟩:BA)],[T (⟨#[116,114,121]⟩:BA)],[T (⟨#[99,97,116,99,104]⟩:BA)],[T (⟨#[112,114,105,110,116]⟩:BA)]]] [.els [[T (⟨#[114,101,99,111,114,100]⟩:BA)],[T (⟨#[102,117,110,99]⟩:BA)],[T (⟨#[118,97,114]⟩:BA)],[T (⟨#[105,110,116]⟩:BA)],[T (⟨#[105,102]⟩:BA)],[T (⟨#[101,108,115,101]⟩:BA)],[T (⟨#[119,104,105,108,101]⟩:BA)],[T (⟨#[114,101,116,117,114,110]⟩:BA)],[T (⟨#[116,104,114,111,119]⟩:BA)],[T (⟨#[116,114,121]⟩:BA)],[T (⟨#[99,97,116,99,104]⟩:BA)],[T (⟨#[112,114,105,110,116]⟩:BA)]] ([(⟨#[114,101,99,111,114,100]⟩:BA),(⟨#[102,117,110,99]⟩:BA),(⟨#[118,97,114]⟩:BA),(⟨#[105,110,116]⟩:BA),(⟨#[105,102]⟩:BA),(⟨#[101,108,115,101]⟩:BA),(⟨#[119,104,105,108,101]⟩:BA),(⟨#[114,101,116,117,114,110]⟩:BA),(⟨#[116,104,114,111,119]⟩:BA),(⟨#[116,114,121]⟩:BA),(⟨#[99,97,116,99,104]⟩:BA),(⟨#[112,114,105,110,116]⟩:BA)]:List BA)]∧Ld.go ()=x) (fun F o=>?_) ?_
 ·refine wBk (wLoopGd (fun K f w=>∃ (c:Nat),K=([(⟨#[114,101,99,111,114,100]⟩:BA),(⟨#[102,117,110,99]⟩:BA),(⟨#[118,97,114]⟩:BA),(⟨#[105,110,116]⟩:BA),(⟨#[105,102]⟩:BA),(⟨#[101,108,115,101]⟩:BA),(⟨#[119,104,105,108,101]⟩:BA),(⟨#[114,101,116,117,114,110]⟩:BA),(⟨#[116,104,114,111,119]⟩:BA),(⟨#[116,114,121]⟩:BA),(⟨#[99,97,116,99,104]⟩:BA),(⟨#[112,114,105,110,116]⟩:BA)]:List BA).length - c∧c≤([(⟨#[114,101,99,111,114,100]⟩:BA),(⟨#[102,117,110,99]⟩:BA),(⟨#[118,97,114]⟩:BA),(⟨#[105,110,116]⟩:BA),(⟨#[105,102]⟩:BA),(⟨#[101,108,115,101]⟩:BA),(⟨#[119,104,105,108,101]⟩:BA),(⟨#[114,101,116,117,114,110]⟩:BA),(⟨#[116,104,114,111,119]⟩:BA),(⟨#[116,114,121]⟩:BA),(⟨#[99,97,116,99,104]⟩:BA),(⟨#[112,114,105,110,116]⟩:BA)]:List BA).length∧Has f [(7,V (c:Int)),(0,T k),(5,.slice (ad m) ([(⟨#[114,101,99,111,114,100]⟩:BA),(⟨#[102,117,110,99]⟩:BA),(⟨#[118,97,114]⟩:BA),(⟨#[105,110,116]⟩:BA),(⟨#[105,102]⟩:BA),(⟨#[101,108,115,101]⟩:BA),(⟨#[119,104,105,108,101]⟩:BA),(⟨#[114,101,116,117,114,110]⟩:BA),(⟨#[116,104,114,111,119]⟩:BA),(⟨#[116,114,121]⟩:BA),(⟨#[99,97,116,99,104]⟩:BA),(⟨#[112,114,105,110,116]⟩:BA)]:List BA).length 12),(6,V ((([(⟨#[114,101,99,111,114,100]⟩:BA),(⟨#[102,117,110,99]⟩:BA),(⟨#[118,97,114]⟩:BA),(⟨#[105,110,116]⟩:BA),(⟨#[105,102]⟩:BA),(⟨#[101,108,115,101]⟩:BA),(⟨#[119,104,105,108,101]⟩:BA),(⟨#[114,101,116,117,114,110]⟩:BA),(⟨#[116,104,114,111,119]⟩:BA),(⟨#[116,114,121]⟩:BA),(⟨#[99,97,116,99,104]⟩:BA),(⟨#[112,114,105,110,116]⟩:BA)]:List BA).length:Nat):Int))]∧Bx j w I G [O j.heap.size (ad m) 12 9 BA [[T (⟨#[114,101,99,111,114,100]⟩:BA)],[T (⟨#[102,117,110,99]⟩:BA)],[T (⟨#[118,97,114]⟩:BA)],[T (⟨#[105,110,116]⟩:BA)],[T (⟨#[105,102]⟩:BA)],[T (⟨#[101,108,115,101]⟩:BA)],[T (⟨#[119,104,105,108,101]⟩:BA)],[T (⟨#[114,101,116,117,114,110]⟩:BA)],[T (⟨#[116,104,114,111,119]⟩:BA)],[T (⟨#[116,114,121]⟩:BA)],[T (⟨#[99,97,116,99,104]⟩:BA)],[T (⟨#[112,114,105,110,116]⟩:BA)]]] [.els [[T (⟨#[114,101,99,111,114,100]⟩:BA)],[T (⟨#[102,117,110,99]⟩:BA)],[T (⟨#[118,97,114]⟩:BA)],[T (⟨#[105,110,116]⟩:BA)],[T (⟨#[105,102]⟩:BA)],[T (⟨#[101,108,115,101]⟩:BA)],[T (⟨#[119,104,105,108,101]⟩:BA)],[T (⟨#[114,101,116,117,114,110]⟩:BA)],[T (⟨#[116,104,114,111,119]⟩:BA)],[T (⟨#[116,114,121]⟩:BA)],[T (⟨#[99,97,116,99,104]⟩:BA)],[T (⟨#[112,114,105,110,116]⟩:BA)]] ([(⟨#[114,101,99,111,114,100]⟩:BA),(⟨#[102,117,110,99]⟩:BA),(⟨#[118,97,114]⟩:BA),(⟨#[105,110,116]⟩:BA),(⟨#[105,102]⟩:BA),(⟨#[101,108,115,101]⟩:BA),(⟨#[119,104,105,108,101]⟩:BA),(⟨#[114,101,116,117,114,110]⟩:BA),(⟨#[116,104,114,111,119]⟩:BA),(⟨#[116,114,121]⟩:BA),(⟨#[99,97,116,99,104]⟩:BA),(⟨#[112,114,105,110,116]⟩:BA)]:List BA)]∧m_r02_Reserved_L0 fu k (([(⟨#[114,101,99,111,114,100]⟩:BA),(⟨#[102,117,110,99]⟩:BA),(⟨#[118,97,114]⟩:BA),(⟨#[105,110,116]⟩:BA),(⟨#[105,102]⟩:BA),(⟨#[101,108,115,101]⟩:BA),(⟨#[119,104,105,108,101]⟩:BA),(⟨#[114,101,116,117,114,110]⟩:BA),(⟨#[116,104,114,111,119]⟩:BA),(⟨#[116,114,121]⟩:BA),(⟨#[99,97,116,99,104]⟩:BA),(⟨#[112,114,105,110,116]⟩:BA)]:List BA).drop c) c=some x) (([(⟨#[114,101,99,111,114,100]⟩:BA),(⟨#[102,117,110,99]⟩:BA),(⟨#[118,97,114]⟩:BA),(⟨#[105,110,116]⟩:BA),(⟨#[105,102]⟩:BA),(⟨#[101,108,115,101]⟩:BA),(⟨#[119,104,105,108,101]⟩:BA),(⟨#[114,101,116,117,114,110]⟩:BA),(⟨#[116,104,114,111,119]⟩:BA),(⟨#[116,114,121]⟩:BA),(⟨#[99,97,116,99,104]⟩:BA),(⟨#[112,114,105,110,116]⟩:BA)]:List BA).length) ⟨0,r,Nat.zero_le _,⟨r,r,r,r,y⟩,b,a⟩ ?_)
  clear b a
  rintro K f w ⟨c,rfl,A,hf,b,a⟩ H p
  obtain ⟨J,rfl⟩:=has_updL _ _ hf
  clear hf
  rcases Nat.lt_or_ge c ([(⟨#[114,101,99,111,114,100]⟩:BA),(⟨#[102,117,110,99]⟩:BA),(⟨#[118,97,114]⟩:BA),(⟨#[105,110,116]⟩:BA),(⟨#[105,102]⟩:BA),(⟨#[101,108,115,101]⟩:BA),(⟨#[119,104,105,108,101]⟩:BA),(⟨#[114,101,116,117,114,110]⟩:BA),(⟨#[116,104,114,111,119]⟩:BA),(⟨#[116,114,121]⟩:BA),(⟨#[99,97,116,99,104]⟩:BA),(⟨#[112,114,105,110,116]⟩:BA)]:List BA).length with i | i
  ·obtain ⟨B,e⟩:=get_ex (l:=([(⟨#[114,101,99,111,114,100]⟩:BA),(⟨#[102,117,110,99]⟩:BA),(⟨#[118,97,114]⟩:BA),(⟨#[105,110,116]⟩:BA),(⟨#[105,102]⟩:BA),(⟨#[101,108,115,101]⟩:BA),(⟨#[119,104,105,108,101]⟩:BA),(⟨#[114,101,116,117,114,110]⟩:BA),(⟨#[116,104,114,111,119]⟩:BA),(⟨#[116,114,121]⟩:BA),(⟨#[99,97,116,99,104]⟩:BA),(⟨#[112,114,105,110,116]⟩:BA)]:List BA)) i
   rw [drop_id e,m_r02_Reserved_L0] at a
   refine q (g (s (xLssT r r (by omega)) (n (q (wIfT r (wk (q (wBk (q (g (s (xIdR u70_ ti9 r r r (b.vw 0 0 r r) e) (s (xLoad u9_ r r ((elF (ds:=[T B]) (b.vw 0 0 r r) e (fun _ h=>h)) 0 _ r)) (s (xAsT r) ?_)))))))))))))
   refine n (q (g (s (xMvT r) (s (xMvT r) (s (xEqlT' r r) (n ?_))))))
   rcases iv a with ⟨t,a⟩|⟨t,a⟩
   ·refine wIfT (bt t) (q (g (s (xAsB r) (n (wRt ?_)))))
    obtain rfl:=sm a
    replace d:=oi d
    obtain rfl:=sm d
    refine resV1 r (rdT r) ?_
    exact ⟨r,(b.ad [] [])⟩
   refine wIfF (bf t) (wk (g (s (xAdd64 r r (by omega) (by omega)) (s (mi r) (n ?_)))))
   exact p (([(⟨#[114,101,99,111,114,100]⟩:BA),(⟨#[102,117,110,99]⟩:BA),(⟨#[118,97,114]⟩:BA),(⟨#[105,110,116]⟩:BA),(⟨#[105,102]⟩:BA),(⟨#[101,108,115,101]⟩:BA),(⟨#[119,104,105,108,101]⟩:BA),(⟨#[114,101,116,117,114,110]⟩:BA),(⟨#[116,104,114,111,119]⟩:BA),(⟨#[116,114,121]⟩:BA),(⟨#[99,97,116,99,104]⟩:BA),(⟨#[112,114,105,110,116]⟩:BA)]:List BA).length - (c+1)) _ _ (by omega) ⟨c+1,r,by omega,⟨r,r,r,r,y⟩,b,a⟩
  obtain rfl:c=([(⟨#[114,101,99,111,114,100]⟩:BA),(⟨#[102,117,110,99]⟩:BA),(⟨#[118,97,114]⟩:BA),(⟨#[105,110,116]⟩:BA),(⟨#[105,102]⟩:BA),(⟨#[101,108,115,101]⟩:BA),(⟨#[119,104,105,108,101]⟩:BA),(⟨#[114,101,116,117,114,110]⟩:BA),(⟨#[116,104,114,111,119]⟩:BA),(⟨#[116,114,121]⟩:BA),(⟨#[99,97,116,99,104]⟩:BA),(⟨#[112,114,105,110,116]⟩:BA)]:List BA).length:=by omega
  rw [drop_end,m_r02_Reserved_L0] at a
  refine q (g (s (xLssF r r (by omega)) (n (q (wIfF r (wEx ?_))))))
  exact o _ _ ⟨y,b,sm a⟩
 clear b
 rintro f w ⟨hf,b,u⟩
 obtain ⟨J,rfl⟩:=has_updL _ _ hf
 clear hf
 subst u
 replace d:=gi d
 refine q (g (s (xAsB r) (n (wRt ?_))))
 obtain rfl:=sm d
 refine resV1 r (rdT r) ?_
 exact ⟨r,(b.ad [] [])⟩
def Ct_r02_sign (m:BA→Int→Option (BA)):Prop:=∀ {a:World} {e:Nat→Prop} {b:BA} {c:Int}  {d:BA},Pre a e [] []→m b c=some d→
 Calls Try.prog 92 #[T b,V c] a (Ret fun v w=>v=T d∧Bx a w e (Gof []) [] [])
def m_r02_sign_L1 (fu:Nat)(b:BA) (a:Int):List BA→Nat→Option (Ld (Unit) (BA))
 | [],_=>some (.go ())
 | c :: d,e=>
 (sls b a (wr (a+2))).bind fun f=>
 if f=c then
  some (.out c)
 else
  m_r02_sign_L1 fu b a d (e+1)
def m_r02_sign_J0 (fu:Nat)(a:BA) (b:Int):Option (Ld (Unit) (BA)):=
 if (wr (b+1)) < (a.size:Int) then
  (m_r02_sign_L1 fu a b ([(⟨#[60,61]⟩:BA),(⟨#[61,61]⟩:BA),(⟨#[33,61]⟩:BA)]:List BA) 0).bind fun c=>c.el (fun _=>
  some (.go ())
  ) (fun o=>some (.out o))
 else
  some (.go ())
def m_r02_sign_L2 (fu:Nat)(b:BA) (a:Int):List GU8→Nat→Option (Ld (Unit) (BA))
 | [],_=>some (.go ())
 | e :: f,h=>
 (ixs b a).bind fun c=>
 if c=e.n then
  (sls b a (wr (a+1))).bind fun d=>
  some (.out d)
 else
  m_r02_sign_L2 fu b a f (h+1)
def m_r02_sign (fu:Nat)(a:BA) (b:Int):Option (BA):=
 (m_r02_sign_J0 fu a b).bind fun c=>c.el (fun _=>
 (m_r02_sign_L2 fu a b ([⟨40⟩,⟨41⟩,⟨123⟩,⟨125⟩,⟨91⟩,⟨93⟩,⟨44⟩,⟨59⟩,⟨58⟩,⟨46⟩,⟨43⟩,⟨45⟩,⟨42⟩,⟨47⟩,⟨37⟩,⟨38⟩,⟨124⟩,⟨94⟩,⟨60⟩,⟨61⟩,⟨33⟩]:List GU8) 0).bind fun c=>c.el (fun _=>
 some (⟨#[]⟩:BA)
 ) (fun o=>some o)
 ) (fun o=>some o)
theorem sp_r02_sign (fu:Nat):Ct_r02_sign (m_r02_sign fu):=by
 intro k ah m o r0 R e
 unfold m_r02_sign at e
 have a:=R.bx
 clear R
 generalize hG:Gof _=G at a ⊢
 refine cf Try.func92 r ?_
 refine wCut [(0,T m),(1,V o)] ⟨r,r,y⟩ fun ai=>?_
 refine q (g (s (xAsT r) (n (q ?_))))
 obtain ⟨W,c,e⟩:=bs e
 refine wJd (fun f w=>Has f [(0,T m),(1,V o)]∧Bx k w ah G [] []∧Ld.go ()=W) (fun J1 v=>?_) ?_
 ·unfold m_r02_sign_J0 at c
  refine q (g (s (mi r) (s (xAddW r r) (s (xMvT r) (s (xLenS u9_ r) (s (xLss r r) (n ?_)))))))
  rcases iv c with ⟨C,c⟩|⟨C,c⟩
  ·refine wIfT (bt C) (q (g (sTo (aRowB a [[T (⟨#[60,61]⟩:BA)],[T (⟨#[61,61]⟩:BA)],[T (⟨#[33,61]⟩:BA)]] ([(⟨#[60,61]⟩:BA),(⟨#[61,61]⟩:BA),(⟨#[33,61]⟩:BA)]:List BA) (bs70_3_a r r r) r r (by decide) ⟨r,⟨r,⟨r,y⟩⟩⟩) ?_)))
   rintro _ w3 ⟨D,rfl,a⟩
   refine s (xLnR u70_ r) (s (mi r) (n ?_))
   have X:=(a.vw 0 0 r r).bd
   obtain ⟨S,d,c⟩:=bs c
   refine wJd (fun f w=>Has f [(0,T m),(1,V o)]∧Bx k w ah G [O k.heap.size (ad D) 3 9 BA [[T (⟨#[60,61]⟩:BA)],[T (⟨#[61,61]⟩:BA)],[T (⟨#[33,61]⟩:BA)]]] [.els [[T (⟨#[60,61]⟩:BA)],[T (⟨#[61,61]⟩:BA)],[T (⟨#[33,61]⟩:BA)]] ([(⟨#[60,61]⟩:BA),(⟨#[61,61]⟩:BA),(⟨#[33,61]⟩:BA)]:List BA)]∧Ld.go ()=S) (fun J4 E=>?_) ?_
   ·refine wBk (wLoopGd (fun aj f w=>∃ (i:Nat),aj=([(⟨#[60,61]⟩:BA),(⟨#[61,61]⟩:BA),(⟨#[33,61]⟩:BA)]:List BA).length - i∧i≤([(⟨#[60,61]⟩:BA),(⟨#[61,61]⟩:BA),(⟨#[33,61]⟩:BA)]:List BA).length∧Has f [(16,V (i:Int)),(0,T m),(1,V o),(14,.slice (ad D) ([(⟨#[60,61]⟩:BA),(⟨#[61,61]⟩:BA),(⟨#[33,61]⟩:BA)]:List BA).length 3),(15,V ((([(⟨#[60,61]⟩:BA),(⟨#[61,61]⟩:BA),(⟨#[33,61]⟩:BA)]:List BA).length:Nat):Int))]∧Bx k w ah G [O k.heap.size (ad D) 3 9 BA [[T (⟨#[60,61]⟩:BA)],[T (⟨#[61,61]⟩:BA)],[T (⟨#[33,61]⟩:BA)]]] [.els [[T (⟨#[60,61]⟩:BA)],[T (⟨#[61,61]⟩:BA)],[T (⟨#[33,61]⟩:BA)]] ([(⟨#[60,61]⟩:BA),(⟨#[61,61]⟩:BA),(⟨#[33,61]⟩:BA)]:List BA)]∧m_r02_sign_L1 fu m o (([(⟨#[60,61]⟩:BA),(⟨#[61,61]⟩:BA),(⟨#[33,61]⟩:BA)]:List BA).drop i) i=some S) (([(⟨#[60,61]⟩:BA),(⟨#[61,61]⟩:BA),(⟨#[33,61]⟩:BA)]:List BA).length) ⟨0,r,Nat.zero_le _,⟨r,r,r,r,r,y⟩,a,d⟩ ?_)
    clear a d
    rintro aj f w ⟨i,rfl,Y,hf,a,d⟩ K4 F
    obtain ⟨ai,rfl⟩:=has_updL _ _ hf
    clear hf
    rcases Nat.lt_or_ge i ([(⟨#[60,61]⟩:BA),(⟨#[61,61]⟩:BA),(⟨#[33,61]⟩:BA)]:List BA).length with x | x
    ·obtain ⟨u4,p⟩:=get_ex (l:=([(⟨#[60,61]⟩:BA),(⟨#[61,61]⟩:BA),(⟨#[33,61]⟩:BA)]:List BA)) x
     rw [drop_id p,m_r02_sign_L1] at d
     refine q (g (s (xLssT r r (by omega)) (n (q (wIfT r (wk (q (wBk (q (g (s (xIdR u70_ ti9 r r r (a.vw 0 0 r r) p) (s (xLoad u9_ r r ((elF (ds:=[T u4]) (a.vw 0 0 r r) p (fun _ h=>h)) 0 _ r)) (s (xAsT r) ?_)))))))))))))
     refine n (q (g (s (xMvT r) (s (mi r) (s (mi r) (s (xAddW r r) ?_))))))
     obtain ⟨g5,H,d⟩:=bs d
     refine s (xSlS u9_ r r r H) (s (xMvT r) (s (xEqlT' r r) (n ?_)))
     rcases iv d with ⟨I,d⟩|⟨I,d⟩
     ·refine wIfT (bt I) (q (g (s (xMvT r) (s (xAsT r) (n (wRt ?_))))))
      obtain rfl:=sm d
      replace c:=oi c
      obtain rfl:=sm c
      replace e:=oi e
      obtain rfl:=sm e
      refine resV1 r (rdT r) ?_
      exact ⟨r,(a.ad [] [])⟩
     refine wIfF (bf I) (wk (g (s (xAdd64 r r (by omega) (by omega)) (s (mi r) (n ?_)))))
     exact F (([(⟨#[60,61]⟩:BA),(⟨#[61,61]⟩:BA),(⟨#[33,61]⟩:BA)]:List BA).length - (i+1)) _ _ (by omega) ⟨i+1,r,by omega,⟨r,r,r,r,r,y⟩,a,d⟩
    obtain rfl:i=([(⟨#[60,61]⟩:BA),(⟨#[61,61]⟩:BA),(⟨#[33,61]⟩:BA)]:List BA).length:=by omega
    rw [drop_end,m_r02_sign_L1] at d
    refine q (g (s (xLssF r r (by omega)) (n (q (wIfF r (wEx ?_))))))
    exact E _ _ ⟨⟨r,r,y⟩,a,sm d⟩
   clear a
   rintro f w ⟨hf,a,J⟩
   obtain ⟨ai,rfl⟩:=has_updL _ _ hf
   clear hf
   subst J
   replace c:=gi c
   exact v _ _ ⟨⟨r,r,y⟩,(a.ad [] []),sm c⟩
  refine wIfF (bf C) (wk ?_)
  exact v _ _ ⟨⟨r,r,y⟩,a,sm c⟩
 clear a
 rintro f w ⟨hf,a,K⟩
 obtain ⟨ai,rfl⟩:=has_updL _ _ hf
 clear hf
 subst K
 replace e:=gi e
 refine q (q (g (sTo (aRowB a [[.int .u8 40],[.int .u8 41],[.int .u8 123],[.int .u8 125],[.int .u8 91],[.int .u8 93],[.int .u8 44],[.int .u8 59],[.int .u8 58],[.int .u8 46],[.int .u8 43],[.int .u8 45],[.int .u8 42],[.int .u8 47],[.int .u8 37],[.int .u8 38],[.int .u8 124],[.int .u8 94],[.int .u8 60],[.int .u8 61],[.int .u8 33]] ([⟨40⟩,⟨41⟩,⟨123⟩,⟨125⟩,⟨91⟩,⟨93⟩,⟨44⟩,⟨59⟩,⟨58⟩,⟨46⟩,⟨43⟩,⟨45⟩,⟨42⟩,⟨47⟩,⟨37⟩,⟨38⟩,⟨124⟩,⟨94⟩,⟨60⟩,⟨61⟩,⟨33⟩]:List GU8) (bs187_21_a r r r r r r r r r r r r r r r r r r r r r) r r (by decide) ⟨r,⟨r,⟨r,⟨r,⟨r,⟨r,⟨r,⟨r,⟨r,⟨r,⟨r,⟨r,⟨r,⟨r,⟨r,⟨r,⟨r,⟨r,⟨r,⟨r,⟨r,y⟩⟩⟩⟩⟩⟩⟩⟩⟩⟩⟩⟩⟩⟩⟩⟩⟩⟩⟩⟩⟩) ?_)))
 rintro _ w7 ⟨L,rfl,a⟩
 refine sTo (aMrkB a 0 0 r r u187_ u5_ r) ?_
 rintro _ w8 ⟨rfl,a⟩
 try dsimp only [List.eraseIdx] at a
 refine s (xLnR u187_ r) (s (mi r) (n ?_))
 have a1:=(a.dl 0 r).bd
 obtain ⟨U,b,e⟩:=bs e
 refine wJd (fun f w=>Has f []∧Bx k w ah G [] [.l (ad L) 21 ([⟨40⟩,⟨41⟩,⟨123⟩,⟨125⟩,⟨91⟩,⟨93⟩,⟨44⟩,⟨59⟩,⟨58⟩,⟨46⟩,⟨43⟩,⟨45⟩,⟨42⟩,⟨47⟩,⟨37⟩,⟨38⟩,⟨124⟩,⟨94⟩,⟨60⟩,⟨61⟩,⟨33⟩]:List GU8)]∧Ld.go ()=U) (fun J9 M=>?_) ?_
 ·refine wBk (wLoopGd (fun aj f w=>∃ (j:Nat),aj=([⟨40⟩,⟨41⟩,⟨123⟩,⟨125⟩,⟨91⟩,⟨93⟩,⟨44⟩,⟨59⟩,⟨58⟩,⟨46⟩,⟨43⟩,⟨45⟩,⟨42⟩,⟨47⟩,⟨37⟩,⟨38⟩,⟨124⟩,⟨94⟩,⟨60⟩,⟨61⟩,⟨33⟩]:List GU8).length - j∧j≤([⟨40⟩,⟨41⟩,⟨123⟩,⟨125⟩,⟨91⟩,⟨93⟩,⟨44⟩,⟨59⟩,⟨58⟩,⟨46⟩,⟨43⟩,⟨45⟩,⟨42⟩,⟨47⟩,⟨37⟩,⟨38⟩,⟨124⟩,⟨94⟩,⟨60⟩,⟨61⟩,⟨33⟩]:List GU8).length∧Has f [(32,V (j:Int)),(0,T m),(1,V o),(30,.slice (ad L) ([⟨40⟩,⟨41⟩,⟨123⟩,⟨125⟩,⟨91⟩,⟨93⟩,⟨44⟩,⟨59⟩,⟨58⟩,⟨46⟩,⟨43⟩,⟨45⟩,⟨42⟩,⟨47⟩,⟨37⟩,⟨38⟩,⟨124⟩,⟨94⟩,⟨60⟩,⟨61⟩,⟨33⟩]:List GU8).length 21),(31,V ((([⟨40⟩,⟨41⟩,⟨123⟩,⟨125⟩,⟨91⟩,⟨93⟩,⟨44⟩,⟨59⟩,⟨58⟩,⟨46⟩,⟨43⟩,⟨45⟩,⟨42⟩,⟨47⟩,⟨37⟩,⟨38⟩,⟨124⟩,⟨94⟩,⟨60⟩,⟨61⟩,⟨33⟩]:List GU8).length:Nat):Int))]∧Bx k w ah G [] [.l (ad L) 21 ([⟨40⟩,⟨41⟩,⟨123⟩,⟨125⟩,⟨91⟩,⟨93⟩,⟨44⟩,⟨59⟩,⟨58⟩,⟨46⟩,⟨43⟩,⟨45⟩,⟨42⟩,⟨47⟩,⟨37⟩,⟨38⟩,⟨124⟩,⟨94⟩,⟨60⟩,⟨61⟩,⟨33⟩]:List GU8)]∧m_r02_sign_L2 fu m o (([⟨40⟩,⟨41⟩,⟨123⟩,⟨125⟩,⟨91⟩,⟨93⟩,⟨44⟩,⟨59⟩,⟨58⟩,⟨46⟩,⟨43⟩,⟨45⟩,⟨42⟩,⟨47⟩,⟨37⟩,⟨38⟩,⟨124⟩,⟨94⟩,⟨60⟩,⟨61⟩,⟨33⟩]:List GU8).drop j) j=some U) (([⟨40⟩,⟨41⟩,⟨123⟩,⟨125⟩,⟨91⟩,⟨93⟩,⟨44⟩,⟨59⟩,⟨58⟩,⟨46⟩,⟨43⟩,⟨45⟩,⟨42⟩,⟨47⟩,⟨37⟩,⟨38⟩,⟨124⟩,⟨94⟩,⟨60⟩,⟨61⟩,⟨33⟩]:List GU8).length) ⟨0,r,Nat.zero_le _,⟨r,r,r,r,r,y⟩,a,b⟩ ?_)
  clear a b
  rintro aj f w ⟨j,rfl,a2,hf,a,b⟩ K9 N
  obtain ⟨ai,rfl⟩:=has_updL _ _ hf
  clear hf
  rcases Nat.lt_or_ge j ([⟨40⟩,⟨41⟩,⟨123⟩,⟨125⟩,⟨91⟩,⟨93⟩,⟨44⟩,⟨59⟩,⟨58⟩,⟨46⟩,⟨43⟩,⟨45⟩,⟨42⟩,⟨47⟩,⟨37⟩,⟨38⟩,⟨124⟩,⟨94⟩,⟨60⟩,⟨61⟩,⟨33⟩]:List GU8).length with z | z
  ·obtain ⟨u9,t⟩:=get_ex (l:=([⟨40⟩,⟨41⟩,⟨123⟩,⟨125⟩,⟨91⟩,⟨93⟩,⟨44⟩,⟨59⟩,⟨58⟩,⟨46⟩,⟨43⟩,⟨45⟩,⟨42⟩,⟨47⟩,⟨37⟩,⟨38⟩,⟨124⟩,⟨94⟩,⟨60⟩,⟨61⟩,⟨33⟩]:List GU8)) z
   rw [drop_id t,m_r02_sign_L2] at b
   refine q (g (s (xLssT r r (by omega)) (n (q (wIfT r (wk (q (wBk (q (g (s (xIdR u187_ ti5 r r r (a.dl 0 r) t) (s (xLoad u5_ r r ((elF (ds:=[.int .u8 u9.n]) (a.dl 0 r) t (fun _ h=>h)) 0 _ r)) (s (xi r) ?_)))))))))))))
   refine n (q (g (s (xMvT r) (s (mi r) ?_))))
   obtain ⟨a4,A,b⟩:=bs b
   refine s (xIxS u9_ r r A) (s (mi r) (s (xEqlD r r) (n ?_)))
   rcases iv b with ⟨u,b⟩|⟨u,b⟩
   ·refine wIfT (bt u) (q (g (s (xMvT r) (s (mi r) (s (mi r) (s (xAddW r r) ?_))))))
    obtain ⟨a5,B,b⟩:=bs b
    refine s (xSlS u9_ r r r B) (s (xAsT r) (n (wRt ?_)))
    obtain rfl:=sm b
    replace e:=oi e
    obtain rfl:=sm e
    refine resV1 r (rdT r) ?_
    exact ⟨r,(a.dp [])⟩
   refine wIfF (bf u) (wk (g (s (xAdd64 r r (by omega) (by omega)) (s (mi r) (n ?_)))))
   exact N (([⟨40⟩,⟨41⟩,⟨123⟩,⟨125⟩,⟨91⟩,⟨93⟩,⟨44⟩,⟨59⟩,⟨58⟩,⟨46⟩,⟨43⟩,⟨45⟩,⟨42⟩,⟨47⟩,⟨37⟩,⟨38⟩,⟨124⟩,⟨94⟩,⟨60⟩,⟨61⟩,⟨33⟩]:List GU8).length - (j+1)) _ _ (by omega) ⟨j+1,r,by omega,⟨r,r,r,r,r,y⟩,a,b⟩
  obtain rfl:j=([⟨40⟩,⟨41⟩,⟨123⟩,⟨125⟩,⟨91⟩,⟨93⟩,⟨44⟩,⟨59⟩,⟨58⟩,⟨46⟩,⟨43⟩,⟨45⟩,⟨42⟩,⟨47⟩,⟨37⟩,⟨38⟩,⟨124⟩,⟨94⟩,⟨60⟩,⟨61⟩,⟨33⟩]:List GU8).length:=by omega
  rw [drop_end,m_r02_sign_L2] at b
  refine q (g (s (xLssF r r (by omega)) (n (q (wIfF r (wEx ?_))))))
  exact M _ _ ⟨y,a,sm b⟩
 clear a
 rintro f w ⟨hf,a,Q⟩
 obtain ⟨ai,rfl⟩:=has_updL _ _ hf
 clear hf
 subst Q
 replace e:=gi e
 refine q (g (s (xAsT r) (n (wRt ?_))))
 obtain rfl:=sm e
 refine resV1 r (rdT r) ?_
 exact ⟨r,(a.dp [])⟩
def Ct_r03_rank (m:Int→Option (Int)):Prop:=∀ {a:World} {d:Nat→Prop} {b:Int}  {c:Int},Pre a d [] []→m b=some c→
 Calls Try.prog 106 #[V b] a (Ret fun v w=>v=V c∧Bx a w d (Gof []) [] [])
def m_r03_rank_J0 (fu:Nat)(a:Int):Option (Ld (Bool) (Int)):=
 if a=14 then
  some (.go (decide (a=14)))
 else
  if a=15 then
   some (.go (decide (a=15)))
  else
   if a=16 then
    some (.go (decide (a=16)))
   else
    some (.go (decide (a=17)))
def m_r03_rank_J1 (fu:Nat)(a:Int):Option (Ld (Bool) (Int)):=
 if a=11 then
  some (.go (decide (a=11)))
 else
  if a=12 then
   some (.go (decide (a=12)))
  else
   some (.go (decide (a=13)))
def m_r03_rank_J2 (fu:Nat)(a:Int):Option (Ld (Bool) (Int)):=
 if a=6 then
  some (.go (decide (a=6)))
 else
  some (.go (decide (a=7)))
def m_r03_rank (fu:Nat)(a:Int):Option (Int):=
 (m_r03_rank_J0 fu a).bind fun e=>e.el (fun c=>
 if c=true then
  some 1
 else
  (m_r03_rank_J1 fu a).bind fun e=>e.el (fun d=>
  if d=true then
   some 2
  else
   (m_r03_rank_J2 fu a).bind fun e=>e.el (fun b=>
   if b=true then
    some 3
   else
    if a=8 then
     some 4
    else
     if a=9 then
      some 4
     else
      if a=10 then
       some 4
      else
       if a=4 then
        some 5
       else
        if a=5 then
         some 5
        else
         some 6
   ) (fun o=>some o)
  ) (fun o=>some o)
 ) (fun o=>some o)
theorem sp_r03_rank (fu:Nat):Ct_r03_rank (m_r03_rank fu):=by
 intro E a1 i W Q a
 unfold m_r03_rank at a
 have c:=Q.bx
 clear Q
 generalize X:Gof _=G at c ⊢
 refine cf Try.func106 r ?_
 refine wCut [(0,V i)] ⟨r,y⟩ fun a2=>?_
 refine q (g (s (xi r) (n (q (q (g (s (mi r) (n (wBk (q ?_))))))))))
 obtain ⟨R,b,a⟩:=bs a
 refine wJd (fun f w=>∃ (j:Bool),Has f [(3,V i),(4,.bool j)]∧Bx E w a1 G [] []∧Ld.go j=R) (fun Y m=>?_) ?_
 ·unfold m_r03_rank_J0 at b
  refine q (g (s (xEqlD r r) (s (xAsB r) (n ?_))))
  rcases iv b with ⟨F,b⟩|⟨F,b⟩
  ·refine wIfT (bt F) (wk ?_)
   exact m _ _ ⟨(decide (i=14)),⟨r,r,y⟩,c,sm b⟩
  refine wIfF (bf F) (q (g (s (xEqlD r r) (s (xAsB r) (n ?_)))))
  rcases iv b with ⟨H,b⟩|⟨H,b⟩
  ·refine wIfT (bt H) (wk ?_)
   exact m _ _ ⟨(decide (i=15)),⟨r,r,y⟩,c,sm b⟩
  refine wIfF (bf H) (q (g (s (xEqlD r r) (s (xAsB r) (n ?_)))))
  rcases iv b with ⟨I,b⟩|⟨I,b⟩
  ·refine wIfT (bt I) (wk ?_)
   exact m _ _ ⟨(decide (i=16)),⟨r,r,y⟩,c,sm b⟩
  refine wIfF (bf I) (g (s (xEqlD r r) (s (xAsB r) (n ?_))))
  exact m _ _ ⟨(decide (i=17)),⟨r,r,y⟩,c,sm b⟩
 clear c
 rintro f w ⟨j,hf,c,J⟩
 obtain ⟨a2,rfl⟩:=has_updL _ _ hf
 clear hf
 subst J
 replace a:=gi a
 rcases iv a with ⟨B,a⟩|⟨B,a⟩
 ·refine wIfT (cb B) (q (g (s (xi r) (n (wRt ?_)))))
  obtain rfl:=sm a
  refine resV1 r (rdT r) ?_
  exact ⟨r,c⟩
 replace B:=nt B
 refine wIfF (cb B) (q ?_)
 obtain ⟨S,d,a⟩:=bs a
 refine wJd (fun f w=>∃ (k:Bool),Has f [(3,V i),(9,.bool k)]∧Bx E w a1 G [] []∧Ld.go k=S) (fun J6 v=>?_) ?_
 ·unfold m_r03_rank_J1 at d
  refine q (g (s (xEqlD r r) (s (xAsB r) (n ?_))))
  rcases iv d with ⟨K,d⟩|⟨K,d⟩
  ·refine wIfT (bt K) (wk ?_)
   exact v _ _ ⟨(decide (i=11)),⟨r,r,y⟩,c,sm d⟩
  refine wIfF (bf K) (q (g (s (xEqlD r r) (s (xAsB r) (n ?_)))))
  rcases iv d with ⟨L,d⟩|⟨L,d⟩
  ·refine wIfT (bt L) (wk ?_)
   exact v _ _ ⟨(decide (i=12)),⟨r,r,y⟩,c,sm d⟩
  refine wIfF (bf L) (g (s (xEqlD r r) (s (xAsB r) (n ?_))))
  exact v _ _ ⟨(decide (i=13)),⟨r,r,y⟩,c,sm d⟩
 clear c
 rintro f w ⟨k,hf,c,M⟩
 obtain ⟨a2,rfl⟩:=has_updL _ _ hf
 clear hf
 subst M
 replace a:=gi a
 rcases iv a with ⟨C,a⟩|⟨C,a⟩
 ·refine wIfT (cb C) (q (g (s (xi r) (n (wRt ?_)))))
  obtain rfl:=sm a
  refine resV1 r (rdT r) ?_
  exact ⟨r,c⟩
 replace C:=nt C
 refine wIfF (cb C) (q ?_)
 obtain ⟨N,e,a⟩:=bs a
 refine wJd (fun f w=>∃ (h:Bool),Has f [(3,V i),(13,.bool h)]∧Bx E w a1 G [] []∧Ld.go h=N) (fun U u=>?_) ?_
 ·unfold m_r03_rank_J2 at e
  refine q (g (s (xEqlD r r) (s (xAsB r) (n ?_))))
  rcases iv e with ⟨x,e⟩|⟨x,e⟩
  ·refine wIfT (bt x) (wk ?_)
   exact u _ _ ⟨(decide (i=6)),⟨r,r,y⟩,c,sm e⟩
  refine wIfF (bf x) (g (s (xEqlD r r) (s (xAsB r) (n ?_))))
  exact u _ _ ⟨(decide (i=7)),⟨r,r,y⟩,c,sm e⟩
 clear c
 rintro f w ⟨h,hf,c,D⟩
 obtain ⟨a2,rfl⟩:=has_updL _ _ hf
 clear hf
 subst D
 replace a:=gi a
 rcases iv a with ⟨l,a⟩|⟨l,a⟩
 ·refine wIfT (cb l) (q (g (s (xi r) (n (wRt ?_)))))
  obtain rfl:=sm a
  refine resV1 r (rdT r) ?_
  exact ⟨r,c⟩
 replace l:=nt l
 refine wIfF (cb l) (q (q (g (s (xEqlD r r) (s (xAsB r) (n ?_))))))
 rcases iv a with ⟨o,a⟩|⟨o,a⟩
 ·refine wIfT (bt o) (wk ?_)
  rw [decide_eq_true o]
  refine wIfT r (q (g (s (xi r) (n (wRt ?_)))))
  obtain rfl:=sm a
  refine resV1 r (rdT r) ?_
  exact ⟨r,c⟩
 refine wIfF (bf o) (q (g (s (xEqlD r r) (s (xAsB r) (n ?_)))))
 rcases iv a with ⟨p,a⟩|⟨p,a⟩
 ·refine wIfT (bt p) (wk ?_)
  rw [decide_eq_true p]
  refine wIfT r (q (g (s (xi r) (n (wRt ?_)))))
  obtain rfl:=sm a
  refine resV1 r (rdT r) ?_
  exact ⟨r,c⟩
 refine wIfF (bf p) (g (s (xEqlD r r) (s (xAsB r) (n ?_))))
 rcases iv a with ⟨z,a⟩|⟨z,a⟩
 ·refine wIfT (bt z) (q (g (s (xi r) (n (wRt ?_)))))
  obtain rfl:=sm a
  refine resV1 r (rdT r) ?_
  exact ⟨r,c⟩
 refine wIfF (bf z) (q (q (g (s (xEqlD r r) (s (xAsB r) (n ?_))))))
 rcases iv a with ⟨t,a⟩|⟨t,a⟩
 ·refine wIfT (bt t) (wk ?_)
  rw [decide_eq_true t]
  refine wIfT r (q (g (s (xi r) (n (wRt ?_)))))
  obtain rfl:=sm a
  refine resV1 r (rdT r) ?_
  exact ⟨r,c⟩
 refine wIfF (bf t) (g (s (xEqlD r r) (s (xAsB r) (n ?_))))
 rcases iv a with ⟨A,a⟩|⟨A,a⟩
 ·refine wIfT (bt A) (q (g (s (xi r) (n (wRt ?_)))))
  obtain rfl:=sm a
  refine resV1 r (rdT r) ?_
  exact ⟨r,c⟩
 refine wIfF (bf A) (wk (q (g (s (xi r) (n (wRt ?_))))))
 obtain rfl:=sm a
 refine resV1 r (rdT r) ?_
 exact ⟨r,c⟩
def Ct_kit_variable (m:BA→Option (Ge)):Prop:=∀ {d:World} {f:Nat→Prop} {e:BA}  {c:Ge},Pre d f [] []→m e=some c→
 Calls Try.prog 59 #[T e] d (Ret fun v w=>∃ (a:OA)(b:Nat),v=.agg #[V c.Op,V c.Number,V c.Var,T c.Name,T c.Field,Z a c.Args b]∧Bx d w f (Gof []) [] [.l a b c.Args])
def m_kit_variable (fu:Nat)(a:BA):Option (Ge):=
 some (⟨1,0,0,a,be,([]:List Ge)⟩:Ge)
theorem sp_kit_variable (fu:Nat):Ct_kit_variable (m_kit_variable fu):=by
 intro f o b h c e
 unfold m_kit_variable at e
 have a:=c.bx
 clear c
 generalize i:Gof _=G at a ⊢
 refine cf Try.func59 r ?_
 refine wCut [(0,T b)] ⟨r,y⟩ fun p=>?_
 refine q (g (sTo (aNewB a (mAlloc ti138)) ?_))
 rintro _ j ⟨k,rfl,a⟩
 refine n (q (g (s (xMvT r) (s (bd138_0_3 r r) (sTs (tb a 0 [V 1,V 0,V 0,T b,T be,sn] r ti138 r r r r r (show _=#[V 1,V 0,V 0,T b,T be,sn] from r)) ?_)))))
 intro m a
 try dsimp only [List.set] at a
 refine n (wRt ?_)
 replace a:=a.dadd (d:=.l none 0 ([]:List Ge)) ln_
 obtain rfl:=sm e
 refine resV1 r (rdA r u138_ r ti138 r (a.bk 0 r)) ?_
 exact ⟨none,0,r,(a.arr [] r)⟩
def Ct_kit_literal (m:Int→Option (Ge)):Prop:=∀ {d:World} {f:Nat→Prop} {e:Int}  {c:Ge},Pre d f [] []→m e=some c→
 Calls Try.prog 108 #[V e] d (Ret fun v w=>∃ (a:OA)(b:Nat),v=.agg #[V c.Op,V c.Number,V c.Var,T c.Name,T c.Field,Z a c.Args b]∧Bx d w f (Gof []) [] [.l a b c.Args])
def m_kit_literal (fu:Nat)(a:Int):Option (Ge):=
 some (⟨0,a,0,be,be,([]:List Ge)⟩:Ge)
theorem sp_kit_literal (fu:Nat):Ct_kit_literal (m_kit_literal fu):=by
 intro f o b h c e
 unfold m_kit_literal at e
 have a:=c.bx
 clear c
 generalize i:Gof _=G at a ⊢
 refine cf Try.func108 r ?_
 refine wCut [(0,V b)] ⟨r,y⟩ fun p=>?_
 refine q (g (sTo (aNewB a (mAlloc ti138)) ?_))
 rintro _ j ⟨k,rfl,a⟩
 refine n (q (g (s (mi r) (s (bd138_0_1 r r) (sTs (tb a 0 [V 0,V b,V 0,T be,T be,sn] r ti138 r r r r r (show _=#[V 0,V b,V 0,T be,T be,sn] from r)) ?_)))))
 intro m a
 try dsimp only [List.set] at a
 refine n (wRt ?_)
 replace a:=a.dadd (d:=.l none 0 ([]:List Ge)) ln_
 obtain rfl:=sm e
 refine resV1 r (rdA r u138_ r ti138 r (a.bk 0 r)) ?_
 exact ⟨none,0,r,(a.arr [] r)⟩
def Ct_kit_Short (m:(List Int)→Option ((List Int))):Prop:=∀ {e:World} {i:Nat→Prop} {f:(List Int)} {a:Option Addr} {b:Nat} {h:(List Int)},Pre e i [] [.l a b f]→m f=some h→
 Calls Try.prog 27 #[Z a f b] e (Ret fun v w=>∃ (c:OA)(d:Nat),v=Z c h d∧Bx e w i (Gof []) [] [.l c d h])
def m_kit_Short (fu:Nat)(a:(List Int)):Option ((List Int)):=
 if 200 < (a.length:Int) then
  (sl a 0 200).bind fun b=>
  some b
 else
  some a
theorem sp_kit_Short (fu:Nat):Ct_kit_Short (m_kit_Short fu):=by
 intro A D v a b B p c
 unfold m_kit_Short at c
 have e:=p.bx
 clear p
 generalize C:Gof _=G at e ⊢
 refine cf Try.func27 r ?_
 refine wCut [(0,Z a v b)] ⟨r,y⟩ fun E=>?_
 refine q (g (s (xAsS r) (n (q (q (g (s (xMvS r) (s (xLnR u22_ r) (s (xGtr r r) (n ?_))))))))))
 rcases iv c with ⟨j,c⟩|⟨j,c⟩
 ·refine wIfT (bt j) (q (g (s (xMvS r) ?_)))
  obtain ⟨k,m,c⟩:=bs c
  obtain ⟨w,t,x,o,u,f,h⟩:=sl_inv m
  obtain rfl:w=0:=by omega
  have i:k.length=t:=by rw [← h,List.length_take,List.length_drop];omega
  replace e:=e.dadd (d:=.l a b k) (by have F:=(e.dl 0 r).head f;rw [h] at F;exact F)
  refine s (show Yl _ _ _ _ _ _ _ _ _ (.slice a k.length b) from (congrArg (fun z=>Value.slice a z b) i).symm ▸ xSlcH t u22_ ti3 r r o (Nat.le_trans f ((e.dl 1 r)).cap)) (s (xAsS r) (n (wRt ?_)))
  obtain rfl:=sm c
  refine resV1 r (rdT r) ?_
  exact ⟨a,b,r,(e.dp [0])⟩
 refine wIfF (bf j) (wk (q (g (s (xMvS r) (s (xAsS r) (n (wRt ?_)))))))
 obtain rfl:=sm c
 refine resV1 r (rdT r) ?_
 exact ⟨a,b,r,e⟩
def Ct_r02_skip (m:BA→Int→Int→Option (Int × Int)):Prop:=∀ {a:World} {h:Nat→Prop} {b:BA} {c:Int} {d:Int}  {R:Int × Int},Pre a h [] []→m b c d=some R→
 Calls Try.prog 60 #[T b,V c,V d] a (Ret fun v w=>pel R fun e f=>v=.tuple #[V e,V f]∧Bx a w h (Gof []) [] [])
def m_r02_skip_J1 (fu:Nat)(b:BA) (a:Int)(c:Int):Option (Ld (Bool) (Int × Int)):=
 if c=47 then
  if (wr (a+1)) < (b.size:Int) then
   (ixs b (wr (a+1))).bind fun d=>
   some (.go (decide (d=47)))
  else
   some (.go false)
 else
  some (.go false)
def m_r02_skip_L2 (fu:Nat)(b:BA):Nat→Int→Option (Ld (Int) (Int × Int))
 | 0,_=>none
 | d+1,a=>
 if a < (b.size:Int) then
  (ixs b a).bind fun c=>
  if c≠10 then
   m_r02_skip_L2 fu b d (wr (a+1))
  else
   some (.go a)
 else
  some (.go a)
def m_r02_skip_J3 (fu:Nat)(a:Int)(b:Int)(c:Int):Option (Ld (Unit) (Int × Int)):=
 if c≠32 then
  if c≠9 then
   if c≠13 then
    if c≠10 then
     some (.out (a,b))
    else
     some (.go ())
   else
    some (.go ())
  else
   some (.go ())
 else
  some (.go ())
def m_r02_skip_L0 (fu:Nat)(c:BA):Nat→Int→Int→Option (Ld (Int × Int) (Int × Int))
 | 0,_,_=>none
 | f+1,a,b=>
 if a < (c.size:Int) then
  (ixs c a).bind fun h=>
  (m_r02_skip_J1 fu c a h).bind fun i=>i.el (fun d=>
  if d=true then
   (m_r02_skip_L2 fu c fu a).bind fun i=>i.el (fun e=>
   m_r02_skip_L0 fu c f e b
   ) (fun o=>some (.out o))
  else
   (m_r02_skip_J3 fu a b h).bind fun i=>i.el (fun _=>
   if h=10 then
    m_r02_skip_L0 fu c f (wr (a+1)) (wr (b+1))
   else
    m_r02_skip_L0 fu c f (wr (a+1)) b
   ) (fun o=>some (.out o))
  ) (fun o=>some (.out o))
 else
  some (.go (a,b))
def m_r02_skip (fu:Nat)(c:BA) (d:Int)(e:Int):Option (Int × Int):=
 (m_r02_skip_L0 fu c fu d e).bind fun f=>f.el (fun f=>
 pel f fun a b=>
 some (a,b)
 ) (fun o=>some o)
theorem sp_r02_skip (fu:Nat):Ct_r02_skip (m_r02_skip fu):=by
 intro D aj o x1 x2 R hP l
 unfold m_r02_skip at l
 have i:=hP.bx
 clear hP
 generalize hG:Gof _=G at i ⊢
 refine cf Try.func60 r ?_
 refine wCut [(0,T o),(1,V x1),(2,V x2)] ⟨r,r,r,y⟩ fun ak=>?_
 refine q (g (s (xi r) (s (xi r) (n (q ?_)))))
 obtain ⟨Y1,a,l⟩:=bs l
 refine wJd (fun f w=>∃ (d:Int)(c:Int),Has f [(1,V d),(2,V c)]∧Bx D w aj G [] []∧Ld.go (d,c)=Y1) (fun J1 K=>?_) ?_
 ·refine wBk (wLoopGd (fun al f w=>∃ (d:Int)(c:Int),Has f [(0,T o),(1,V d),(2,V c)]∧Bx D w aj G [] []∧m_r02_skip_L0 fu o al d c=some Y1) fu ⟨x1,x2,⟨r,r,r,y⟩,i,a⟩ ?_)
  clear i a
  rintro E f w ⟨d,c,hf,i,a⟩ K1 p
  obtain ⟨ak,rfl⟩:=has_updL _ _ hf
  clear hf
  cases E with
  | zero=>exact nn a
  | succ E=>
   rw [m_r02_skip_L0] at a
   refine q (q (g (s (mi r) (s (xMvT r) (s (xLenS u9_ r) (s (xLss r r) (n ?_)))))))
   rcases iv a with ⟨L,a⟩|⟨L,a⟩
   ·refine wIfT (bt L) (wk (wBk (q (g (s (xMvT r) (s (mi r) ?_))))))
    obtain ⟨g3,M,a⟩:=bs a
    refine s (xIxS u9_ r r M) (s (xi r) (n (q (q ?_))))
    obtain ⟨Y4,j,a⟩:=bs a
    refine wJd (fun f w=>∃ (m:Bool),Has f [(0,T o),(1,V d),(2,V c),(8,.int .u8 g3),(31,.bool m)]∧Bx D w aj G [] []∧Ld.go m=Y4) (fun J4 t=>?_) ?_
    ·unfold m_r02_skip_J1 at j
     refine g (s (mi r) (s (xEqlD r r) (s (xMvB r) ?_)))
     rcases iv j with ⟨N,j⟩|⟨N,j⟩
     ·rw [decide_eq_true N]
      refine sGo r (s (mi r) (sGo r (s (xAddW r r) (sGo r (s (xMvT r) (sGo r (s (xLenS u9_ r) (sGo r (s (xLss r r) (s (xPkTB r r) (s (xMvB r) ?_)))))))))))
      rcases iv j with ⟨Q,j⟩|⟨Q,j⟩
      ·rw [decide_eq_true Q]
       refine sGo r (s (xMvT r) (sGo r (s (mi r) (sGo r (s (xAddW r r) ?_)))))
       obtain ⟨g7,S,j⟩:=bs j
       refine sGo r (s (xIxS u9_ r r S) (sGo r (s (xEqlD r r) (s (xPkTB r r) (n ?_)))))
       exact t _ _ ⟨(decide (g7=47)),⟨r,r,r,r,r,y⟩,i,sm j⟩
      rw [decide_eq_false Q]
      refine sNo r (sNo r (sNo r (sNo r (sNo r (s (xPkFB r r) (n ?_))))))
      exact t _ _ ⟨false,⟨r,r,r,r,r,y⟩,i,sm j⟩
     rw [decide_eq_false N]
     refine sNo r (sNo r (sNo r (sNo r (sNo r (s (xPkFB r r) (s (xMvB r) (sNo r (sNo r (sNo r (sNo r (sNo r (s (xPkFB r r) (n ?_)))))))))))))
     exact t _ _ ⟨false,⟨r,r,r,r,r,y⟩,i,sm j⟩
    clear i
    rintro f w ⟨m,hf,i,U⟩
    obtain ⟨ak,rfl⟩:=has_updL _ _ hf
    clear hf
    subst U
    replace a:=gi a
    rcases iv a with ⟨F,a⟩|⟨F,a⟩
    ·refine wIfT (cb F) (q ?_)
     obtain ⟨Y9,h,a⟩:=bs a
     refine wJd (fun f w=>∃ (e:Int),Has f [(0,T o),(1,V e),(2,V c)]∧Bx D w aj G [] []∧Ld.go e=Y9) (fun J9 H=>?_) ?_
     ·refine wBk (wLoopGd (fun al f w=>∃ (e:Int),Has f [(0,T o),(1,V e),(2,V c)]∧Bx D w aj G [] []∧m_r02_skip_L2 fu o al e=some Y9) fu ⟨d,⟨r,r,r,y⟩,i,h⟩ ?_)
      clear i h
      rintro W f w ⟨e,hf,i,h⟩ K9 X
      obtain ⟨ak,rfl⟩:=has_updL _ _ hf
      clear hf
      cases W with
      | zero=>exact nn h
      | succ W=>
       rw [m_r02_skip_L2] at h
       refine q (q (g (s (mi r) (s (xMvT r) (s (xLenS u9_ r) (s (xLss r r) (s (xMvB r) ?_)))))))
       rcases iv h with ⟨u,h⟩|⟨u,h⟩
       ·rw [decide_eq_true u]
        refine sGo r (s (xMvT r) (sGo r (s (mi r) ?_)))
        obtain ⟨aa,I,h⟩:=bs h
        refine sGo r (s (xIxS u9_ r r I) (sGo r (s (xNeqD r r) (s (xPkTB r r) (n ?_)))))
        rcases iv h with ⟨v,h⟩|⟨v,h⟩
        ·refine wIfT (bt v) (wk (wBk (g (s (mi r) (s (xAddW r r) (s (xi r) (n ?_)))))))
         exact X W _ _ (Nat.lt_succ_self _) ⟨(wr (e+1)),⟨r,r,r,y⟩,i,h⟩
        refine wIfF (bf v) (wEx ?_)
        exact H _ _ ⟨e,⟨r,r,r,y⟩,i,sm h⟩
       rw [decide_eq_false u]
       refine sNo r (sNo r (sNo r (sNo r (s (xPkFB r r) (n (wIfF r (wEx ?_)))))))
       exact H _ _ ⟨e,⟨r,r,r,y⟩,i,sm h⟩
     clear i
     rintro f w ⟨e,hf,i,Y⟩
     obtain ⟨ak,rfl⟩:=has_updL _ _ hf
     clear hf
     subst Y
     replace a:=gi a
     refine wEx ?_
     exact p E _ _ (Nat.lt_succ_self _) ⟨e,c,⟨r,r,r,y⟩,i,a⟩
    replace F:=nt F
    refine wIfF (cb F) (wk (q ?_))
    obtain ⟨a0,b,a⟩:=bs a
    refine wJd (fun f w=>Has f [(0,T o),(1,V d),(2,V c),(8,.int .u8 g3)]∧Bx D w aj G [] []∧Ld.go ()=a0) (fun ab k=>?_) ?_
    ·unfold m_r02_skip_J3 at b
     refine q (g (s (mi r) (s (xNeqD r r) (s (xMvB r) ?_))))
     rcases iv b with ⟨x,b⟩|⟨x,b⟩
     ·rw [decide_eq_true x]
      refine sGo r (s (mi r) (sGo r (s (xNeqD r r) (s (xPkTB r r) (s (xMvB r) ?_)))))
      rcases iv b with ⟨z,b⟩|⟨z,b⟩
      ·rw [decide_eq_true z]
       refine sGo r (s (mi r) (sGo r (s (xNeqD r r) (s (xPkTB r r) (s (xMvB r) ?_)))))
       rcases iv b with ⟨A,b⟩|⟨A,b⟩
       ·rw [decide_eq_true A]
        refine sGo r (s (mi r) (sGo r (s (xNeqD r r) (s (xPkTB r r) (n ?_)))))
        rcases iv b with ⟨B,b⟩|⟨B,b⟩
        ·refine wIfT (bt B) (q (g (s (mi r) (s (mi r) (s (xi r) (s (xi r) (n (wRt ?_))))))))
         obtain rfl:=sm b
         replace a:=oi a
         obtain rfl:=sm a
         replace l:=oi l
         obtain rfl:=sm l
         refine resV2 r (rdT r) (rdT r) ?_
         exact pok (⟨r,i⟩)
        refine wIfF (bf B) (wk ?_)
        exact k _ _ ⟨⟨r,r,r,r,y⟩,i,sm b⟩
       rw [decide_eq_false A]
       refine sNo r (sNo r (s (xPkFB r r) (n (wIfF r (wk ?_)))))
       exact k _ _ ⟨⟨r,r,r,r,y⟩,i,sm b⟩
      rw [decide_eq_false z]
      refine sNo r (sNo r (s (xPkFB r r) (s (xMvB r) (sNo r (sNo r (s (xPkFB r r) (n (wIfF r (wk ?_)))))))))
      exact k _ _ ⟨⟨r,r,r,r,y⟩,i,sm b⟩
     rw [decide_eq_false x]
     refine sNo r (sNo r (s (xPkFB r r) (s (xMvB r) (sNo r (sNo r (s (xPkFB r r) (s (xMvB r) (sNo r (sNo r (s (xPkFB r r) (n (wIfF r (wk ?_)))))))))))))
     exact k _ _ ⟨⟨r,r,r,r,y⟩,i,sm b⟩
    clear i
    rintro f w ⟨hf,i,J⟩
    obtain ⟨ak,rfl⟩:=has_updL _ _ hf
    clear hf
    subst J
    replace a:=gi a
    refine q (q (g (s (mi r) (s (xEqlD r r) (n ?_)))))
    rcases iv a with ⟨C,a⟩|⟨C,a⟩
    ·refine wIfT (bt C) (g (s (mi r) (s (xAddW r r) (s (xi r) (n (g (s (mi r) (s (xAddW r r) (s (xi r) (n ?_))))))))))
     exact p E _ _ (Nat.lt_succ_self _) ⟨(wr (d+1)),(wr (c+1)),⟨r,r,r,y⟩,i,a⟩
    refine wIfF (bf C) (wk (g (s (mi r) (s (xAddW r r) (s (xi r) (n ?_))))))
    exact p E _ _ (Nat.lt_succ_self _) ⟨(wr (d+1)),c,⟨r,r,r,y⟩,i,a⟩
   refine wIfF (bf L) (wEx ?_)
   exact K _ _ ⟨d,c,⟨r,r,y⟩,i,sm a⟩
 clear i
 rintro f w ⟨d,c,hf,i,a1⟩
 obtain ⟨ak,rfl⟩:=has_updL _ _ hf
 clear hf
 subst a1
 replace l:=gi l
 replace l:=pi l
 refine q (g (s (mi r) (s (mi r) (s (xi r) (s (xi r) (n (wRt ?_)))))))
 obtain rfl:=sm l
 refine resV2 r (rdT r) (rdT r) ?_
 exact pok (⟨r,i⟩)
def Ct_r02_one (m:BA→Int→Int→Option (GToken × Int × Int)):Prop:=∀ {b:World} {i:Nat→Prop} {c:BA} {d:Int} {e:Int}  {R:GToken × Int × Int},Pre b i [] []→m c d e=some R→
 Calls Try.prog 61 #[T c,V d,V e] b (Ret fun v w=>pel R fun a R=>pel R fun f h=>v=.tuple #[.agg #[V a.Kind,V a.Line,T a.Text,V a.Number],V f,V h]∧Bx b w i (Gof []) [] [])
def m_r02_one_J1 (fu:Nat)(d:BA) (a:Int):Option (Ld (Bool) (GToken × Int × Int)):=
 if a < (d.size:Int) then
  (ixs d a).bind fun f=>
  (m_r02_letter fu f).bind fun c=>
  if c=true then
   some (.go true)
  else
   (ixs d a).bind fun e=>
   (m_r02_digit fu e).bind fun b=>
   some (.go b)
 else
  some (.go false)
def m_r02_one_L0 (fu:Nat)(c:BA):Nat→Int→Option (Ld (Int) (GToken × Int × Int))
 | 0,_=>none
 | d+1,a=>
 (m_r02_one_J1 fu c a).bind fun e=>e.el (fun b=>
 if b=true then
  m_r02_one_L0 fu c d (wr (a+1))
 else
  some (.go a)
 ) (fun o=>some (.out o))
def m_r02_one_L2 (fu:Nat)(d:BA) (f:Int):Nat→Int→Int→Option (Ld (Int × Int) (GToken × Int × Int))
 | 0,_,_=>none
 | e+1,a,b=>
 if a < (d.size:Int) then
  (ixs d a).bind fun h=>
  (m_r02_digit fu h).bind fun c=>
  if c=true then
   if (wr (a - f)) < 18 then
    (ixs d a).bind fun i=>
    m_r02_one_L2 fu d f e (wr (a+1)) (wr ((wr (10 * b))+(wr (w8 (i - 48)))))
   else
    m_r02_one_L2 fu d f e (wr (a+1)) b
  else
   some (.go (a,b))
 else
  some (.go (a,b))
def m_r02_one_J3 (fu:Nat)(d:BA) (a:Int):Option (Ld (Unit) (GToken × Int × Int)):=
 if a < (d.size:Int) then
  (ixs d a).bind fun c=>
  (m_r02_letter fu c).bind fun b=>
  if b=true then
   some (.out ((⟨0,0,be,0⟩:GToken),0,6))
  else
   some (.go ())
 else
  some (.go ())
def m_r02_one (fu:Nat)(e:BA) (d:Int)(l:Int):Option (GToken × Int × Int):=
 (ixs e d).bind fun p=>
 (m_r02_letter fu p).bind fun k=>
 if k=true then
  (m_r02_one_L0 fu e fu d).bind fun t=>t.el (fun c=>
  if 12 < (wr (c - d)) then
   some ((⟨0,0,be,0⟩:GToken),0,5)
  else
   (sls e d c).bind fun f=>
   (m_r02_Reserved fu f).bind fun h=>
   if h=true then
    some ((⟨3,l,f,0⟩:GToken),c,0)
   else
    some ((⟨1,l,f,0⟩:GToken),c,0)
  ) (fun o=>some o)
 else
  (ixs e d).bind fun m=>
  (m_r02_digit fu m).bind fun i=>
  if i=true then
   (m_r02_one_L2 fu e d fu d 0).bind fun t=>t.el (fun t=>
   pel t fun a j=>
   if 18 < (wr (a - d)) then
    some ((⟨0,0,be,0⟩:GToken),0,5)
   else
    (m_r02_one_J3 fu e a).bind fun t=>t.el (fun _=>
    some ((⟨2,l,be,j⟩:GToken),a,0)
    ) (fun o=>some o)
   ) (fun o=>some o)
  else
   (m_r02_sign fu e d).bind fun b=>
   if b=(⟨#[]⟩:BA) then
    some ((⟨0,0,be,0⟩:GToken),0,6)
   else
    some ((⟨4,l,b,0⟩:GToken),(wr (d+(b.size:Int))),0)
theorem sp_r02_one (fu:Nat):Ct_r02_one (m_r02_one fu):=by
 intro X b8 F C l R hP d
 unfold m_r02_one at d
 have a:=hP.bx
 clear hP
 generalize hG:Gof _=G at a ⊢
 refine cf Try.func61 r ?_
 refine wCut [(0,T F),(1,V C),(2,V l)] ⟨r,r,r,y⟩ fun b9=>?_
 refine q (g (sTo (aNewB a (mAlloc ti143)) ?_))
 rintro _ w1 ⟨o,rfl,a⟩
 refine s (xi r) (s (xi r) (n (q (g (s (mi r) (s (xi r) (n (q (q (g (s (xMvT r) (s (mi r) ?_))))))))))))
 obtain ⟨g2,a9,d⟩:=bs d
 refine s (xIxS u9_ r r a9) ?_
 obtain ⟨ax,h3,d⟩:=bs d
 have hc:=(sp_r02_letter fu) (a.pr [] [0] [] r)  h3
 refine sc (ec cal89 r) hc ?_
 rintro _ w3 ⟨rfl,m⟩
 replace a:=a.cl [] [0] r m r
 try dsimp only [pick,nth,ca,na] at a
 refine n ?_
 rcases iv d with ⟨Y,d⟩|⟨Y,d⟩
 ·refine wIfT (cb Y) (q ?_)
  obtain ⟨Y5,k,d⟩:=bs d
  refine wJd (fun f w=>∃ (j:Int),Has f [(0,T F),(1,V j),(2,V l),(6,Pt o),(9,V C)]∧Bx X w b8 G [.box o 143 #[V 0,V 0,T be,V 0]] []∧Ld.go j=Y5) (fun J5 aa=>?_) ?_
  ·refine wBk (wLoopGd (fun ba f w=>∃ (j:Int),Has f [(0,T F),(1,V j),(2,V l),(6,Pt o),(9,V C)]∧Bx X w b8 G [.box o 143 #[V 0,V 0,T be,V 0]] []∧m_r02_one_L0 fu F ba j=some Y5) fu ⟨C,⟨r,r,r,r,r,y⟩,a,k⟩ ?_)
   clear a k
   rintro n5 f w ⟨j,hf,a,k⟩ K5 ac
   obtain ⟨b9,rfl⟩:=has_updL _ _ hf
   clear hf
   cases n5 with
   | zero=>exact nn k
   | succ n5=>
    rw [m_r02_one_L0] at k
    refine q (q ?_)
    obtain ⟨Y6,i,k⟩:=bs k
    refine wJd (fun f w=>∃ (p:Bool),Has f [(0,T F),(1,V j),(2,V l),(6,Pt o),(9,V C),(33,.bool p)]∧Bx X w b8 G [.box o 143 #[V 0,V 0,T be,V 0]] []∧Ld.go p=Y6) (fun J6 K=>?_) ?_
    ·unfold m_r02_one_J1 at i
     refine g (s (mi r) (s (xMvT r) (s (xLenS u9_ r) (s (xLss r r) (s (xMvB r) ?_)))))
     rcases iv i with ⟨h7,i⟩|⟨h7,i⟩
     ·rw [decide_eq_true h7]
      refine sGo r (s (xMvT r) (sGo r (s (mi r) ?_)))
      obtain ⟨g8,af,i⟩:=bs i
      refine sGo r (s (xIxS u9_ r r af) ?_)
      obtain ⟨az,h9,i⟩:=bs i
      refine sGo r ?_
      have hc:=(sp_r02_letter fu) (a.pr [] [0] [] r)  h9
      refine sc (ec cal89 r) hc ?_
      rintro _ w9 ⟨rfl,m⟩
      replace a:=a.cl [] [0] r m r
      try dsimp only [pick,nth,ca,na] at a
      refine sGo r (s (xMvB r) ?_)
      rcases iv i with ⟨t,i⟩|⟨t,i⟩
      ·rw [t]
       refine sNo r (sNo r (sNo r (sNo r (sGo r (s (xPkTB r r) (s (xPkTB r r) (n ?_)))))))
       exact K _ _ ⟨true,⟨r,r,r,r,r,r,y⟩,a,sm i⟩
      replace t:=nt t
      rw [t]
      refine sGo r (s (xMvT r) (sGo r (s (mi r) ?_)))
      obtain ⟨aD,a0,i⟩:=bs i
      refine sGo r (s (xIxS u9_ r r a0) ?_)
      obtain ⟨L,ag,i⟩:=bs i
      refine sGo r ?_
      have hc:=(sp_r02_digit fu) (a.pr [] [0] [] r)  ag
      refine sc (ec cal90 r) hc ?_
      rintro _ aE ⟨rfl,m⟩
      replace a:=a.cl [] [0] r m r
      try dsimp only [pick,nth,ca,na] at a
      refine sGo r (s (xPkFB r r) (s (xPkTB r r) (n ?_)))
      exact K _ _ ⟨L,⟨r,r,r,r,r,r,y⟩,a,sm i⟩
     rw [decide_eq_false h7]
     refine sNo r (sNo r (sNo r (sNo r (sNo r (sNo r (sNo r (sNo r (sNo r (sNo r (s (xPkFB r r) (n ?_)))))))))))
     exact K _ _ ⟨false,⟨r,r,r,r,r,r,y⟩,a,sm i⟩
    clear a
    rintro f w ⟨p,hf,a,ah⟩
    obtain ⟨b9,rfl⟩:=has_updL _ _ hf
    clear hf
    subst ah
    replace k:=gi k
    rcases iv k with ⟨u,k⟩|⟨u,k⟩
    ·refine wIfT (cb u) (wk (wBk (g (s (mi r) (s (xAddW r r) (s (xi r) (n ?_)))))))
     exact ac n5 _ _ (Nat.lt_succ_self _) ⟨(wr (j+1)),⟨r,r,r,r,r,y⟩,a,k⟩
    replace u:=nt u
    refine wIfF (cb u) (wEx ?_)
    exact aa _ _ ⟨j,⟨r,r,r,r,r,y⟩,a,sm k⟩
  clear a
  rintro f w ⟨j,hf,a,ai⟩
  obtain ⟨b9,rfl⟩:=has_updL _ _ hf
  clear hf
  subst ai
  replace d:=gi d
  refine q (q (g (s (mi r) (s (mi r) (s (xSubW r r) (s (xGtr r r) (n ?_)))))))
  rcases iv d with ⟨M,d⟩|⟨M,d⟩
  ·refine wIfT (bt M) (q (g (s bd143_ (sTs (tb a 0 [V 0,V 0,T be,V 0] r ti143 r r r r r (show _=#[V 0,V 0,T be,V 0] from r)) ?_))))
   intro aF a
   try dsimp only [List.set] at a
   refine s (xi r) (s (xi r) (n (wRt ?_)))
   obtain rfl:=sm d
   refine resV3 r (rdA r u143_ r ti143 r (a.bk 0 r)) (rdT r) (rdT r) ?_
   exact pok (pok (⟨r,(a.arr [] r)⟩))
  refine wIfF (bf M) (wk (q (g (s (xMvT r) (s (mi r) (s (mi r) ?_))))))
  obtain ⟨D,a1,d⟩:=bs d
  refine s (xSlS u9_ r r r a1) (s (xAsT r) (n (q (q (g (s (xMvT r) ?_))))))
  obtain ⟨aj,ak,d⟩:=bs d
  have hc:=(sp_r02_Reserved fu) (a.pr [] [0] [] r)  ak
  refine sc (ec cal91 r) hc ?_
  rintro _ aG ⟨rfl,m⟩
  replace a:=a.cl [] [0] r m r
  try dsimp only [pick,nth,ca,na] at a
  refine n ?_
  rcases iv d with ⟨v,d⟩|⟨v,d⟩
  ·refine wIfT (cb v) (q (g (s (mi r) (s (xMvT r) (s (bd143_0_1_2 r r r) (s (mi r) (sTs (tb a 0 [V 3,V l,T D,V 0] r ti143 r r r r r (show _=#[V 3,V l,T D,V 0] from r)) ?_)))))))
   intro aH a
   try dsimp only [List.set] at a
   refine s (xi r) (s (xi r) (n (wRt ?_)))
   obtain rfl:=sm d
   refine resV3 r (rdA r u143_ r ti143 r (a.bk 0 r)) (rdT r) (rdT r) ?_
   exact pok (pok (⟨r,(a.arr [] r)⟩))
  replace v:=nt v
  refine wIfF (cb v) (wk (q (g (s (mi r) (s (xMvT r) (s (bd143_0_1_2 r r r) (s (mi r) (sTs (tb a 0 [V 1,V l,T D,V 0] r ti143 r r r r r (show _=#[V 1,V l,T D,V 0] from r)) ?_))))))))
  intro aI a
  try dsimp only [List.set] at a
  refine s (xi r) (s (xi r) (n (wRt ?_)))
  obtain rfl:=sm d
  refine resV3 r (rdA r u143_ r ti143 r (a.bk 0 r)) (rdT r) (rdT r) ?_
  exact pok (pok (⟨r,(a.arr [] r)⟩))
 replace Y:=nt Y
 refine wIfF (cb Y) (wk (q (q (g (s (xMvT r) (s (mi r) ?_))))))
 obtain ⟨aJ,a2,d⟩:=bs d
 refine s (xIxS u9_ r r a2) ?_
 obtain ⟨al,am,d⟩:=bs d
 have hc:=(sp_r02_digit fu) (a.pr [] [0] [] r)  am
 refine sc (ec cal90 r) hc ?_
 rintro _ aK ⟨rfl,m⟩
 replace a:=a.cl [] [0] r m r
 try dsimp only [pick,nth,ca,na] at a
 refine n ?_
 rcases iv d with ⟨x,d⟩|⟨x,d⟩
 ·refine wIfT (cb x) (q (g (s (xi r) (n (q ?_)))))
  obtain ⟨a3,b,d⟩:=bs d
  refine wJd (fun f w=>∃ (e:Int)(c:Int),Has f [(0,T F),(1,V e),(2,V l),(6,Pt o),(9,V C),(11,V c)]∧Bx X w b8 G [.box o 143 #[V 0,V 0,T be,V 0]] []∧Ld.go (e,c)=a3) (fun aL H=>?_) ?_
  ·refine wBk (wLoopGd (fun ba f w=>∃ (e:Int)(c:Int),Has f [(0,T F),(1,V e),(2,V l),(6,Pt o),(9,V C),(11,V c)]∧Bx X w b8 G [.box o 143 #[V 0,V 0,T be,V 0]] []∧m_r02_one_L2 fu F C ba e c=some a3) fu ⟨C,0,⟨r,r,r,r,r,r,y⟩,a,b⟩ ?_)
   clear a b
   rintro E f w ⟨e,c,hf,a,b⟩ aM I
   obtain ⟨b9,rfl⟩:=has_updL _ _ hf
   clear hf
   cases E with
   | zero=>exact nn b
   | succ E=>
    rw [m_r02_one_L2] at b
    refine q (q (g (s (mi r) (s (xMvT r) (s (xLenS u9_ r) (s (xLss r r) (s (xMvB r) ?_)))))))
    rcases iv b with ⟨N,b⟩|⟨N,b⟩
    ·rw [decide_eq_true N]
     refine sGo r (s (xMvT r) (sGo r (s (mi r) ?_)))
     obtain ⟨aN,a4,b⟩:=bs b
     refine sGo r (s (xIxS u9_ r r a4) ?_)
     obtain ⟨an,ao,b⟩:=bs b
     refine sGo r ?_
     have hc:=(sp_r02_digit fu) (a.pr [] [0] [] r)  ao
     refine sc (ec cal90 r) hc ?_
     rintro _ aO ⟨rfl,m⟩
     replace a:=a.cl [] [0] r m r
     try dsimp only [pick,nth,ca,na] at a
     refine s (xPkTB r r) (n ?_)
     rcases iv b with ⟨z,b⟩|⟨z,b⟩
     ·refine wIfT (cb z) (wk (wBk (q (q (g (s (mi r) (s (mi r) (s (xSubW r r) (s (xLss r r) (n ?_))))))))))
      rcases iv b with ⟨Q,b⟩|⟨Q,b⟩
      ·refine wIfT (bt Q) (g (s (mi r) (s (xMulW r r) (s (xMvT r) (s (mi r) ?_)))))
       obtain ⟨ap,a5,b⟩:=bs b
       refine s (xIxS u9_ r r a5) (s (xSub8 r r) (s (xCvW ⟨_,u5_⟩ u3_ r) (s (xAddW r r) (s (xi r) (n (g (s (mi r) (s (xAddW r r) (s (xi r) (n ?_))))))))))
       exact I E _ _ (Nat.lt_succ_self _) ⟨(wr (e+1)),(wr ((wr (10 * c))+(wr (w8 (ap - 48))))),⟨r,r,r,r,r,r,y⟩,a,b⟩
      refine wIfF (bf Q) (wk (g (s (mi r) (s (xAddW r r) (s (xi r) (n ?_))))))
      exact I E _ _ (Nat.lt_succ_self _) ⟨(wr (e+1)),c,⟨r,r,r,r,r,r,y⟩,a,b⟩
     replace z:=nt z
     refine wIfF (cb z) (wEx ?_)
     exact H _ _ ⟨e,c,⟨r,r,r,r,r,r,y⟩,a,sm b⟩
    rw [decide_eq_false N]
    refine sNo r (sNo r (sNo r (sNo r (s (xPkFB r r) (n (wIfF r (wEx ?_)))))))
    exact H _ _ ⟨e,c,⟨r,r,r,r,r,r,y⟩,a,sm b⟩
  clear a
  rintro f w ⟨e,c,hf,a,a6⟩
  obtain ⟨b9,rfl⟩:=has_updL _ _ hf
  clear hf
  subst a6
  replace d:=gi d
  replace d:=pi d
  refine q (q (g (s (mi r) (s (mi r) (s (xSubW r r) (s (xGtr r r) (n ?_)))))))
  rcases iv d with ⟨S,d⟩|⟨S,d⟩
  ·refine wIfT (bt S) (q (g (s bd143_ (sTs (tb a 0 [V 0,V 0,T be,V 0] r ti143 r r r r r (show _=#[V 0,V 0,T be,V 0] from r)) ?_))))
   intro aP a
   try dsimp only [List.set] at a
   refine s (xi r) (s (xi r) (n (wRt ?_)))
   obtain rfl:=sm d
   refine resV3 r (rdA r u143_ r ti143 r (a.bk 0 r)) (rdT r) (rdT r) ?_
   exact pok (pok (⟨r,(a.arr [] r)⟩))
  refine wIfF (bf S) (wk (q ?_))
  obtain ⟨aq,h,d⟩:=bs d
  refine wJd (fun f w=>Has f [(1,V e),(2,V l),(6,Pt o),(11,V c)]∧Bx X w b8 G [.box o 143 #[V 0,V 0,T be,V 0]] []∧Ld.go ()=aq) (fun aQ J=>?_) ?_
  ·unfold m_r02_one_J3 at h
   refine q (g (s (mi r) (s (xMvT r) (s (xLenS u9_ r) (s (xLss r r) (s (xMvB r) ?_))))))
   rcases iv h with ⟨U,h⟩|⟨U,h⟩
   ·rw [decide_eq_true U]
    refine sGo r (s (xMvT r) (sGo r (s (mi r) ?_)))
    obtain ⟨aR,a7,h⟩:=bs h
    refine sGo r (s (xIxS u9_ r r a7) ?_)
    obtain ⟨ar,au,h⟩:=bs h
    refine sGo r ?_
    have hc:=(sp_r02_letter fu) (a.pr [] [0] [] r)  au
    refine sc (ec cal89 r) hc ?_
    rintro _ aS ⟨rfl,m⟩
    replace a:=a.cl [] [0] r m r
    try dsimp only [pick,nth,ca,na] at a
    refine s (xPkTB r r) (n ?_)
    rcases iv h with ⟨A,h⟩|⟨A,h⟩
    ·refine wIfT (cb A) (q (g (s bd143_ (sTs (tb a 0 [V 0,V 0,T be,V 0] r ti143 r r r r r (show _=#[V 0,V 0,T be,V 0] from r)) ?_))))
     intro aT a
     try dsimp only [List.set] at a
     refine s (xi r) (s (xi r) (n (wRt ?_)))
     obtain rfl:=sm h
     replace d:=oi d
     obtain rfl:=sm d
     refine resV3 r (rdA r u143_ r ti143 r (a.bk 0 r)) (rdT r) (rdT r) ?_
     exact pok (pok (⟨r,(a.arr [] r)⟩))
    replace A:=nt A
    refine wIfF (cb A) (wk ?_)
    exact J _ _ ⟨⟨r,r,r,r,y⟩,a,sm h⟩
   rw [decide_eq_false U]
   refine sNo r (sNo r (sNo r (sNo r (s (xPkFB r r) (n (wIfF r (wk ?_)))))))
   exact J _ _ ⟨⟨r,r,r,r,y⟩,a,sm h⟩
  clear a
  rintro f w ⟨hf,a,a8⟩
  obtain ⟨b9,rfl⟩:=has_updL _ _ hf
  clear hf
  subst a8
  replace d:=gi d
  refine q (g (s (mi r) (s (mi r) (s (bd143_0_1_3 r r r) (s (mi r) (sTs (tb a 0 [V 2,V l,T be,V c] r ti143 r r r r r (show _=#[V 2,V l,T be,V c] from r)) ?_))))))
  intro aU a
  try dsimp only [List.set] at a
  refine s (xi r) (s (xi r) (n (wRt ?_)))
  obtain rfl:=sm d
  refine resV3 r (rdA r u143_ r ti143 r (a.bk 0 r)) (rdT r) (rdT r) ?_
  exact pok (pok (⟨r,(a.arr [] r)⟩))
 replace x:=nt x
 refine wIfF (cb x) (wk (q (g (s (xMvT r) (s (mi r) ?_)))))
 obtain ⟨B,av,d⟩:=bs d
 have hc:=(sp_r02_sign fu) (a.pr [] [0] [] r)  av
 refine sc (ec cal92 r) hc ?_
 rintro _ aV ⟨rfl,m⟩
 replace a:=a.cl [] [0] r m r
 try dsimp only [pick,nth,ca,na] at a
 refine s (xAsT r) (n (q (q (g (s (xMvT r) (s (xEqlT' r r) (n ?_)))))))
 rcases iv d with ⟨W,d⟩|⟨W,d⟩
 ·refine wIfT (bt W) (q (g (s bd143_ (sTs (tb a 0 [V 0,V 0,T be,V 0] r ti143 r r r r r (show _=#[V 0,V 0,T be,V 0] from r)) ?_))))
  intro aW a
  try dsimp only [List.set] at a
  refine s (xi r) (s (xi r) (n (wRt ?_)))
  obtain rfl:=sm d
  refine resV3 r (rdA r u143_ r ti143 r (a.bk 0 r)) (rdT r) (rdT r) ?_
  exact pok (pok (⟨r,(a.arr [] r)⟩))
 refine wIfF (bf W) (wk (q (g (s (mi r) (s (xMvT r) (s (bd143_0_1_2 r r r) (s (mi r) (s (xMvT r) (s (xLenS u9_ r) (s (xAddW r r) (sTs (tb a 0 [V 4,V l,T B,V 0] r ti143 r r r r r (show _=#[V 4,V l,T B,V 0] from r)) ?_)))))))))))
 intro aX a
 try dsimp only [List.set] at a
 refine s (xi r) (s (xi r) (n (wRt ?_)))
 obtain rfl:=sm d
 refine resV3 r (rdA r u143_ r ti143 r (a.bk 0 r)) (rdT r) (rdT r) ?_
 exact pok (pok (⟨r,(a.arr [] r)⟩))
def Ct_r02_Scan (m:BA→Option ((List GToken) × Int × Int)):Prop:=∀ {d:World} {j:Nat→Prop} {e:BA}  {R:(List GToken) × Int × Int},Pre d j [] []→m e=some R→
 Calls Try.prog 44 #[T e] d (Ret fun v w=>pel R fun f R=>pel R fun h i=>∃ (a:OA)(b:Nat)(c:LV),v=.tuple #[Z a f b,V h,V i]∧Bx d w j (Gof []) [O d.heap.size a b 143 GToken c] [.els c f])
def m_r02_Scan_J1 (fu:Nat)(b:List GToken) (a:Int):Option (Ld (Int) ((List GToken) × Int × Int)):=
 if a=0 then
  if 2000≤(b.length:Int) then
   some (.go 5)
  else
   some (.go a)
 else
  some (.go a)
def m_r02_Scan_L0 (fu:Nat)(k:BA):Nat→Int→Int→(List GToken)→Option (Ld (Int × Int × List GToken) ((List GToken) × Int × Int))
 | 0,_,_,_=>none
 | m+1,b,a,c=>
 if b < (k.size:Int) then
  (m_r02_one fu k b a).bind fun p=>
  pel p fun h p=>pel p fun i j=>
  (m_r02_Scan_J1 fu c j).bind fun p=>p.el (fun d=>
  if d≠0 then
   some (.out (([]:List GToken),a,d))
  else
   (app c ([h]:List GToken)).bind fun l=>
   (m_r02_skip fu k i a).bind fun p=>
   pel p fun e f=>
   m_r02_Scan_L0 fu k m e f l
  ) (fun o=>some (.out o))
 else
  some (.go (b,a,c))
def m_r02_Scan (fu:Nat)(e:BA):Option ((List GToken) × Int × Int):=
 if 4000 < (e.size:Int) then
  some (([]:List GToken),0,5)
 else
  (m_r02_skip fu e 0 1).bind fun i=>
  pel i fun a b=>
  (m_r02_Scan_L0 fu e fu a b ([]:List GToken)).bind fun i=>i.el (fun i=>
  pel i fun h i=>pel i fun c d=>
  (app d ([(⟨0,c,be,0⟩:GToken)]:List GToken)).bind fun f=>
  some (f,0,0)
  ) (fun o=>some o)
theorem sp_r02_Scan (fu:Nat):Ct_r02_Scan (m_r02_Scan fu):=by
 intro B au K R hP l
 unfold m_r02_Scan at l
 have c:=hP.bx
 clear hP
 generalize hG:Gof _=G at c ⊢
 refine cf Try.func44 r ?_
 refine wCut [(0,T K)] ⟨r,y⟩ fun av=>?_
 refine q (g (s (xAsS r) (s (xi r) (s (xi r) (n (q (q (g (s (xMvT r) (s (xLenS u9_ r) (s (xGtr r r) (n ?_))))))))))))
 rcases iv l with ⟨L,l⟩|⟨L,l⟩
 ·refine wIfT (bt L) (q (g (s (xAsS r) (s (xi r) (s (xi r) (n (wRt ?_)))))))
  replace c:=c.owL GToken 143
  obtain rfl:=sm l
  refine resV3 r (rdT r) (rdT r) (rdT r) ?_
  exact pok (pok (⟨none,0,[],r,c⟩))
 refine wIfF (bf L) (wk (q (g (s (xAsS r) (n (q (g (s (xMvT r) ?_))))))))
 obtain ⟨⟨C,D⟩,h3,l⟩:=bs l
 replace l:=pi l
 have hc:=(sp_r02_skip fu) (c.pr [] [] [] r)  h3
 refine sc (ec cal60 r) hc ?_
 rintro _ w3 ⟨rfl,E⟩
 replace c:=c.cl [] [] r E r
 try dsimp only [pick,nth,ca,na] at c
 refine s xMove (s (xExtract r r) (s (xExtract r r) (s (xi r) (s (xi r) (n (q ?_))))))
 replace c:=c.owL GToken 143
 obtain ⟨Y4,b,l⟩:=bs l
 refine wJd (fun f w=>∃ (m:Int)(j:Int)(i:List GToken) (d:OA)(e:Nat)(h:LV),Has f [(5,Z d i e),(7,V j)]∧Bx B w au G [O B.heap.size d e 143 GToken h] [.els h i]∧Ld.go (m,j,i)=Y4) (fun J4 M=>?_) ?_
 ·refine wBk (wLoopGd (fun aw f w=>∃ (m:Int)(j:Int)(i:List GToken) (d:OA)(e:Nat)(h:LV),Has f [(0,T K),(5,Z d i e),(6,V m),(7,V j)]∧Bx B w au G [O B.heap.size d e 143 GToken h] [.els h i]∧m_r02_Scan_L0 fu K aw m j i=some Y4) fu ⟨C,D,([]:List GToken),none,0,[],⟨r,r,r,r,y⟩,c,b⟩ ?_)
  clear c b
  rintro N f w ⟨m,j,i,d,e,h,hf,c,b⟩ K4 Q
  obtain ⟨av,rfl⟩:=has_updL _ _ hf
  clear hf
  cases N with
  | zero=>exact nn b
  | succ N=>
   rw [m_r02_Scan_L0] at b
   refine q (q (g (s (mi r) (s (xMvT r) (s (xLenS u9_ r) (s (xLss r r) (n ?_)))))))
   rcases iv b with ⟨S,b⟩|⟨S,b⟩
   ·refine wIfT (bt S) (wk (wBk (q (g (s (xMvT r) (s (mi r) (s (mi r) ?_)))))))
    obtain ⟨⟨a,F,t⟩,h7,b⟩:=bs b
    replace b:=pi b
    replace b:=pi b
    have hc:=(sp_r02_one fu) (c.pr [] [0] [] r)  h7
    refine sc (ec cal61 r) hc ?_
    rintro _ w7 ⟨rfl,E⟩
    replace c:=c.cl [] [0] r E r
    try dsimp only [pick,nth,ca,na] at c
    refine s xMove (s (xExtract r r) (s (xExtract r r) (s (xExtract r r) (sTo (aNewB c (mAlloc ti143)) ?_))))
    rintro _ w8 ⟨b8,rfl,c⟩
    refine sTs (tb c 0 [V a.Kind,V a.Line,T a.Text,V a.Number] r ti143 r r r r r (show _=#[V a.Kind,V a.Line,T a.Text,V a.Number] from r)) ?_
    intro w9 c
    try dsimp only [List.set] at c
    refine s (xi r) (s (xi r) (n (q ?_)))
    obtain ⟨U,k,b⟩:=bs b
    refine wJd (fun f w=>∃ (o:Int),Has f [(0,T K),(5,Z d i e),(7,V j),(8,Pt b8),(9,V F),(10,V o)]∧Bx B w au G [.box b8 143 #[V a.Kind,V a.Line,T a.Text,V a.Number],O B.heap.size d e 143 GToken h] [.els h i]∧Ld.go o=U) (fun ab p=>?_) ?_
    ·unfold m_r02_Scan_J1 at k
     refine q (g (s (mi r) (s (xEqlD r r) (s (xMvB r) ?_))))
     rcases iv k with ⟨u,k⟩|⟨u,k⟩
     ·rw [decide_eq_true u]
      refine sGo r (s (xMvS r) (sGo r (s (xLnR u97_ r) (sGo r (s (xGeq r r) (s (xPkTB r r) (n ?_)))))))
      rcases iv k with ⟨v,k⟩|⟨v,k⟩
      ·refine wIfT (bt v) (g (s (xi r) (n ?_)))
       exact p _ _ ⟨5,⟨r,r,r,r,r,r,y⟩,c,sm k⟩
      refine wIfF (bf v) (wk ?_)
      exact p _ _ ⟨t,⟨r,r,r,r,r,r,y⟩,c,sm k⟩
     rw [decide_eq_false u]
     refine sNo r (sNo r (sNo r (s (xPkFB r r) (n (wIfF r (wk ?_))))))
     exact p _ _ ⟨t,⟨r,r,r,r,r,r,y⟩,c,sm k⟩
    clear c
    rintro f w ⟨o,hf,c,H⟩
    obtain ⟨av,rfl⟩:=has_updL _ _ hf
    clear hf
    subst H
    replace b:=gi b
    refine q (q (g (s (mi r) (s (xNeqD r r) (n ?_)))))
    rcases iv b with ⟨x,b⟩|⟨x,b⟩
    ·refine wIfT (bt x) (q (g (s (mi r) (s (mi r) (s (xAsS r) (s (xi r) (s (xi r) (n (wRt ?_)))))))))
     replace c:=c.owL GToken 143
     obtain rfl:=sm b
     replace l:=oi l
     obtain rfl:=sm l
     refine resV3 r (rdT r) (rdT r) (rdT r) ?_
     exact pok (pok (⟨none,0,[],r,(c.ad [0] [0])⟩))
    refine wIfF (bf x) (wk (q (g (s (xMvS r) (s (xLoadS [V a.Kind,V a.Line,T a.Text,V a.Number] u143_ r ti143 r r (Cells.part (c.bk 0 r).cells (o2:=0) r)) (sTo (aRowB c [[V a.Kind,V a.Line,T a.Text,V a.Number]] ([a]:List GToken) (bs97_1_a r) r r (by decide) ⟨r,y⟩) ?_))))))
    rintro _ ac ⟨ae,rfl,c⟩
    obtain ⟨W,I,b⟩:=bs b
    refine sTo (aAppB c 2 1 r r u97_ ti143 r (by decide) (by decide) (Nat.le_refl _) r r (c.ysO 0 0 r r) I) ?_
    rintro _ af ⟨X,Y,a0,rfl,c⟩
    refine s (xAsS r) (n (g (s (xMvT r) (s (mi r) (s (mi r) ?_)))))
    obtain ⟨⟨z,A⟩,a1,b⟩:=bs b
    replace b:=pi b
    have hc:=(sp_r02_skip fu) (c.pr [] [0,1,2] [] r)  a1
    refine sc (ec cal60 r) hc ?_
    rintro _ ag ⟨rfl,E⟩
    replace c:=c.cl [] [0,1,2] r E r
    try dsimp only [pick,nth,ca,na] at c
    refine s xMove (s (xExtract r r) (s (xExtract r r) (s (xi r) (s (xi r) (n ?_)))))
    exact Q N _ _ (Nat.lt_succ_self _) ⟨z,A,W,X,Y,a0,⟨r,r,r,r,y⟩,(c.ad [2] [1]),b⟩
   refine wIfF (bf S) (wEx ?_)
   exact M _ _ ⟨m,j,i,d,e,h,⟨r,r,y⟩,c,sm b⟩
 clear c
 rintro f w ⟨m,j,i,d,e,h,hf,c,a2⟩
 obtain ⟨av,rfl⟩:=has_updL _ _ hf
 clear hf
 subst a2
 replace l:=gi l
 replace l:=pi l
 replace l:=pi l
 refine q (g (s (xMvS r) (s (mi r) (s (bd143_0_1 r r) (sTo (aRowB c [[V 0,V j,T be,V 0]] ([(⟨0,j,be,0⟩:GToken)]:List GToken) (bs97_1_a r) r r (by decide) ⟨r,y⟩) ?_)))))
 rintro _ ah ⟨ai,rfl,c⟩
 obtain ⟨aj,J,l⟩:=bs l
 refine sTo (aAppB c 1 1 r r u97_ ti143 r (by decide) (by decide) (Nat.le_refl _) r r (c.ysO 0 0 r r) J) ?_
 rintro _ ak ⟨a3,a4,a5,rfl,c⟩
 refine s (xAsS r) (s (xi r) (s (xi r) (n (wRt ?_))))
 obtain rfl:=sm l
 refine resV3 r (rdT r) (rdT r) (rdT r) ?_
 exact pok (pok (⟨a3,a4,a5,r,(c.ad [1] [1])⟩))
abbrev T_r03_Digits:=Int→Option (ByteArray)
def Ct_r03_Digits (m:Int→Option (BA)):Prop:=∀ {a:World} {d:Nat→Prop} {b:Int}  {c:BA},Pre a d [] []→m b=some c→
 Calls Try.prog 79 #[V b] a (Ret fun v w=>v=T c∧Bx a w d (Gof []) [] [])
def F_r03_Digits (fu:Nat)(r_r03_Digits:T_r03_Digits) (a:Int):Option (BA):=
 if a < 0 then
  if a=(-9223372036854775808) then
   some (⟨#[45,57,50,50,51,51,55,50,48,51,54,56,53,52,55,55,53,56,48,56]⟩:BA)
  else
   (r_r03_Digits (wr (0 - a))).bind fun c=>
   (cat (⟨#[45]⟩:BA) c).bind fun f=>
   some f
 else
  if a < 10 then
   some (bst ([⟨(w8 (wr (48+a)))⟩]:List GU8))
  else
   (r_r03_Digits (wr (a.tdiv 10))).bind fun d=>
   (r_r03_Digits (a.tmod 10)).bind fun b=>
   (cat d b).bind fun e=>
   some e
def tab_r03_Digits:Nat→(Int→Option (BA))
 | 0=>(fun _=>none)
 | fu+1=>F_r03_Digits fu (tab_r03_Digits fu)
def m_r03_Digits (fu:Nat):=(tab_r03_Digits fu)
theorem wk_r03_Digits (fu:Nat)(r_r03_Digits:T_r03_Digits) (H_r03_Digits:Ct_r03_Digits r_r03_Digits):Ct_r03_Digits (F_r03_Digits fu r_r03_Digits):=by
 intro x F e z m a
 unfold F_r03_Digits at a
 have b:=m.bx
 clear m
 generalize A:Gof _=G at b ⊢
 refine cf Try.func79 r ?_
 refine wCut [(0,V e)] ⟨r,y⟩ fun H=>?_
 refine q (g (s (xAsT r) (n (q (q (g (s (mi r) (s (xLss r r) (n ?_)))))))))
 rcases iv a with ⟨f,a⟩|⟨f,a⟩
 ·refine wIfT (bt f) (q (q (g (s (mi r) (s (xEqlD r r) (n ?_))))))
  rcases iv a with ⟨h,a⟩|⟨h,a⟩
  ·refine wIfT (bt h) (q (g (s (xAsT r) (n (wRt ?_)))))
   obtain rfl:=sm a
   refine resV1 r (rdT r) ?_
   exact ⟨r,b⟩
  refine wIfF (bf h) (wk (q (g (s (mi r) (s (xSubW r r) ?_)))))
  obtain ⟨o,t,a⟩:=bs a
  have hc:=H_r03_Digits (b.pr [] [] [] r)  t
  refine sc (ec cal79 r) hc ?_
  rintro _ B ⟨rfl,c⟩
  replace b:=b.cl [] [] r c r
  try dsimp only [pick,nth,ca,na] at b
  obtain ⟨C,i,a⟩:=bs a
  refine s (xCat r r i) (s (xAsT r) (n (wRt ?_)))
  obtain rfl:=sm a
  refine resV1 r (rdT r) ?_
  exact ⟨r,b⟩
 refine wIfF (bf f) (wk (q (q (g (s (mi r) (s (xLss r r) (n ?_)))))))
 rcases iv a with ⟨j,a⟩|⟨j,a⟩
 ·refine wIfT (bt j) (q (g (s (mi r) (s (xAddW r r) (s (xCv8 ⟨_,u3_⟩ u5_ r) (sTo (aRowB b [[.int .u8 (w8 (wr (48+e)))]] ([⟨(w8 (wr (48+e)))⟩]:List GU8) (bs187_1_a r) r r (by decide) ⟨r,y⟩) ?_))))))
  rintro _ D ⟨E,rfl,b⟩
  refine s (xBtS u187_ u5_ u9_ r (b.vw 0 0 r r)) (s (xAsT r) (n (wRt ?_)))
  obtain rfl:=sm a
  refine resV1 r (rdT r) ?_
  exact ⟨r,(b.ad [] [])⟩
 refine wIfF (bf j) (wk (q (g (s (mi r) (s (xQuoW r r (by decide)) ?_)))))
 obtain ⟨p,u,a⟩:=bs a
 have hc:=H_r03_Digits (b.pr [] [] [] r)  u
 refine sc (ec cal79 r) hc ?_
 rintro _ w8 ⟨rfl,c⟩
 replace b:=b.cl [] [] r c r
 try dsimp only [pick,nth,ca,na] at b
 refine s (mi r) (s (xRemW r r (by decide)) ?_)
 obtain ⟨k,l,a⟩:=bs a
 have hc:=H_r03_Digits (b.pr [] [] [] r)  l
 refine sc (ec cal79 r) hc ?_
 rintro _ v ⟨rfl,c⟩
 replace b:=b.cl [] [] r c r
 try dsimp only [pick,nth,ca,na] at b
 obtain ⟨w,d,a⟩:=bs a
 refine s (xCat r r d) (s (xAsT r) (n (wRt ?_)))
 obtain rfl:=sm a
 refine resV1 r (rdT r) ?_
 exact ⟨r,b⟩
theorem sps_r03_Digits (fu:Nat):Ct_r03_Digits (m_r03_Digits fu):=by
 induction fu with
 | zero=>exact by intro a b;intros;exact nn (by assumption)
 | succ fu ih=>exact wk_r03_Digits fu (m_r03_Digits fu) ih
theorem sp_r03_Digits (fu:Nat):Ct_r03_Digits (m_r03_Digits fu):=(sps_r03_Digits fu)
end
end Go.Proofs.Ytfglbdkfnphjgaa
