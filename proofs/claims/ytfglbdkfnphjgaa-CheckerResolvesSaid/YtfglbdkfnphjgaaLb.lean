/- Contracts, printed by gen3.py. -/
import Derived.Test.YtfglbdkfnphjgaaZt
import Derived.Test.YtfglbdkfnphjgaaLa
set_option linter.unusedVariables false
set_option maxHeartbeats 12800000
set_option linter.unusedSimpArgs false
set_option maxRecDepth 4000
namespace Go.Proofs.Ytfglbdkfnphjgaa
open Go.RowKit Go.Fw
noncomputable section
def Ct_r03_fail (m:GState→Int→Option (GState)):Prop:=∀ {h:World} {j:Nat→Prop} {d:GState} {i:Int} {f:Nat} {a:Option Addr} {b:Nat} {c:GState},Pre h j [.box f 102 #[Z a d.l b,V d.at_,V d.line,V d.e]] [.l a b d.l]→m d i=some c→
 Calls Try.prog 68 #[Pt f,V i] h (Ret fun v w=>v=.tuple #[]∧Bx h w j (Gof [.box f 102 #[Z a d.l b,V d.at_,V d.line,V d.e]]) [.box f 102 #[Z a c.l b,V c.at_,V c.line,V c.e]] [.l a b c.l])
def m_r03_fail (fu:Nat)(a:GState) (b:Int):Option (GState):=
 if a.e=0 then
  (ix a.l a.at_).bind fun c=>
  some (⟨a.l,a.at_,c.Line,b⟩:GState)
 else
  some a
theorem sp_r03_fail (fu:Nat):Ct_r03_fail (m_r03_fail fu):=by
 intro A F j u t d f z x o
 unfold m_r03_fail at o
 have b:=x.bx
 clear x
 generalize B:Gof _=G at b ⊢
 refine cf Try.func68 r ?_
 refine wCut [(0,Pt t),(1,V u)] ⟨r,r,y⟩ fun H=>?_
 refine q (g (s (mp r) (s (xn r) (s (f102_3 r) (s (l37 r (b.bk 0 r) r) (s (xEqlD r r) (n ?_)))))))
 rcases iv o with ⟨v,o⟩|⟨v,o⟩
 ·refine wIfT (bt v) (wDr b [] [0] [0] [0] [16,19] (by kernel_rfl) ?_)
  replace b:=b.drew
  have a:=(b.arr [] r)
  have c:=b
  refine pL 0 r (mp r) a c (pL 1 r (mp r) a c (pL 2 r (mi r) a c (pL 3 r (mp r) a c (pL 4 r (xn r) a c (pL 5 r (f102_0 r) a c (tS 1 6 r (fun _ hS=>l97 r (hS.bk 0 r) r) (sl_ a c) (pL 7 r (mp r) a c (pL 8 r (xn r) a c (pL 9 r (f102_1 r) a c (tS 1 10 r (fun _ hS=>l3 r (hS.bk 0 r) r) (sl_ a c) ?_))))))))))
  obtain ⟨p,m,o⟩:=bs o
  obtain ⟨C,w,m⟩:=ix_inv m
  refine pL 11 r (xIdR u97_ ti143 r r w (b.dl 0 r) m) a c (pL 12 r (f143_1 r) a c (tU 13 r (fun _ hS=>xLoad u3_ r r ((elF (ds:=[V p.Kind,V p.Line,T p.Text,V p.Number]) (hS.dl 0 r) m (fun _ h=>h)) 1 _ r)) (sl_ a c) (pL 14 r (xn r) a c (pL 15 r (f102_3 r) a c ?_))))
  refine hO 16 (os r r (tb b 0 [V u] r ti37 r r r r r (show _=#[Z d j.l f,V j.at_,V j.line,V u] from r)) ?_)
  intro D b
  try dsimp only [List.set] at b
  have a:=(b.arr [] r)
  refine ⟨(sy 16 a),?_⟩
  refine tP 17 r (fun _=>xn r) (sy 16 a) (tP 18 r (fun _=>f102_2 r) (sy 16 a) ?_)
  refine hO 19 (os r r (tb b 0 [V p.Line] r ti3 r r r r r (show _=#[Z d j.l f,V j.at_,V p.Line,V u] from r)) ?_)
  intro E b
  try dsimp only [List.set] at b
  have a:=(b.arr [] r)
  refine ⟨(sy 16 a),?_⟩
  refine hD ?_
  obtain rfl:=sm o
  refine res0 (P:=Try.prog) (fn:=Try.f68) r ?_
  exact ⟨r,b⟩
 refine wIfF (bf v) (wk ?_)
 obtain rfl:=sm o
 refine res0 (P:=Try.prog) (fn:=Try.f68) r ?_
 exact ⟨r,b⟩
def Ct_r03_is (m:GState→Int→BA→Option (Bool)):Prop:=∀ {f:World} {k:Nat→Prop} {c:GState} {h:Int} {i:BA} {d:Nat} {a:Option Addr} {b:Nat} {j:Bool},Pre f k [.box d 102 #[Z a c.l b,V c.at_,V c.line,V c.e]] [.l a b c.l]→m c h i=some j→
 Calls Try.prog 62 #[Pt d,V h,T i] f (Ret fun v w=>v=.bool j∧Bx f w k (Gof [.box d 102 #[Z a c.l b,V c.at_,V c.line,V c.e]]) [.box d 102 #[Z a c.l b,V c.at_,V c.line,V c.e]] [.l a b c.l])
def m_r03_is (fu:Nat)(a:GState) (c:Int)(d:BA):Option (Bool):=
 if (a.l.length:Int)≤(wr (a.at_+c)) then
  some false
 else
  (ix a.l (wr (a.at_+c))).bind fun b=>
  if b.Kind=3 then
   some (decide (b.Text=d))
  else
   if b.Kind=4 then
    some (decide (b.Text=d))
   else
    some false
theorem sp_r03_is (fu:Nat):Ct_r03_is (m_r03_is fu):=by
 intro B J p z A o j m C x c
 unfold m_r03_is at c
 have b:=x.bx
 clear x
 generalize D:Gof _=G at b ⊢
 refine cf Try.func62 r ?_
 refine wCut [(0,Pt o),(1,V z),(2,T A)] ⟨r,r,r,y⟩ fun K=>?_
 refine q (g (s (xAsB r) (n (q (q (wDr1 b [0] [] [] (by kernel_rfl) ?_))))))
 replace b:=b.drew
 have a:=(b.dp [])
 refine pF 0 r (mp r) a (pF 1 r (xn r) a (pF 2 r (f102_1 r) a (uF 3 r (fun hS=>l3 r (hS.bk 0 r) r) a (pF 4 r (mi r) a (pF 5 r (xAddW r r) a (pF 6 r (mp r) a (pF 7 r (xn r) a (pF 8 r (f102_0 r) a (uF 9 r (fun hS=>l97 r (hS.bk 0 r) r) a (pF 10 r (xLnR u97_ r) a (pF 11 r (xGeq r r) a (hD ?_))))))))))))
 rcases iv c with ⟨t,c⟩|⟨t,c⟩
 ·refine wIfT (bt t) (q (g (s (xAsB r) (n (wRt ?_)))))
  obtain rfl:=sm c
  refine resV1 r (rdT r) ?_
  exact ⟨r,b⟩
 refine wIfF (bf t) (wk (q (wDr1 b [0] [0] [] (by kernel_rfl) ?_)))
 replace b:=b.drew
 have a:=b
 refine pF 0 r (mp r) a (pF 1 r (xn r) a (pF 2 r (f102_0 r) a (uF 3 r (fun hS=>l97 r (hS.bk 0 r) r) a (pF 4 r (mp r) a (pF 5 r (xn r) a (pF 6 r (f102_1 r) a (uF 7 r (fun hS=>l3 r (hS.bk 0 r) r) a (pF 8 r (mi r) a (pF 9 r (xAddW r r) a ?_)))))))))
 obtain ⟨d,f,c⟩:=bs c
 obtain ⟨E,u,f⟩:=ix_inv f
 refine pF 10 r (xIdR u97_ ti143 r r u (b.dl 0 r) f) a (uF 11 r (fun hS=>xLoadS [V d.Kind,V d.Line,T d.Text,V d.Number] u143_ r ti143 r r (elF (ds:=[V d.Kind,V d.Line,T d.Text,V d.Number]) (hS.dl 0 r) f (fun _ h=>h))) a ?_)
 refine hO 12 (oo r r (aNewB b (mAlloc ti143)) ?_)
 rintro _ F ⟨H,rfl,b⟩
 have a:=(b.arr [1] r)
 refine ⟨(sF a),?_⟩
 refine hO 13 (os r r (tb b 0 [V d.Kind,V d.Line,T d.Text,V d.Number] r ti143 r r r r r (show _=#[V d.Kind,V d.Line,T d.Text,V d.Number] from r)) ?_)
 intro I b
 try dsimp only [List.set] at b
 have a:=(b.arr [1] r)
 refine ⟨(sF a),?_⟩
 refine hD (q (g (s (f143_0 r) (s (l3 r (b.bk 0 r) r) (s (xEqlD r r) (s (xMvB r) ?_))))))
 rcases iv c with ⟨v,c⟩|⟨v,c⟩
 ·rw [decide_eq_true v]
  refine sNo r (sNo r (sNo r (s (xPkTB r r) (s (xMvB r) (sGo r (s (f143_2 r) (sGo r (s (l9 r (b.bk 0 r) r) (sGo r (s (xMvT r) (sGo r (s (xEqlT' r r) (s (xPkTB r r) ?_)))))))))))))
  refine s (xAsB r) (n (wRt ?_))
  obtain rfl:=sm c
  refine resV1 r (rdT r) ?_
  exact ⟨r,(b.arr [1] r)⟩
 rw [decide_eq_false v]
 refine sGo r (s (f143_0 r) (sGo r (s (l3 r (b.bk 0 r) r) (sGo r (s (xEqlD r r) (s (xPkFB r r) (s (xMvB r) ?_)))))))
 rcases iv c with ⟨w,c⟩|⟨w,c⟩
 ·rw [decide_eq_true w]
  refine sGo r (s (f143_2 r) (sGo r (s (l9 r (b.bk 0 r) r) (sGo r (s (xMvT r) (sGo r (s (xEqlT' r r) (s (xPkTB r r) (s (xAsB r) (n (wRt ?_)))))))))))
  obtain rfl:=sm c
  refine resV1 r (rdT r) ?_
  exact ⟨r,(b.arr [1] r)⟩
 rw [decide_eq_false w]
 refine sNo r (sNo r (sNo r (sNo r (s (xPkFB r r) (s (xAsB r) (n (wRt ?_)))))))
 obtain rfl:=sm c
 refine resV1 r (rdT r) ?_
 exact ⟨r,(b.arr [1] r)⟩
def Ct_r03_kind (m:GState→Int→Int→Option (Bool)):Prop:=∀ {f:World} {k:Nat→Prop} {c:GState} {h:Int} {i:Int} {d:Nat} {a:Option Addr} {b:Nat} {j:Bool},Pre f k [.box d 102 #[Z a c.l b,V c.at_,V c.line,V c.e]] [.l a b c.l]→m c h i=some j→
 Calls Try.prog 67 #[Pt d,V h,V i] f (Ret fun v w=>v=.bool j∧Bx f w k (Gof [.box d 102 #[Z a c.l b,V c.at_,V c.line,V c.e]]) [.box d 102 #[Z a c.l b,V c.at_,V c.line,V c.e]] [.l a b c.l])
def m_r03_kind (fu:Nat)(a:GState) (b:Int)(c:Int):Option (Bool):=
 if (wr (a.at_+b)) < (a.l.length:Int) then
  (ix a.l (wr (a.at_+b))).bind fun d=>
  some (decide (d.Kind=c))
 else
  some false
theorem sp_r03_kind (fu:Nat):Ct_r03_kind (m_r03_kind fu):=by
 intro z D o w x m f j A v d
 unfold m_r03_kind at d
 have b:=v.bx
 clear v
 generalize B:Gof _=G at b ⊢
 refine cf Try.func67 r ?_
 refine wCut [(0,Pt m),(1,V w),(2,V x)] ⟨r,r,r,y⟩ fun E=>?_
 refine q (g (s (xAsB r) (n (q (wDr1 b [0] [0] [] (by kernel_rfl) ?_)))))
 replace b:=b.drew
 have a:=b
 refine pF 0 r (mp r) a (pF 1 r (xn r) a (pF 2 r (f102_1 r) a (uF 3 r (fun hS=>l3 r (hS.bk 0 r) r) a (pF 4 r (mi r) a (pF 5 r (xAddW r r) a (pF 6 r (mp r) a (pF 7 r (xn r) a (pF 8 r (f102_0 r) a (uF 9 r (fun hS=>l97 r (hS.bk 0 r) r) a (pF 10 r (xLnR u97_ r) a (pF 11 r (xLss r r) a (pF 12 r (xMvB r) a ?_))))))))))))
 rcases iv d with ⟨t,d⟩|⟨t,d⟩
 ·rw [decide_eq_true t]
  have a:=b
  refine pF 13 r (mp r) a (pF 14 r (xn r) a (pF 15 r (f102_0 r) a (uF 16 r (fun hS=>l97 r (hS.bk 0 r) r) a (pF 17 r (mp r) a (pF 18 r (xn r) a (pF 19 r (f102_1 r) a (uF 20 r (fun hS=>l3 r (hS.bk 0 r) r) a (pF 21 r (mi r) a (pF 22 r (xAddW r r) a ?_)))))))))
  obtain ⟨p,c,d⟩:=bs d
  obtain ⟨C,u,c⟩:=ix_inv c
  refine pF 23 r (xIdR u97_ ti143 r r u (b.dl 0 r) c) a (pF 24 r (f143_0 r) a (tU 25 r (fun _ hS=>xLoad u3_ r r ((elF (ds:=[V p.Kind,V p.Line,T p.Text,V p.Number]) (hS.dl 0 r) c (fun _ h=>h)) 0 _ r)) (sF a) (pF 26 r (mi r) a (pF 27 r (xEqlD r r) a (pF 28 r (xPkTB r r) a (pF 29 r (xAsB r) a (hD (wRt ?_))))))))
  obtain rfl:=sm d
  refine resV1 r (rdT r) ?_
  exact ⟨r,b⟩
 rw [decide_eq_false t]
 have a:=b
 refine hSkip' 13 r (by kernel_rfl) r (sF a) (hSkip' 14 r (by kernel_rfl) r (sF a) (hSkip' 15 r (by kernel_rfl) r (sF a) (hSkip' 16 r (by kernel_rfl) r (sF a) (hSkip' 17 r (by kernel_rfl) r (sF a) (hSkip' 18 r (by kernel_rfl) r (sF a) (hSkip' 19 r (by kernel_rfl) r (sF a) (hSkip' 20 r (by kernel_rfl) r (sF a) (hSkip' 21 r (by kernel_rfl) r (sF a) (hSkip' 22 r (by kernel_rfl) r (sF a) (hSkip' 23 r (by kernel_rfl) r (sF a) (hSkip' 24 r (by kernel_rfl) r (sF a) (hSkip' 25 r (by kernel_rfl) r (sF a) (hSkip' 26 r (by kernel_rfl) r (sF a) ?_)))))))))))))
 refine hSkip' 27 r (by kernel_rfl) r (sF a) (pF 28 r (xPkFB r r) a (pF 29 r (xAsB r) a (hD (wRt ?_))))
 obtain rfl:=sm d
 refine resV1 r (rdT r) ?_
 exact ⟨r,b⟩
def Ct_r03_take (m:GState→BA→Option (GState)):Prop:=∀ {h:World} {j:Nat→Prop} {d:GState} {i:BA} {f:Nat} {a:Option Addr} {b:Nat} {c:GState},Pre h j [.box f 102 #[Z a d.l b,V d.at_,V d.line,V d.e]] [.l a b d.l]→m d i=some c→
 Calls Try.prog 64 #[Pt f,T i] h (Ret fun v w=>v=.tuple #[]∧Bx h w j (Gof [.box f 102 #[Z a d.l b,V d.at_,V d.line,V d.e]]) [.box f 102 #[Z a c.l b,V c.at_,V c.line,V c.e]] [.l a b c.l])
def m_r03_take (fu:Nat)(a:GState) (d:BA):Option (GState):=
 if a.e≠0 then
  some a
 else
  (m_r03_is fu a 0 d).bind fun b=>
  if (!b)=true then
   (m_r03_fail fu a 7).bind fun c=>
   some c
  else
   some (⟨a.l,(wr (a.at_+1)),a.line,a.e⟩:GState)
theorem sp_r03_take (fu:Nat):Ct_r03_take (m_r03_take fu):=by
 intro A F f v h c d w p b
 unfold m_r03_take at b
 have a:=p.bx
 clear p
 generalize B:Gof _=G at a ⊢
 refine cf Try.func64 r ?_
 refine wCut [(0,Pt h),(1,T v)] ⟨r,r,y⟩ fun H=>?_
 refine q (q (g (s (mp r) (s (xn r) (s (f102_3 r) (s (l37 r (a.bk 0 r) r) (s (xNeqD r r) (n ?_))))))))
 rcases iv b with ⟨m,b⟩|⟨m,b⟩
 ·refine wIfT (bt m) (wRt ?_)
  obtain rfl:=sm b
  refine res0 (P:=Try.prog) (fn:=Try.f64) r ?_
  exact ⟨r,a⟩
 refine wIfF (bf m) (wk (q (q (g (s (mp r) (s (xMvT r) ?_))))))
 obtain ⟨t,x,b⟩:=bs b
 have hc:=(sp_r03_is fu) (a.pr [0] [] [0] r)  x
 refine sc (ec cal62 r) hc ?_
 rintro _ C ⟨rfl,o⟩
 replace a:=a.cl [0] [] r o r
 try dsimp only [pick,nth,ca,na] at a
 refine s (xNot r) (n ?_)
 rcases iv b with ⟨j,b⟩|⟨j,b⟩
 ·refine wIfT (cb j) (q (g (s (mp r) ?_)))
  obtain ⟨u,z,b⟩:=bs b
  have hc:=(sp_r03_fail fu) (a.pr [0] [] [1] r)  z
  refine sc (ec cal68 r) hc ?_
  rintro _ D ⟨rfl,o⟩
  replace a:=a.cl [0] [] r o r
  try dsimp only [pick,nth,ca,na] at a
  refine n (wRt ?_)
  obtain rfl:=sm b
  refine res0 (P:=Try.prog) (fn:=Try.f64) r ?_
  exact ⟨r,(a.dp [0])⟩
 replace j:=nt j
 refine wIfF (cb j) (wk (g (s (mp r) (s (xn r) (s (f102_1 r) (s (l3 r (a.bk 0 r) r) (s (xAddW r r) (s (xn r) (s (f102_1 r) (sTs (tb a 0 [V (wr (f.at_+1))] r ti3 r r r r r (show _=#[Z c f.l d,V (wr (f.at_+1)),V f.line,V f.e] from r)) ?_))))))))))
 intro E a
 try dsimp only [List.set] at a
 refine n ?_
 obtain rfl:=sm b
 refine res0 (P:=Try.prog) (fn:=Try.f64) r ?_
 exact ⟨r,(a.dp [1])⟩
def Ct_r03_name (m:GState→Option (BA × GState)):Prop:=∀ {h:World} {j:Nat→Prop} {d:GState} {f:Nat} {a:Option Addr} {b:Nat} {R:BA × GState},Pre h j [.box f 102 #[Z a d.l b,V d.at_,V d.line,V d.e]] [.l a b d.l]→m d=some R→
 Calls Try.prog 63 #[Pt f] h (Ret fun v w=>pel R fun i c=>v=T i∧Bx h w j (Gof [.box f 102 #[Z a d.l b,V d.at_,V d.line,V d.e]]) [.box f 102 #[Z a c.l b,V c.at_,V c.line,V c.e]] [.l a b c.l])
def m_r03_name (fu:Nat)(a:GState):Option (BA × GState):=
 if a.e≠0 then
  some ((⟨#[]⟩:BA),a)
 else
  (m_r03_kind fu a 0 1).bind fun b=>
  if (!b)=true then
   (m_r03_fail fu a 7).bind fun c=>
   some ((⟨#[]⟩:BA),c)
  else
   (ix a.l (wr ((wr (a.at_+1)) - 1))).bind fun d=>
   some (d.Text,(⟨a.l,(wr (a.at_+1)),a.line,a.e⟩:GState))
theorem sp_r03_name (fu:Nat):Ct_r03_name (m_r03_name fu):=by
 intro D K j o d f R x b
 unfold m_r03_name at b
 have a:=x.bx
 clear x
 generalize E:Gof _=G at a ⊢
 refine cf Try.func63 r ?_
 refine wCut [(0,Pt o)] ⟨r,y⟩ fun L=>?_
 refine q (g (s (xAsT r) (n (q (q (g (s (mp r) (s (xn r) (s (f102_3 r) (s (l37 r (a.bk 0 r) r) (s (xNeqD r r) (n ?_))))))))))))
 rcases iv b with ⟨u,b⟩|⟨u,b⟩
 ·refine wIfT (bt u) (q (g (s (xAsT r) (n (wRt ?_)))))
  obtain rfl:=sm b
  refine resV1 r (rdT r) ?_
  exact pok (⟨r,a⟩)
 refine wIfF (bf u) (wk (q (q (g (s (mp r) ?_)))))
 obtain ⟨z,B,b⟩:=bs b
 have hc:=(sp_r03_kind fu) (a.pr [0] [] [0] r)  B
 refine sc (ec cal67 r) hc ?_
 rintro _ F ⟨rfl,v⟩
 replace a:=a.cl [0] [] r v r
 try dsimp only [pick,nth,ca,na] at a
 refine s (xNot r) (n ?_)
 rcases iv b with ⟨p,b⟩|⟨p,b⟩
 ·refine wIfT (cb p) (q (g (s (mp r) ?_)))
  obtain ⟨A,C,b⟩:=bs b
  have hc:=(sp_r03_fail fu) (a.pr [0] [] [1] r)  C
  refine sc (ec cal68 r) hc ?_
  rintro _ H ⟨rfl,v⟩
  replace a:=a.cl [0] [] r v r
  try dsimp only [pick,nth,ca,na] at a
  refine n (q (g (s (xAsT r) (n (wRt ?_)))))
  obtain rfl:=sm b
  refine resV1 r (rdT r) ?_
  exact pok (⟨r,(a.dp [0])⟩)
 replace p:=nt p
 refine wIfF (cb p) (wk (q (g (s (mp r) (s (xn r) (s (f102_1 r) (s (l3 r (a.bk 0 r) r) (s (xAddW r r) (s (xn r) (s (f102_1 r) (sTs (tb a 0 [V (wr (j.at_+1))] r ti3 r r r r r (show _=#[Z d j.l f,V (wr (j.at_+1)),V j.line,V j.e] from r)) ?_)))))))))))
 intro I a
 try dsimp only [List.set] at a
 refine n (q (wDr1 a [0] [1] [] (by kernel_rfl) ?_))
 replace a:=a.drew
 have c:=(a.dp [1])
 refine pF 0 r (mp r) c (pF 1 r (xn r) c (pF 2 r (f102_0 r) c (uF 3 r (fun hS=>l97 r (hS.bk 0 r) r) c (pF 4 r (mp r) c (pF 5 r (xn r) c (pF 6 r (f102_1 r) c (uF 7 r (fun hS=>l3 r (hS.bk 0 r) r) c (pF 8 r (xSubW r r) c ?_))))))))
 obtain ⟨t,m,b⟩:=bs b
 obtain ⟨J,w,m⟩:=ix_inv m
 refine pF 9 r (xIdR u97_ ti143 r r w (a.dl 1 r) m) c (pF 10 r (f143_2 r) c (tU 11 r (fun _ hS=>xLoad u9_ r r ((elF (ds:=[V t.Kind,V t.Line,T t.Text,V t.Number]) (hS.dl 0 r) m (fun _ h=>h)) 2 _ r)) (sF c) (pF 12 r (xAsT r) c (hD (wRt ?_)))))
 obtain rfl:=sm b
 refine resV1 r (rdT r) ?_
 exact pok (⟨r,(a.dp [1])⟩)
def Ct_r03_names (m:GState→Option ((List BA) × GState)):Prop:=∀ {k:World} {p:Nat→Prop} {i:GState} {j:Nat} {a:Option Addr} {b:Nat} {R:(List BA) × GState},Pre k p [.box j 102 #[Z a i.l b,V i.at_,V i.line,V i.e]] [.l a b i.l]→m i=some R→
 Calls Try.prog 65 #[Pt j] k (Ret fun v w=>pel R fun o c=>∃ (d:OA)(f:Nat)(h:LV),v=Z d o f∧Bx k w p (Gof [.box j 102 #[Z a i.l b,V i.at_,V i.line,V i.e]]) [O k.heap.size d f 9 BA h,.box j 102 #[Z a c.l b,V c.at_,V c.line,V c.e]] [.els h o,.l a b c.l])
def m_r03_names_L0 (fu:Nat):Nat→(List BA)→(List GToken)→Int→Int→Int→Option (Ld (List BA × List GToken × Int × Int × Int) ((List BA) × GState))
 | 0,_,_,_,_,_=>none
 | o+1,h,b,c,d,a=>
 if a=0 then
  (m_r03_is fu (⟨b,c,d,a⟩:GState) 0 (⟨#[44]⟩:BA)).bind fun i=>
  if i=true then
   (m_r03_take fu (⟨b,c,d,a⟩:GState) (⟨#[44]⟩:BA)).bind fun j=>
   (m_r03_name fu j).bind fun p=>
   pel p fun k f=>
   (app h ([k]:List BA)).bind fun m=>
   m_r03_names_L0 fu o m f.l f.at_ f.line f.e
  else
   some (.go (h,b,c,d,a))
 else
  some (.go (h,b,c,d,a))
def m_r03_names (fu:Nat)(j:GState):Option ((List BA) × GState):=
 (m_r03_name fu j).bind fun k=>
 pel k fun b a=>
 (m_r03_names_L0 fu fu ([b]:List BA) a.l a.at_ a.line a.e).bind fun k=>k.el (fun k=>
 pel k fun c k=>pel k fun d k=>pel k fun f k=>pel k fun h i=>
 some (c,(⟨d,f,h,i⟩:GState))
 ) (fun o=>some o)
theorem sp_r03_names (fu:Nat):Ct_r03_names (m_r03_names fu):=by
 intro J aj K C u v R Y x
 unfold m_r03_names at x
 have m:=Y.bx
 clear Y
 generalize hG:Gof _=G at m ⊢
 refine cf Try.func65 r ?_
 refine wCut [(0,Pt C)] ⟨r,y⟩ fun ak=>?_
 refine q (g (s (xAsS r) (n (q (g (s (mp r) ?_))))))
 obtain ⟨⟨z,A⟩,h1,x⟩:=bs x
 replace x:=pi x
 have hc:=(sp_r03_name fu) (m.pr [0] [] [0] r)  h1
 refine sc (ec cal63 r) hc ?_
 rintro _ w1 ⟨rfl,E⟩
 replace m:=m.cl [0] [] r E r
 try dsimp only [pick,nth,ca,na] at m
 refine sTo (aRowB m [[T z]] ([z]:List BA) (bs70_1_a r) r r (by decide) ⟨r,y⟩) ?_
 rintro _ w2 ⟨b2,rfl,m⟩
 refine s (xAsS r) (n (q ?_))
 obtain ⟨Y3,a,x⟩:=bs x
 refine wJd (fun f w=>∃ (h:List BA) (b:OA)(c:Nat)(d:LV)(j:List GToken) (o:Int)(p:Int)(t:Int),Has f [(3,Z b h c)]∧Bx J w aj G [O J.heap.size b c 9 BA d,.box C 102 #[Z u j v,V o,V p,V t]] [.l u v j,.els d h]∧Ld.go (h,j,o,p,t)=Y3) (fun J3 F=>?_) ?_
 ·refine wBk (wLoopGd (fun al f w=>∃ (h:List BA) (b:OA)(c:Nat)(d:LV)(j:List GToken) (o:Int)(p:Int)(t:Int),Has f [(0,Pt C),(3,Z b h c)]∧Bx J w aj G [O J.heap.size b c 9 BA d,.box C 102 #[Z u j v,V o,V p,V t]] [.l u v j,.els d h]∧m_r03_names_L0 fu al h j o p t=some Y3) fu ⟨([z]:List BA),(ad b2),1,[[T z]],A.l,A.at_,A.line,A.e,⟨r,r,y⟩,(m.dp [1,0]),a⟩ ?_)
  clear m a
  rintro L f w ⟨h,b,c,d,j,o,p,t,hf,m,a⟩ K3 M
  obtain ⟨ak,rfl⟩:=has_updL _ _ hf
  clear hf
  cases L with
  | zero=>exact nn a
  | succ L=>
   rw [m_r03_names_L0] at a
   refine q (q (g (s (mp r) (s (xn r) (s (f102_3 r) (s (l37 r (m.bk 1 r) r) (s (xEqlD r r) (s (xMvB r) ?_))))))))
   rcases iv a with ⟨N,a⟩|⟨N,a⟩
   ·rw [decide_eq_true N]
    refine sGo r (s (mp r) ?_)
    obtain ⟨a1,h5,a⟩:=bs a
    refine sGo r ?_
    have hc:=(sp_r03_is fu) (m.pr [1] [0] [0] r)  h5
    refine sc (ec cal62 r) hc ?_
    rintro _ w5 ⟨rfl,E⟩
    replace m:=m.cl [1] [0] r E r
    try dsimp only [pick,nth,ca,na] at m
    refine s (xPkTB r r) (n ?_)
    rcases iv a with ⟨H,a⟩|⟨H,a⟩
    ·refine wIfT (cb H) (wk (wBk (q (g (s (mp r) ?_)))))
     obtain ⟨a2,h7,a⟩:=bs a
     have hc:=(sp_r03_take fu) (m.pr [0] [1] [1] r)  h7
     refine sc (ec cal64 r) hc ?_
     rintro _ w7 ⟨rfl,E⟩
     replace m:=m.cl [0] [1] r E r
     try dsimp only [pick,nth,ca,na] at m
     refine n (g (s (xMvS r) (s (mp r) ?_)))
     obtain ⟨⟨D,B⟩,h8,a⟩:=bs a
     replace a:=pi a
     have hc:=(sp_r03_name fu) (m.pr [0] [1] [0] r)  h8
     refine sc (ec cal63 r) hc ?_
     rintro _ w8 ⟨rfl,E⟩
     replace m:=m.cl [0] [1] r E r
     try dsimp only [pick,nth,ca,na] at m
     refine sTo (aRowB m [[T D]] ([D]:List BA) (bs70_1_a r) r r (by decide) ⟨r,y⟩) ?_
     rintro _ w9 ⟨b9,rfl,m⟩
     obtain ⟨Q,I,a⟩:=bs a
     refine sTo (aAppB m 2 5 r r u70_ ti9 r (by decide) (by decide) (Nat.le_refl _) r r (m.ysO 0 0 r r) I) ?_
     rintro _ a8 ⟨S,U,W,rfl,m⟩
     refine s (xAsS r) (n ?_)
     exact M L _ _ (Nat.lt_succ_self _) ⟨Q,S,U,W,B.l,B.at_,B.line,B.e,⟨r,r,y⟩,(m.ad [2,1] [1,5]),a⟩
    replace H:=nt H
    refine wIfF (cb H) (wEx ?_)
    exact F _ _ ⟨h,b,c,d,j,o,p,t,⟨r,y⟩,(m.ad [1,0] [1,2]),sm a⟩
   rw [decide_eq_false N]
   refine sNo r (sNo r (s (xPkFB r r) (n (wIfF r (wEx ?_)))))
   exact F _ _ ⟨h,b,c,d,j,o,p,t,⟨r,y⟩,m,sm a⟩
 clear m
 rintro f w ⟨h,b,c,d,j,o,p,t,hf,m,X⟩
 obtain ⟨ak,rfl⟩:=has_updL _ _ hf
 clear hf
 subst X
 replace x:=gi x
 replace x:=pi x
 replace x:=pi x
 replace x:=pi x
 replace x:=pi x
 refine q (g (s (xMvS r) (s (xAsS r) (n (wRt ?_)))))
 obtain rfl:=sm x
 refine resV1 r (rdT r) ?_
 exact pok (⟨b,c,d,r,(m.dp [1,0])⟩)
def Ct_r03_starts (m:GState→Option (Bool)):Prop:=∀ {f:World} {i:Nat→Prop} {c:GState} {d:Nat} {a:Option Addr} {b:Nat} {h:Bool},Pre f i [.box d 102 #[Z a c.l b,V c.at_,V c.line,V c.e]] [.l a b c.l]→m c=some h→
 Calls Try.prog 136 #[Pt d] f (Ret fun v w=>v=.bool h∧Bx f w i (Gof [.box d 102 #[Z a c.l b,V c.at_,V c.line,V c.e]]) [.box d 102 #[Z a c.l b,V c.at_,V c.line,V c.e]] [.l a b c.l])
def m_r03_starts (fu:Nat)(a:GState):Option (Bool):=
 (m_r03_kind fu a 0 1).bind fun b=>
 if b=true then
  some true
 else
  (m_r03_kind fu a 0 2).bind fun c=>
  if c=true then
   some true
  else
   (m_r03_is fu a 0 (⟨#[40]⟩:BA)).bind fun d=>
   if d=true then
    some true
   else
    (m_r03_is fu a 0 (⟨#[45]⟩:BA)).bind fun e=>
    if e=true then
     some true
    else
     (m_r03_is fu a 0 (⟨#[33]⟩:BA)).bind fun f=>
     some f
theorem sp_r03_starts (fu:Nat):Ct_r03_starts (m_r03_starts fu):=by
 intro E N o h d f F p a
 unfold m_r03_starts at a
 have b:=p.bx
 clear p
 generalize H:Gof _=G at b ⊢
 refine cf Try.func136 r ?_
 refine wCut [(0,Pt h)] ⟨r,y⟩ fun Q=>?_
 refine q (g (s (xAsB r) (n (q (g (s (mp r) ?_))))))
 obtain ⟨t,z,a⟩:=bs a
 have hc:=(sp_r03_kind fu) (b.pr [0] [] [0] r)  z
 refine sc (ec cal67 r) hc ?_
 rintro _ I ⟨rfl,c⟩
 replace b:=b.cl [0] [] r c r
 try dsimp only [pick,nth,ca,na] at b
 refine s (xMvB r) ?_
 rcases iv a with ⟨i,a⟩|⟨i,a⟩
 ·rw [i]
  refine sNo r (sNo r (s (xPkTB r r) (s (xMvB r) (sNo r (sNo r (s (xPkTB r r) (s (xMvB r) (sNo r (sNo r (s (xPkTB r r) (s (xMvB r) (sNo r (sNo r ?_)))))))))))))
  refine s (xPkTB r r) (s (xAsB r) (n (wRt ?_)))
  obtain rfl:=sm a
  refine resV1 r (rdT r) ?_
  exact ⟨r,(b.dp [1])⟩
 replace i:=nt i
 rw [i]
 refine sGo r (s (mp r) ?_)
 obtain ⟨u,A,a⟩:=bs a
 refine sGo r ?_
 have hc:=(sp_r03_kind fu) (b.pr [0] [] [1] r)  A
 refine sc (ec cal67 r) hc ?_
 rintro _ J ⟨rfl,c⟩
 replace b:=b.cl [0] [] r c r
 try dsimp only [pick,nth,ca,na] at b
 refine s (xPkFB r r) (s (xMvB r) ?_)
 rcases iv a with ⟨j,a⟩|⟨j,a⟩
 ·rw [j]
  refine sNo r (sNo r (s (xPkTB r r) (s (xMvB r) (sNo r (sNo r (s (xPkTB r r) (s (xMvB r) (sNo r (sNo r (s (xPkTB r r) (s (xAsB r) (n (wRt ?_)))))))))))))
  obtain rfl:=sm a
  refine resV1 r (rdT r) ?_
  exact ⟨r,(b.dp [2])⟩
 replace j:=nt j
 rw [j]
 refine sGo r (s (mp r) ?_)
 obtain ⟨v,B,a⟩:=bs a
 refine sGo r ?_
 have hc:=(sp_r03_is fu) (b.pr [0] [] [2] r)  B
 refine sc (ec cal62 r) hc ?_
 rintro _ K ⟨rfl,c⟩
 replace b:=b.cl [0] [] r c r
 try dsimp only [pick,nth,ca,na] at b
 refine s (xPkFB r r) (s (xMvB r) ?_)
 rcases iv a with ⟨k,a⟩|⟨k,a⟩
 ·rw [k]
  refine sNo r (sNo r (s (xPkTB r r) (s (xMvB r) (sNo r (sNo r (s (xPkTB r r) (s (xAsB r) (n (wRt ?_)))))))))
  obtain rfl:=sm a
  refine resV1 r (rdT r) ?_
  exact ⟨r,(b.dp [3])⟩
 replace k:=nt k
 rw [k]
 refine sGo r (s (mp r) ?_)
 obtain ⟨w,C,a⟩:=bs a
 refine sGo r ?_
 have hc:=(sp_r03_is fu) (b.pr [0] [] [3] r)  C
 refine sc (ec cal62 r) hc ?_
 rintro _ L ⟨rfl,c⟩
 replace b:=b.cl [0] [] r c r
 try dsimp only [pick,nth,ca,na] at b
 refine s (xPkFB r r) (s (xMvB r) ?_)
 rcases iv a with ⟨m,a⟩|⟨m,a⟩
 ·rw [m]
  refine sNo r (sNo r (s (xPkTB r r) (s (xAsB r) (n (wRt ?_)))))
  obtain rfl:=sm a
  refine resV1 r (rdT r) ?_
  exact ⟨r,(b.dp [4])⟩
 replace m:=nt m
 rw [m]
 refine sGo r (s (mp r) ?_)
 obtain ⟨x,D,a⟩:=bs a
 refine sGo r ?_
 have hc:=(sp_r03_is fu) (b.pr [0] [] [4] r)  D
 refine sc (ec cal62 r) hc ?_
 rintro _ M ⟨rfl,c⟩
 replace b:=b.cl [0] [] r c r
 try dsimp only [pick,nth,ca,na] at b
 refine s (xPkFB r r) (s (xAsB r) (n (wRt ?_)))
 obtain rfl:=sm a
 refine resV1 r (rdT r) ?_
 exact ⟨r,(b.dp [5])⟩
def Ct_r03_level (m:GState→Option (Int × Int)):Prop:=∀ {f:World} {j:Nat→Prop} {c:GState} {d:Nat} {a:Option Addr} {b:Nat} {R:Int × Int},Pre f j [.box d 102 #[Z a c.l b,V c.at_,V c.line,V c.e]] [.l a b c.l]→m c=some R→
 Calls Try.prog 125 #[Pt d] f (Ret fun v w=>pel R fun h i=>v=.tuple #[V h,V i]∧Bx f w j (Gof [.box d 102 #[Z a c.l b,V c.at_,V c.line,V c.e]]) [.box d 102 #[Z a c.l b,V c.at_,V c.line,V c.e]] [.l a b c.l])
def m_r03_level_L0 (fu:Nat)(c:GState):List BA→Nat→Option (Ld (Unit) (Int × Int))
 | [],_=>some (.go ())
 | d :: e,b=>
 (m_r03_is fu c 0 d).bind fun a=>
 if a=true then
  (ix ([3,3,4,4,4,2,2,2,1,1,1,1]:List Int) (b:Int)).bind fun f=>
  some (.out (f,(wr (6+(b:Int)))))
 else
  m_r03_level_L0 fu c e (b+1)
def m_r03_level (fu:Nat)(a:GState):Option (Int × Int):=
 (m_r03_level_L0 fu a ([(⟨#[43]⟩:BA),(⟨#[45]⟩:BA),(⟨#[42]⟩:BA),(⟨#[47]⟩:BA),(⟨#[37]⟩:BA),(⟨#[38]⟩:BA),(⟨#[124]⟩:BA),(⟨#[94]⟩:BA),(⟨#[60]⟩:BA),(⟨#[60,61]⟩:BA),(⟨#[61,61]⟩:BA),(⟨#[33,61]⟩:BA)]:List BA) 0).bind fun b=>b.el (fun _=>
 some (0,0)
 ) (fun o=>some o)
theorem sp_r03_level (fu:Nat):Ct_r03_level (m_r03_level fu):=by
 intro t a1 i j b c R E m
 unfold m_r03_level at m
 have d:=E.bx
 clear E
 generalize Q:Gof _=G at d ⊢
 refine cf Try.func125 r ?_
 refine wCut [(0,Pt j)] ⟨r,y⟩ fun a2=>?_
 refine q (g (s (xi r) (s (xi r) (n (q (g (sTo (aRowB d [[T (⟨#[43]⟩:BA)],[T (⟨#[45]⟩:BA)],[T (⟨#[42]⟩:BA)],[T (⟨#[47]⟩:BA)],[T (⟨#[37]⟩:BA)],[T (⟨#[38]⟩:BA)],[T (⟨#[124]⟩:BA)],[T (⟨#[94]⟩:BA)],[T (⟨#[60]⟩:BA)],[T (⟨#[60,61]⟩:BA)],[T (⟨#[61,61]⟩:BA)],[T (⟨#[33,61]⟩:BA)]] ([(⟨#[43]⟩:BA),(⟨#[45]⟩:BA),(⟨#[42]⟩:BA),(⟨#[47]⟩:BA),(⟨#[37]⟩:BA),(⟨#[38]⟩:BA),(⟨#[124]⟩:BA),(⟨#[94]⟩:BA),(⟨#[60]⟩:BA),(⟨#[60,61]⟩:BA),(⟨#[61,61]⟩:BA),(⟨#[33,61]⟩:BA)]:List BA) (bs70_12_a r r r r r r r r r r r r) r r (by decide) ⟨r,⟨r,⟨r,⟨r,⟨r,⟨r,⟨r,⟨r,⟨r,⟨r,⟨r,⟨r,y⟩⟩⟩⟩⟩⟩⟩⟩⟩⟩⟩⟩) ?_)))))))
 rintro _ S ⟨x,rfl,d⟩
 refine s (xAsS r) (n (q (g (sTo (aRowB d [[V 3],[V 3],[V 4],[V 4],[V 4],[V 2],[V 2],[V 2],[V 1],[V 1],[V 1],[V 1]] ([3,3,4,4,4,2,2,2,1,1,1,1]:List Int) (bs22_12_a r r r r r r r r r r r r) r r (by decide) ⟨r,⟨r,⟨r,⟨r,⟨r,⟨r,⟨r,⟨r,⟨r,⟨r,⟨r,⟨r,y⟩⟩⟩⟩⟩⟩⟩⟩⟩⟩⟩⟩) ?_))))
 rintro _ U ⟨z,rfl,d⟩
 refine s (xAsS r) (n (q (q (g (s (xMvS r) (s (xLnR u70_ r) (s (mi r) (n ?_))))))))
 have I:=(d.vw 1 1 r r).bd
 obtain ⟨F,a,m⟩:=bs m
 refine wJd (fun f w=>Has f []∧Bx t w a1 G [O t.heap.size (ad z) 12 3 Int [[V 3],[V 3],[V 4],[V 4],[V 4],[V 2],[V 2],[V 2],[V 1],[V 1],[V 1],[V 1]],O t.heap.size (ad x) 12 9 BA [[T (⟨#[43]⟩:BA)],[T (⟨#[45]⟩:BA)],[T (⟨#[42]⟩:BA)],[T (⟨#[47]⟩:BA)],[T (⟨#[37]⟩:BA)],[T (⟨#[38]⟩:BA)],[T (⟨#[124]⟩:BA)],[T (⟨#[94]⟩:BA)],[T (⟨#[60]⟩:BA)],[T (⟨#[60,61]⟩:BA)],[T (⟨#[61,61]⟩:BA)],[T (⟨#[33,61]⟩:BA)]],.box j 102 #[Z b i.l c,V i.at_,V i.line,V i.e]] [.els [[V 3],[V 3],[V 4],[V 4],[V 4],[V 2],[V 2],[V 2],[V 1],[V 1],[V 1],[V 1]] ([3,3,4,4,4,2,2,2,1,1,1,1]:List Int),.els [[T (⟨#[43]⟩:BA)],[T (⟨#[45]⟩:BA)],[T (⟨#[42]⟩:BA)],[T (⟨#[47]⟩:BA)],[T (⟨#[37]⟩:BA)],[T (⟨#[38]⟩:BA)],[T (⟨#[124]⟩:BA)],[T (⟨#[94]⟩:BA)],[T (⟨#[60]⟩:BA)],[T (⟨#[60,61]⟩:BA)],[T (⟨#[61,61]⟩:BA)],[T (⟨#[33,61]⟩:BA)]] ([(⟨#[43]⟩:BA),(⟨#[45]⟩:BA),(⟨#[42]⟩:BA),(⟨#[47]⟩:BA),(⟨#[37]⟩:BA),(⟨#[38]⟩:BA),(⟨#[124]⟩:BA),(⟨#[94]⟩:BA),(⟨#[60]⟩:BA),(⟨#[60,61]⟩:BA),(⟨#[61,61]⟩:BA),(⟨#[33,61]⟩:BA)]:List BA),.l b c i.l]∧Ld.go ()=F) (fun W A=>?_) ?_
 ·refine wBk (wLoopGd (fun a3 f w=>∃ (k:Nat),a3=([(⟨#[43]⟩:BA),(⟨#[45]⟩:BA),(⟨#[42]⟩:BA),(⟨#[47]⟩:BA),(⟨#[37]⟩:BA),(⟨#[38]⟩:BA),(⟨#[124]⟩:BA),(⟨#[94]⟩:BA),(⟨#[60]⟩:BA),(⟨#[60,61]⟩:BA),(⟨#[61,61]⟩:BA),(⟨#[33,61]⟩:BA)]:List BA).length - k∧k≤([(⟨#[43]⟩:BA),(⟨#[45]⟩:BA),(⟨#[42]⟩:BA),(⟨#[47]⟩:BA),(⟨#[37]⟩:BA),(⟨#[38]⟩:BA),(⟨#[124]⟩:BA),(⟨#[94]⟩:BA),(⟨#[60]⟩:BA),(⟨#[60,61]⟩:BA),(⟨#[61,61]⟩:BA),(⟨#[33,61]⟩:BA)]:List BA).length∧Has f [(12,V (k:Int)),(0,Pt j),(5,.slice (ad z) ([3,3,4,4,4,2,2,2,1,1,1,1]:List Int).length 12),(10,.slice (ad x) ([(⟨#[43]⟩:BA),(⟨#[45]⟩:BA),(⟨#[42]⟩:BA),(⟨#[47]⟩:BA),(⟨#[37]⟩:BA),(⟨#[38]⟩:BA),(⟨#[124]⟩:BA),(⟨#[94]⟩:BA),(⟨#[60]⟩:BA),(⟨#[60,61]⟩:BA),(⟨#[61,61]⟩:BA),(⟨#[33,61]⟩:BA)]:List BA).length 12),(11,V ((([(⟨#[43]⟩:BA),(⟨#[45]⟩:BA),(⟨#[42]⟩:BA),(⟨#[47]⟩:BA),(⟨#[37]⟩:BA),(⟨#[38]⟩:BA),(⟨#[124]⟩:BA),(⟨#[94]⟩:BA),(⟨#[60]⟩:BA),(⟨#[60,61]⟩:BA),(⟨#[61,61]⟩:BA),(⟨#[33,61]⟩:BA)]:List BA).length:Nat):Int))]∧Bx t w a1 G [O t.heap.size (ad z) 12 3 Int [[V 3],[V 3],[V 4],[V 4],[V 4],[V 2],[V 2],[V 2],[V 1],[V 1],[V 1],[V 1]],O t.heap.size (ad x) 12 9 BA [[T (⟨#[43]⟩:BA)],[T (⟨#[45]⟩:BA)],[T (⟨#[42]⟩:BA)],[T (⟨#[47]⟩:BA)],[T (⟨#[37]⟩:BA)],[T (⟨#[38]⟩:BA)],[T (⟨#[124]⟩:BA)],[T (⟨#[94]⟩:BA)],[T (⟨#[60]⟩:BA)],[T (⟨#[60,61]⟩:BA)],[T (⟨#[61,61]⟩:BA)],[T (⟨#[33,61]⟩:BA)]],.box j 102 #[Z b i.l c,V i.at_,V i.line,V i.e]] [.els [[V 3],[V 3],[V 4],[V 4],[V 4],[V 2],[V 2],[V 2],[V 1],[V 1],[V 1],[V 1]] ([3,3,4,4,4,2,2,2,1,1,1,1]:List Int),.els [[T (⟨#[43]⟩:BA)],[T (⟨#[45]⟩:BA)],[T (⟨#[42]⟩:BA)],[T (⟨#[47]⟩:BA)],[T (⟨#[37]⟩:BA)],[T (⟨#[38]⟩:BA)],[T (⟨#[124]⟩:BA)],[T (⟨#[94]⟩:BA)],[T (⟨#[60]⟩:BA)],[T (⟨#[60,61]⟩:BA)],[T (⟨#[61,61]⟩:BA)],[T (⟨#[33,61]⟩:BA)]] ([(⟨#[43]⟩:BA),(⟨#[45]⟩:BA),(⟨#[42]⟩:BA),(⟨#[47]⟩:BA),(⟨#[37]⟩:BA),(⟨#[38]⟩:BA),(⟨#[124]⟩:BA),(⟨#[94]⟩:BA),(⟨#[60]⟩:BA),(⟨#[60,61]⟩:BA),(⟨#[61,61]⟩:BA),(⟨#[33,61]⟩:BA)]:List BA),.l b c i.l]∧m_r03_level_L0 fu i (([(⟨#[43]⟩:BA),(⟨#[45]⟩:BA),(⟨#[42]⟩:BA),(⟨#[47]⟩:BA),(⟨#[37]⟩:BA),(⟨#[38]⟩:BA),(⟨#[124]⟩:BA),(⟨#[94]⟩:BA),(⟨#[60]⟩:BA),(⟨#[60,61]⟩:BA),(⟨#[61,61]⟩:BA),(⟨#[33,61]⟩:BA)]:List BA).drop k) k=some F) (([(⟨#[43]⟩:BA),(⟨#[45]⟩:BA),(⟨#[42]⟩:BA),(⟨#[47]⟩:BA),(⟨#[37]⟩:BA),(⟨#[38]⟩:BA),(⟨#[124]⟩:BA),(⟨#[94]⟩:BA),(⟨#[60]⟩:BA),(⟨#[60,61]⟩:BA),(⟨#[61,61]⟩:BA),(⟨#[33,61]⟩:BA)]:List BA).length) ⟨0,r,Nat.zero_le _,⟨r,r,r,r,r,y⟩,d,a⟩ ?_)
  clear d a
  rintro a3 f w ⟨k,rfl,J,hf,d,a⟩ X B
  obtain ⟨a2,rfl⟩:=has_updL _ _ hf
  clear hf
  rcases Nat.lt_or_ge k ([(⟨#[43]⟩:BA),(⟨#[45]⟩:BA),(⟨#[42]⟩:BA),(⟨#[47]⟩:BA),(⟨#[37]⟩:BA),(⟨#[38]⟩:BA),(⟨#[124]⟩:BA),(⟨#[94]⟩:BA),(⟨#[60]⟩:BA),(⟨#[60,61]⟩:BA),(⟨#[61,61]⟩:BA),(⟨#[33,61]⟩:BA)]:List BA).length with u | u
  ·obtain ⟨K,p⟩:=get_ex (l:=([(⟨#[43]⟩:BA),(⟨#[45]⟩:BA),(⟨#[42]⟩:BA),(⟨#[47]⟩:BA),(⟨#[37]⟩:BA),(⟨#[38]⟩:BA),(⟨#[124]⟩:BA),(⟨#[94]⟩:BA),(⟨#[60]⟩:BA),(⟨#[60,61]⟩:BA),(⟨#[61,61]⟩:BA),(⟨#[33,61]⟩:BA)]:List BA)) u
   rw [drop_id p,m_r03_level_L0] at a
   refine q (g (s (xLssT r r (by omega)) (n (q (wIfT r (wk (q (wBk (q (g (s (mi r) (s (xIdR u70_ ti9 r r r (d.vw 1 1 r r) p) (s (xLoad u9_ r r ((elF (ds:=[T K]) (d.vw 1 1 r r) p (fun _ h=>h)) 0 _ r)) ?_)))))))))))))
   refine s (xi r) (s (xAsT r) (n (q (g (s (mp r) (s (xMvT r) ?_))))))
   obtain ⟨H,L,a⟩:=bs a
   have hc:=(sp_r03_is fu) (d.pr [2] [0,1] [2] r)  L
   refine sc (ec cal62 r) hc ?_
   rintro _ Y ⟨rfl,M⟩
   replace d:=d.cl [2] [0,1] r M r
   try dsimp only [pick,nth,ca,na] at d
   refine n ?_
   rcases iv a with ⟨v,a⟩|⟨v,a⟩
   ·refine wIfT (cb v) (q (g (s (xMvS r) (s (mi r) ?_))))
    obtain ⟨N,o,a⟩:=bs a
    obtain ⟨k6,C,o⟩:=ix_inv o
    refine s (xIdR u22_ ti3 r r C (d.vw 1 1 r r) o) (s (xLoad u3_ r r ((elF (ds:=[V N]) (d.vw 1 1 r r) o (fun _ h=>h)) 0 _ r)) (s (mi r) (s (xAddW r r) (s (xi r) (s (xi r) (n (wRt ?_)))))))
    obtain rfl:=sm a
    replace m:=oi m
    obtain rfl:=sm m
    refine resV2 r (rdT r) (rdT r) ?_
    exact pok (⟨r,(d.ad [0] [3])⟩)
   replace v:=nt v
   refine wIfF (cb v) (wk (g (s (xAdd64 r r (by omega) (by omega)) (s (mi r) (n ?_)))))
   exact B (([(⟨#[43]⟩:BA),(⟨#[45]⟩:BA),(⟨#[42]⟩:BA),(⟨#[47]⟩:BA),(⟨#[37]⟩:BA),(⟨#[38]⟩:BA),(⟨#[124]⟩:BA),(⟨#[94]⟩:BA),(⟨#[60]⟩:BA),(⟨#[60,61]⟩:BA),(⟨#[61,61]⟩:BA),(⟨#[33,61]⟩:BA)]:List BA).length - (k+1)) _ _ (by omega) ⟨k+1,r,by omega,⟨r,r,r,r,r,y⟩,(d.ad [1,2,0] [1,2,3]),a⟩
  obtain rfl:k=([(⟨#[43]⟩:BA),(⟨#[45]⟩:BA),(⟨#[42]⟩:BA),(⟨#[47]⟩:BA),(⟨#[37]⟩:BA),(⟨#[38]⟩:BA),(⟨#[124]⟩:BA),(⟨#[94]⟩:BA),(⟨#[60]⟩:BA),(⟨#[60,61]⟩:BA),(⟨#[61,61]⟩:BA),(⟨#[33,61]⟩:BA)]:List BA).length:=by omega
  rw [drop_end,m_r03_level_L0] at a
  refine q (g (s (xLssF r r (by omega)) (n (q (wIfF r (wEx ?_))))))
  exact A _ _ ⟨y,d,sm a⟩
 clear d
 rintro f w ⟨hf,d,D⟩
 obtain ⟨a2,rfl⟩:=has_updL _ _ hf
 clear hf
 subst D
 replace m:=gi m
 refine q (g (s (xi r) (s (xi r) (n (wRt ?_)))))
 obtain rfl:=sm m
 refine resV2 r (rdT r) (rdT r) ?_
 exact pok (⟨r,(d.ad [2] [2])⟩)
def Ct_r03_call (m:GState→Option (Bool)):Prop:=∀ {f:World} {i:Nat→Prop} {c:GState} {d:Nat} {a:Option Addr} {b:Nat} {h:Bool},Pre f i [.box d 102 #[Z a c.l b,V c.at_,V c.line,V c.e]] [.l a b c.l]→m c=some h→
 Calls Try.prog 126 #[Pt d] f (Ret fun v w=>v=.bool h∧Bx f w i (Gof [.box d 102 #[Z a c.l b,V c.at_,V c.line,V c.e]]) [.box d 102 #[Z a c.l b,V c.at_,V c.line,V c.e]] [.l a b c.l])
def m_r03_call (fu:Nat)(c:GState):Option (Bool):=
 (m_r03_kind fu c 0 1).bind fun a=>
 if a=true then
  (m_r03_is fu c 1 (⟨#[40]⟩:BA)).bind fun b=>
  some b
 else
  some false
theorem sp_r03_call (fu:Nat):Ct_r03_call (m_r03_call fu):=by
 intro u A i f c d v k b
 unfold m_r03_call at b
 have a:=k.bx
 clear k
 generalize w:Gof _=G at a ⊢
 refine cf Try.func126 r ?_
 refine wCut [(0,Pt f)] ⟨r,y⟩ fun B=>?_
 refine q (g (s (xAsB r) (n (q (g (s (mp r) ?_))))))
 obtain ⟨m,p,b⟩:=bs b
 have hc:=(sp_r03_kind fu) (a.pr [0] [] [0] r)  p
 refine sc (ec cal67 r) hc ?_
 rintro _ x ⟨rfl,j⟩
 replace a:=a.cl [0] [] r j r
 try dsimp only [pick,nth,ca,na] at a
 refine s (xMvB r) ?_
 rcases iv b with ⟨h,b⟩|⟨h,b⟩
 ·rw [h]
  refine sGo r (s (mp r) ?_)
  obtain ⟨o,t,b⟩:=bs b
  refine sGo r ?_
  have hc:=(sp_r03_is fu) (a.pr [0] [] [1] r)  t
  refine sc (ec cal62 r) hc ?_
  rintro _ z ⟨rfl,j⟩
  replace a:=a.cl [0] [] r j r
  try dsimp only [pick,nth,ca,na] at a
  refine s (xPkTB r r) (s (xAsB r) (n (wRt ?_)))
  obtain rfl:=sm b
  refine resV1 r (rdT r) ?_
  exact ⟨r,(a.dp [2])⟩
 replace h:=nt h
 rw [h]
 refine sNo r (sNo r (s (xPkFB r r) (s (xAsB r) (n (wRt ?_)))))
 obtain rfl:=sm b
 refine resV1 r (rdT r) ?_
 exact ⟨r,(a.dp [1])⟩
def Ct_r03_begins (m:GState→Option (Bool)):Prop:=∀ {f:World} {i:Nat→Prop} {c:GState} {d:Nat} {a:Option Addr} {b:Nat} {h:Bool},Pre f i [.box d 102 #[Z a c.l b,V c.at_,V c.line,V c.e]] [.l a b c.l]→m c=some h→
 Calls Try.prog 93 #[Pt d] f (Ret fun v w=>v=.bool h∧Bx f w i (Gof [.box d 102 #[Z a c.l b,V c.at_,V c.line,V c.e]]) [.box d 102 #[Z a c.l b,V c.at_,V c.line,V c.e]] [.l a b c.l])
def m_r03_begins_L0 (fu:Nat)(b:GState):List BA→Nat→Option (Ld (Unit) (Bool))
 | [],_=>some (.go ())
 | c :: d,e=>
 (m_r03_is fu b 0 c).bind fun a=>
 if a=true then
  some (.out true)
 else
  m_r03_begins_L0 fu b d (e+1)
def m_r03_begins (fu:Nat)(b:GState):Option (Bool):=
 (m_r03_begins_L0 fu b ([(⟨#[118,97,114]⟩:BA),(⟨#[105,102]⟩:BA),(⟨#[119,104,105,108,101]⟩:BA),(⟨#[114,101,116,117,114,110]⟩:BA),(⟨#[116,104,114,111,119]⟩:BA),(⟨#[116,114,121]⟩:BA),(⟨#[112,114,105,110,116]⟩:BA)]:List BA) 0).bind fun c=>c.el (fun _=>
 (m_r03_kind fu b 0 1).bind fun a=>
 some a
 ) (fun o=>some o)
theorem sp_r03_begins (fu:Nat):Ct_r03_begins (m_r03_begins fu):=by
 intro u X i j b c M C k
 unfold m_r03_begins at k
 have d:=C.bx
 clear C
 generalize N:Gof _=G at d ⊢
 refine cf Try.func93 r ?_
 refine wCut [(0,Pt j)] ⟨r,y⟩ fun Y=>?_
 refine q (g (s (xAsB r) (n (q (q (g (sTo (aRowB d [[T (⟨#[118,97,114]⟩:BA)],[T (⟨#[105,102]⟩:BA)],[T (⟨#[119,104,105,108,101]⟩:BA)],[T (⟨#[114,101,116,117,114,110]⟩:BA)],[T (⟨#[116,104,114,111,119]⟩:BA)],[T (⟨#[116,114,121]⟩:BA)],[T (⟨#[112,114,105,110,116]⟩:BA)]] ([(⟨#[118,97,114]⟩:BA),(⟨#[105,102]⟩:BA),(⟨#[119,104,105,108,101]⟩:BA),(⟨#[114,101,116,117,114,110]⟩:BA),(⟨#[116,104,114,111,119]⟩:BA),(⟨#[116,114,121]⟩:BA),(⟨#[112,114,105,110,116]⟩:BA)]:List BA) (bs70_7_a r r r r r r r) r r (by decide) ⟨r,⟨r,⟨r,⟨r,⟨r,⟨r,⟨r,y⟩⟩⟩⟩⟩⟩⟩) ?_)))))))
 rintro _ Q ⟨v,rfl,d⟩
 refine s (xLnR u70_ r) (s (mi r) (n ?_))
 have H:=(d.vw 0 0 r r).bd
 obtain ⟨D,a,k⟩:=bs k
 refine wJd (fun f w=>Has f [(0,Pt j)]∧Bx u w X G [O u.heap.size (ad v) 7 9 BA [[T (⟨#[118,97,114]⟩:BA)],[T (⟨#[105,102]⟩:BA)],[T (⟨#[119,104,105,108,101]⟩:BA)],[T (⟨#[114,101,116,117,114,110]⟩:BA)],[T (⟨#[116,104,114,111,119]⟩:BA)],[T (⟨#[116,114,121]⟩:BA)],[T (⟨#[112,114,105,110,116]⟩:BA)]],.box j 102 #[Z b i.l c,V i.at_,V i.line,V i.e]] [.els [[T (⟨#[118,97,114]⟩:BA)],[T (⟨#[105,102]⟩:BA)],[T (⟨#[119,104,105,108,101]⟩:BA)],[T (⟨#[114,101,116,117,114,110]⟩:BA)],[T (⟨#[116,104,114,111,119]⟩:BA)],[T (⟨#[116,114,121]⟩:BA)],[T (⟨#[112,114,105,110,116]⟩:BA)]] ([(⟨#[118,97,114]⟩:BA),(⟨#[105,102]⟩:BA),(⟨#[119,104,105,108,101]⟩:BA),(⟨#[114,101,116,117,114,110]⟩:BA),(⟨#[116,104,114,111,119]⟩:BA),(⟨#[116,114,121]⟩:BA),(⟨#[112,114,105,110,116]⟩:BA)]:List BA),.l b c i.l]∧Ld.go ()=D) (fun R x=>?_) ?_
 ·refine wBk (wLoopGd (fun a0 f w=>∃ (m:Nat),a0=([(⟨#[118,97,114]⟩:BA),(⟨#[105,102]⟩:BA),(⟨#[119,104,105,108,101]⟩:BA),(⟨#[114,101,116,117,114,110]⟩:BA),(⟨#[116,104,114,111,119]⟩:BA),(⟨#[116,114,121]⟩:BA),(⟨#[112,114,105,110,116]⟩:BA)]:List BA).length - m∧m≤([(⟨#[118,97,114]⟩:BA),(⟨#[105,102]⟩:BA),(⟨#[119,104,105,108,101]⟩:BA),(⟨#[114,101,116,117,114,110]⟩:BA),(⟨#[116,104,114,111,119]⟩:BA),(⟨#[116,114,121]⟩:BA),(⟨#[112,114,105,110,116]⟩:BA)]:List BA).length∧Has f [(7,V (m:Int)),(0,Pt j),(5,.slice (ad v) ([(⟨#[118,97,114]⟩:BA),(⟨#[105,102]⟩:BA),(⟨#[119,104,105,108,101]⟩:BA),(⟨#[114,101,116,117,114,110]⟩:BA),(⟨#[116,104,114,111,119]⟩:BA),(⟨#[116,114,121]⟩:BA),(⟨#[112,114,105,110,116]⟩:BA)]:List BA).length 7),(6,V ((([(⟨#[118,97,114]⟩:BA),(⟨#[105,102]⟩:BA),(⟨#[119,104,105,108,101]⟩:BA),(⟨#[114,101,116,117,114,110]⟩:BA),(⟨#[116,104,114,111,119]⟩:BA),(⟨#[116,114,121]⟩:BA),(⟨#[112,114,105,110,116]⟩:BA)]:List BA).length:Nat):Int))]∧Bx u w X G [O u.heap.size (ad v) 7 9 BA [[T (⟨#[118,97,114]⟩:BA)],[T (⟨#[105,102]⟩:BA)],[T (⟨#[119,104,105,108,101]⟩:BA)],[T (⟨#[114,101,116,117,114,110]⟩:BA)],[T (⟨#[116,104,114,111,119]⟩:BA)],[T (⟨#[116,114,121]⟩:BA)],[T (⟨#[112,114,105,110,116]⟩:BA)]],.box j 102 #[Z b i.l c,V i.at_,V i.line,V i.e]] [.els [[T (⟨#[118,97,114]⟩:BA)],[T (⟨#[105,102]⟩:BA)],[T (⟨#[119,104,105,108,101]⟩:BA)],[T (⟨#[114,101,116,117,114,110]⟩:BA)],[T (⟨#[116,104,114,111,119]⟩:BA)],[T (⟨#[116,114,121]⟩:BA)],[T (⟨#[112,114,105,110,116]⟩:BA)]] ([(⟨#[118,97,114]⟩:BA),(⟨#[105,102]⟩:BA),(⟨#[119,104,105,108,101]⟩:BA),(⟨#[114,101,116,117,114,110]⟩:BA),(⟨#[116,104,114,111,119]⟩:BA),(⟨#[116,114,121]⟩:BA),(⟨#[112,114,105,110,116]⟩:BA)]:List BA),.l b c i.l]∧m_r03_begins_L0 fu i (([(⟨#[118,97,114]⟩:BA),(⟨#[105,102]⟩:BA),(⟨#[119,104,105,108,101]⟩:BA),(⟨#[114,101,116,117,114,110]⟩:BA),(⟨#[116,104,114,111,119]⟩:BA),(⟨#[116,114,121]⟩:BA),(⟨#[112,114,105,110,116]⟩:BA)]:List BA).drop m) m=some D) (([(⟨#[118,97,114]⟩:BA),(⟨#[105,102]⟩:BA),(⟨#[119,104,105,108,101]⟩:BA),(⟨#[114,101,116,117,114,110]⟩:BA),(⟨#[116,104,114,111,119]⟩:BA),(⟨#[116,114,121]⟩:BA),(⟨#[112,114,105,110,116]⟩:BA)]:List BA).length) ⟨0,r,Nat.zero_le _,⟨r,r,r,r,y⟩,d,a⟩ ?_)
  clear d a
  rintro a0 f w ⟨m,rfl,I,hf,d,a⟩ S z
  obtain ⟨Y,rfl⟩:=has_updL _ _ hf
  clear hf
  rcases Nat.lt_or_ge m ([(⟨#[118,97,114]⟩:BA),(⟨#[105,102]⟩:BA),(⟨#[119,104,105,108,101]⟩:BA),(⟨#[114,101,116,117,114,110]⟩:BA),(⟨#[116,104,114,111,119]⟩:BA),(⟨#[116,114,121]⟩:BA),(⟨#[112,114,105,110,116]⟩:BA)]:List BA).length with p | p
  ·obtain ⟨J,o⟩:=get_ex (l:=([(⟨#[118,97,114]⟩:BA),(⟨#[105,102]⟩:BA),(⟨#[119,104,105,108,101]⟩:BA),(⟨#[114,101,116,117,114,110]⟩:BA),(⟨#[116,104,114,111,119]⟩:BA),(⟨#[116,114,121]⟩:BA),(⟨#[112,114,105,110,116]⟩:BA)]:List BA)) p
   rw [drop_id o,m_r03_begins_L0] at a
   refine q (g (s (xLssT r r (by omega)) (n (q (wIfT r (wk (q (wBk (q (g (s (xIdR u70_ ti9 r r r (d.vw 0 0 r r) o) (s (xLoad u9_ r r ((elF (ds:=[T J]) (d.vw 0 0 r r) o (fun _ h=>h)) 0 _ r)) (s (xAsT r) ?_)))))))))))))
   refine n (q (g (s (mp r) (s (xMvT r) ?_))))
   obtain ⟨E,K,a⟩:=bs a
   have hc:=(sp_r03_is fu) (d.pr [1] [0] [1] r)  K
   refine sc (ec cal62 r) hc ?_
   rintro _ U ⟨rfl,A⟩
   replace d:=d.cl [1] [0] r A r
   try dsimp only [pick,nth,ca,na] at d
   refine n ?_
   rcases iv a with ⟨t,a⟩|⟨t,a⟩
   ·refine wIfT (cb t) (q (g (s (xAsB r) (n (wRt ?_)))))
    obtain rfl:=sm a
    replace k:=oi k
    obtain rfl:=sm k
    refine resV1 r (rdT r) ?_
    exact ⟨r,(d.ad [0] [2])⟩
   replace t:=nt t
   refine wIfF (cb t) (wk (g (s (xAdd64 r r (by omega) (by omega)) (s (mi r) (n ?_)))))
   exact z (([(⟨#[118,97,114]⟩:BA),(⟨#[105,102]⟩:BA),(⟨#[119,104,105,108,101]⟩:BA),(⟨#[114,101,116,117,114,110]⟩:BA),(⟨#[116,104,114,111,119]⟩:BA),(⟨#[116,114,121]⟩:BA),(⟨#[112,114,105,110,116]⟩:BA)]:List BA).length - (m+1)) _ _ (by omega) ⟨m+1,r,by omega,⟨r,r,r,r,y⟩,(d.ad [1,0] [1,2]),a⟩
  obtain rfl:m=([(⟨#[118,97,114]⟩:BA),(⟨#[105,102]⟩:BA),(⟨#[119,104,105,108,101]⟩:BA),(⟨#[114,101,116,117,114,110]⟩:BA),(⟨#[116,104,114,111,119]⟩:BA),(⟨#[116,114,121]⟩:BA),(⟨#[112,114,105,110,116]⟩:BA)]:List BA).length:=by omega
  rw [drop_end,m_r03_begins_L0] at a
  refine q (g (s (xLssF r r (by omega)) (n (q (wIfF r (wEx ?_))))))
  exact x _ _ ⟨⟨r,y⟩,d,sm a⟩
 clear d
 rintro f w ⟨hf,d,B⟩
 obtain ⟨Y,rfl⟩:=has_updL _ _ hf
 clear hf
 subst B
 replace k:=gi k
 refine q (g (s (mp r) ?_))
 obtain ⟨F,L,k⟩:=bs k
 have hc:=(sp_r03_kind fu) (d.pr [1] [0] [1] r)  L
 refine sc (ec cal67 r) hc ?_
 rintro _ W ⟨rfl,A⟩
 replace d:=d.cl [1] [0] r A r
 try dsimp only [pick,nth,ca,na] at d
 refine s (xAsB r) (n (wRt ?_))
 obtain rfl:=sm k
 refine resV1 r (rdT r) ?_
 exact ⟨r,(d.ad [0] [2])⟩
abbrev T_r03_expression:=GState→Int→Int→Option (GExpr × GState)
abbrev T_r03_unary:=GState→Int→Option (GExpr × GState)
abbrev T_r03_target:=GState→Int→Option (GExpr × GState)
def Ct_r03_expression (m:GState→Int→Int→Option (Ge × GState)):Prop:=∀ {k:World} {t:Nat→Prop} {h:GState} {o:Int} {p:Int} {i:Nat} {a:Option Addr} {b:Nat} {R:Ge × GState},Pre k t [.box i 102 #[Z a h.l b,V h.at_,V h.line,V h.e]] [.l a b h.l]→m h o p=some R→
 Calls Try.prog 112 #[Pt i,V o,V p] k (Ret fun v w=>pel R fun j c=>∃ (d:OA)(f:Nat),v=.agg #[V j.Op,V j.Number,V j.Var,T j.Name,T j.Field,Z d j.Args f]∧Bx k w t (Gof [.box i 102 #[Z a h.l b,V h.at_,V h.line,V h.e]]) [.box i 102 #[Z a c.l b,V c.at_,V c.line,V c.e]] [.l d f j.Args,.l a b c.l])
def Ct_r03_unary (m:GState→Int→Option (Ge × GState)):Prop:=∀ {k:World} {p:Nat→Prop} {h:GState} {o:Int} {i:Nat} {a:Option Addr} {b:Nat} {R:Ge × GState},Pre k p [.box i 102 #[Z a h.l b,V h.at_,V h.line,V h.e]] [.l a b h.l]→m h o=some R→
 Calls Try.prog 124 #[Pt i,V o] k (Ret fun v w=>pel R fun j c=>∃ (d:OA)(f:Nat),v=.agg #[V j.Op,V j.Number,V j.Var,T j.Name,T j.Field,Z d j.Args f]∧Bx k w p (Gof [.box i 102 #[Z a h.l b,V h.at_,V h.line,V h.e]]) [.box i 102 #[Z a c.l b,V c.at_,V c.line,V c.e]] [.l d f j.Args,.l a b c.l])
def Ct_r03_target (m:GState→Int→Option (Ge × GState)):Prop:=∀ {k:World} {p:Nat→Prop} {h:GState} {o:Int} {i:Nat} {a:Option Addr} {b:Nat} {R:Ge × GState},Pre k p [.box i 102 #[Z a h.l b,V h.at_,V h.line,V h.e]] [.l a b h.l]→m h o=some R→
 Calls Try.prog 128 #[Pt i,V o] k (Ret fun v w=>pel R fun j c=>∃ (d:OA)(f:Nat),v=.agg #[V j.Op,V j.Number,V j.Var,T j.Name,T j.Field,Z d j.Args f]∧Bx k w p (Gof [.box i 102 #[Z a h.l b,V h.at_,V h.line,V h.e]]) [.box i 102 #[Z a c.l b,V c.at_,V c.line,V c.e]] [.l d f j.Args,.l a b c.l])
def F_r03_expression_J0 (fu:Nat)(r_r03_expression:T_r03_expression) (r_r03_unary:T_r03_unary) (r_r03_target:T_r03_target) (f:GState) (h:Int)(i:Int):Option (Ld (Int × Int × Int × BA × BA × List Ge × List GToken × Int × Int × Int) (Ge × GState)):=
 if h=5 then
  (r_r03_unary f i).bind fun j=>
  pel j fun a c=>
  some (.go (a.Op,a.Number,a.Var,a.Name,a.Field,a.Args,c.l,c.at_,c.line,c.e))
 else
  (r_r03_expression f (wr (h+1)) i).bind fun j=>
  pel j fun b d=>
  some (.go (b.Op,b.Number,b.Var,b.Name,b.Field,b.Args,d.l,d.at_,d.line,d.e))
def F_r03_expression_L1 (fu:Nat)(r_r03_expression:T_r03_expression) (r_r03_unary:T_r03_unary) (r_r03_target:T_r03_target) (v:Int)(w:Int):Nat→Int→Int→Int→BA→BA→(List Ge)→(List GToken)→Int→Int→Int→Option (Ld (Int × Int × Int × BA × BA × List Ge × List GToken × Int × Int × Int) (Ge × GState))
 | 0,_,_,_,_,_,_,_,_,_,_=>none
 | x+1,c,d,f,h,i,j,k,m,o,a=>
 if a=0 then
  if v < 5 then
   (m_r03_level fu (⟨k,m,o,a⟩:GState)).bind fun z=>
   pel z fun u p=>
   if u≠v then
    some (.out ((⟨c,d,f,h,i,j⟩:Ge),(⟨k,m,o,a⟩:GState)))
   else
    (r_r03_expression (⟨k,(wr (m+1)),o,a⟩:GState) (wr (v+1)) w).bind fun z=>
    pel z fun t b=>
    if v=1 then
     some (.out ((⟨p,0,0,be,be,([(⟨c,d,f,h,i,j⟩:Ge),t]:List Ge)⟩:Ge),b))
    else
     F_r03_expression_L1 fu r_r03_expression r_r03_unary r_r03_target v w x p 0 0 be be ([(⟨c,d,f,h,i,j⟩:Ge),t]:List Ge) b.l b.at_ b.line b.e
  else
   some (.go (c,d,f,h,i,j,k,m,o,a))
 else
  some (.go (c,d,f,h,i,j,k,m,o,a))
def F_r03_expression (fu:Nat)(r_r03_expression:T_r03_expression) (r_r03_unary:T_r03_unary) (r_r03_target:T_r03_target) (D:GState) (B:Int)(C:Int):Option (Ge × GState):=
 (F_r03_expression_J0 fu r_r03_expression r_r03_unary r_r03_target D B C).bind fun E=>E.el (fun E=>
 pel E fun c E=>pel E fun d E=>pel E fun e E=>pel E fun f E=>pel E fun h E=>pel E fun i E=>pel E fun j E=>pel E fun k E=>pel E fun l a=>
 (F_r03_expression_L1 fu r_r03_expression r_r03_unary r_r03_target B C fu c d e f h i j k l a).bind fun E=>E.el (fun E=>
 pel E fun m E=>pel E fun p E=>pel E fun t E=>pel E fun u E=>pel E fun v E=>pel E fun w E=>pel E fun x E=>pel E fun z E=>pel E fun A b=>
 some ((⟨m,p,t,u,v,w⟩:Ge),(⟨x,z,A,b⟩:GState))
 ) (fun o=>some o)
 ) (fun o=>some o)
def F_r03_unary_L0 (fu:Nat)(r_r03_expression:T_r03_expression) (r_r03_unary:T_r03_unary) (r_r03_target:T_r03_target) (d:GState) (j:Int):List BA→Nat→Option (Ld (Unit) (Ge × GState))
 | [],_=>some (.go ())
 | h :: i,f=>
 (m_r03_is fu d 0 h).bind fun a=>
 if a=true then
  (r_r03_unary (⟨d.l,(wr (d.at_+1)),d.line,d.e⟩:GState) (wr (j+1))).bind fun k=>
  pel k fun b c=>
  some (.out ((⟨(wr (4+(f:Int))),0,0,be,be,([b]:List Ge)⟩:Ge),c))
 else
  F_r03_unary_L0 fu r_r03_expression r_r03_unary r_r03_target d j i (f+1)
def F_r03_unary (fu:Nat)(r_r03_expression:T_r03_expression) (r_r03_unary:T_r03_unary) (r_r03_target:T_r03_target) (a:GState) (t:Int):Option (Ge × GState):=
 if a.e≠0 then
  some ((⟨0,0,0,be,be,([]:List Ge)⟩:Ge),a)
 else
  (m_r03_starts fu a).bind fun m=>
  if (!m)=true then
   (m_r03_fail fu a 7).bind fun p=>
   some ((⟨0,0,0,be,be,([]:List Ge)⟩:Ge),p)
  else
   if 8 < t then
    (m_r03_fail fu a 5).bind fun b=>
    some ((⟨0,0,0,be,be,([]:List Ge)⟩:Ge),b)
   else
    (F_r03_unary_L0 fu r_r03_expression r_r03_unary r_r03_target a t ([(⟨#[45]⟩:BA),(⟨#[33]⟩:BA)]:List BA) 0).bind fun v=>v.el (fun _=>
    (m_r03_kind fu a 0 2).bind fun c=>
    if c=true then
     (ix a.l (wr ((wr (a.at_+1)) - 1))).bind fun u=>
     some ((⟨0,u.Number,0,be,be,([]:List Ge)⟩:Ge),(⟨a.l,(wr (a.at_+1)),a.line,a.e⟩:GState))
    else
     (m_r03_is fu a 0 (⟨#[40]⟩:BA)).bind fun d=>
     if d=true then
      (r_r03_expression (⟨a.l,(wr (a.at_+1)),a.line,a.e⟩:GState) 1 (wr (t+1))).bind fun v=>
      pel v fun f h=>
      (m_r03_take fu h (⟨#[41]⟩:BA)).bind fun i=>
      some (f,i)
     else
      (r_r03_target a t).bind fun v=>
      pel v fun j k=>
      some (j,k)
    ) (fun o=>some o)
def F_r03_target_J0 (fu:Nat)(r_r03_expression:T_r03_expression) (r_r03_unary:T_r03_unary) (r_r03_target:T_r03_target) (b:BA) (a:GState):Option (Ld (Unit) (Ge × GState)):=
 if a.e=0 then
  (m_r03_is fu a 0 (⟨#[46]⟩:BA)).bind fun c=>
  if c=true then
   (m_r03_name fu (⟨a.l,(wr (a.at_+1)),a.line,a.e⟩:GState)).bind fun h=>
   pel h fun d f=>
   some (.out ((⟨2,0,0,b,d,([]:List Ge)⟩:Ge),f))
  else
   some (.go ())
 else
  some (.go ())
def F_r03_target (fu:Nat)(r_r03_expression:T_r03_expression) (r_r03_unary:T_r03_unary) (r_r03_target:T_r03_target) (i:GState) (j:Int):Option (Ge × GState):=
 (m_r03_name fu i).bind fun k=>
 pel k fun b a=>
 (F_r03_target_J0 fu r_r03_expression r_r03_unary r_r03_target b a).bind fun k=>k.el (fun _=>
 if a.e=0 then
  (m_r03_is fu a 0 (⟨#[91]⟩:BA)).bind fun c=>
  if c=true then
   (r_r03_expression (⟨a.l,(wr (a.at_+1)),a.line,a.e⟩:GState) 1 (wr (j+1))).bind fun k=>
   pel k fun d f=>
   (m_r03_take fu f (⟨#[93]⟩:BA)).bind fun h=>
   some ((⟨3,0,0,b,be,([d]:List Ge)⟩:Ge),h)
  else
   some ((⟨1,0,0,b,be,([]:List Ge)⟩:Ge),a)
 else
  some ((⟨1,0,0,b,be,([]:List Ge)⟩:Ge),a)
 ) (fun o=>some o)
def tab_r03_expression:Nat→(GState→Int→Int→Option (Ge × GState)) × (GState→Int→Option (Ge × GState)) × (GState→Int→Option (Ge × GState))
 | 0=>((fun _ _ _=>none),(fun _ _=>none),(fun _ _=>none))
 | fu+1=>(F_r03_expression fu ((tab_r03_expression fu).1) ((tab_r03_expression fu).2.1) ((tab_r03_expression fu).2.2),F_r03_unary fu ((tab_r03_expression fu).1) ((tab_r03_expression fu).2.1) ((tab_r03_expression fu).2.2),F_r03_target fu ((tab_r03_expression fu).1) ((tab_r03_expression fu).2.1) ((tab_r03_expression fu).2.2))
def m_r03_expression (fu:Nat):=(tab_r03_expression fu).1
def m_r03_unary (fu:Nat):=(tab_r03_expression fu).2.1
def m_r03_target (fu:Nat):=(tab_r03_expression fu).2.2
theorem wk_r03_expression (fu:Nat)(r_r03_expression:T_r03_expression) (r_r03_unary:T_r03_unary) (r_r03_target:T_r03_target) (H_r03_expression:Ct_r03_expression r_r03_expression) (H_r03_unary:Ct_r03_unary r_r03_unary) (H_r03_target:Ct_r03_target r_r03_target):Ct_r03_expression (F_r03_expression fu r_r03_expression r_r03_unary r_r03_target):=by
 intro w0 b0 x0 x1 x2 a1 E F R hP z
 unfold F_r03_expression at z
 have d:=hP.bx
 clear hP
 generalize hG:Gof _=G at d ⊢
 refine cf Try.func112 r ?_
 refine wCut [(0,Pt a1),(1,V x1),(2,V x2)] ⟨r,r,r,y⟩ fun b3=>?_
 refine q (g (sTo (aNewB d (mAlloc ti138)) ?_))
 rintro _ w1 ⟨b1,rfl,d⟩
 refine n (q (g (sTo (aNewB d (mAlloc ti138)) ?_)))
 rintro _ w2 ⟨b2,rfl,d⟩
 refine n (q ?_)
 obtain ⟨Y3,J,z⟩:=bs z
 refine wJd (fun f w=>∃ (a3:Int)(a4:Int)(a5:Int)(a6:BA) (a7:BA) (Y:List Ge) (S:OA)(U:Nat)(a0:List GToken) (a8:Int)(a9:Int)(W:Int),Has f [(0,Pt a1),(1,V x1),(2,V x2),(6,Pt b1),(7,Pt b2)]∧Bx w0 w b0 G [.box b2 138 #[V a3,V a4,V a5,T a6,T a7,Z S Y U],.box b1 138 #[V 0,V 0,V 0,T be,T be,sn],.box a1 102 #[Z E a0 F,V a8,V a9,V W]] [.l S U Y,.l E F a0]∧Ld.go (a3,a4,a5,a6,a7,Y,a0,a8,a9,W)=Y3) (fun J3 ak=>?_) ?_
 ·unfold F_r03_expression_J0 at J
  refine q (g (s (mi r) (s (xEqlD r r) (n ?_))))
  rcases iv J with ⟨h4,J⟩|⟨h4,J⟩
  ·refine wIfT (bt h4) (g (s (mp r) (s (mi r) ?_)))
   obtain ⟨⟨v,aa⟩,h5,J⟩:=bs J
   replace J:=pi J
   have hc:=H_r03_unary (d.pr [2] [0,1] [0] r)  h5
   refine sc (ec cal124 r) hc ?_
   rintro _ w5 ⟨L,M,rfl,hK⟩
   replace d:=d.cl [2] [0,1] r hK r
   try dsimp only [pick,nth,ca,na] at d
   refine sTs (tb d 1 [V v.Op,V v.Number,V v.Var,T v.Name,T v.Field,Z L v.Args M] r ti138 r r r r r (show _=#[V v.Op,V v.Number,V v.Var,T v.Name,T v.Field,Z L v.Args M] from r)) ?_
   intro w6 d
   try dsimp only [List.set] at d
   refine n ?_
   exact ak _ _ ⟨v.Op,v.Number,v.Var,v.Name,v.Field,v.Args,L,M,aa.l,aa.at_,aa.line,aa.e,⟨r,r,r,r,r,y⟩,(d.ad [1,2,0] [0,1]),sm J⟩
  refine wIfF (bf h4) (g (s (mp r) (s (mi r) (s (xAddW r r) (s (mi r) ?_)))))
  obtain ⟨⟨x,ab⟩,h7,J⟩:=bs J
  replace J:=pi J
  have hc:=H_r03_expression (d.pr [2] [0,1] [0] r)  h7
  refine sc (ec cal112 r) hc ?_
  rintro _ w7 ⟨N,Q,rfl,hK⟩
  replace d:=d.cl [2] [0,1] r hK r
  try dsimp only [pick,nth,ca,na] at d
  refine sTs (tb d 1 [V x.Op,V x.Number,V x.Var,T x.Name,T x.Field,Z N x.Args Q] r ti138 r r r r r (show _=#[V x.Op,V x.Number,V x.Var,T x.Name,T x.Field,Z N x.Args Q] from r)) ?_
  intro w8 d
  try dsimp only [List.set] at d
  refine n ?_
  exact ak _ _ ⟨x.Op,x.Number,x.Var,x.Name,x.Field,x.Args,N,Q,ab.l,ab.at_,ab.line,ab.e,⟨r,r,r,r,r,y⟩,(d.ad [1,2,0] [0,1]),sm J⟩
 clear d
 rintro f w ⟨a3,a4,a5,a6,a7,Y,S,U,a0,a8,a9,W,hf,d,au⟩
 obtain ⟨b3,rfl⟩:=has_updL _ _ hf
 clear hf
 subst au
 replace z:=gi z
 replace z:=pi z
 replace z:=pi z
 replace z:=pi z
 replace z:=pi z
 replace z:=pi z
 replace z:=pi z
 replace z:=pi z
 replace z:=pi z
 replace z:=pi z
 refine q ?_
 obtain ⟨Y9,u,z⟩:=bs z
 refine wJd (fun f w=>∃ (j:Int)(m:Int)(o:Int)(p:BA) (t:BA) (h:List Ge) (b:OA)(c:Nat)(D:List GToken) (H:Int)(I:Int)(A:Int),Has f [(6,Pt b1),(7,Pt b2)]∧Bx w0 w b0 G [.box b2 138 #[V j,V m,V o,T p,T t,Z b h c],.box b1 138 #[V 0,V 0,V 0,T be,T be,sn],.box a1 102 #[Z E D F,V H,V I,V A]] [.l b c h,.l E F D]∧Ld.go (j,m,o,p,t,h,D,H,I,A)=Y9) (fun J9 al=>?_) ?_
 ·refine wBk (wLoopGd (fun b4 f w=>∃ (j:Int)(m:Int)(o:Int)(p:BA) (t:BA) (h:List Ge) (b:OA)(c:Nat)(D:List GToken) (H:Int)(I:Int)(A:Int),Has f [(0,Pt a1),(1,V x1),(2,V x2),(6,Pt b1),(7,Pt b2)]∧Bx w0 w b0 G [.box b2 138 #[V j,V m,V o,T p,T t,Z b h c],.box b1 138 #[V 0,V 0,V 0,T be,T be,sn],.box a1 102 #[Z E D F,V H,V I,V A]] [.l b c h,.l E F D]∧F_r03_expression_L1 fu r_r03_expression r_r03_unary r_r03_target x1 x2 b4 j m o p t h D H I A=some Y9) fu ⟨a3,a4,a5,a6,a7,Y,S,U,a0,a8,a9,W,⟨r,r,r,r,r,y⟩,d,u⟩ ?_)
  clear d u
  rintro n9 f w ⟨j,m,o,p,t,h,b,c,D,H,I,A,hf,d,u⟩ K9 aw
  obtain ⟨b3,rfl⟩:=has_updL _ _ hf
  clear hf
  cases n9 with
  | zero=>exact nn u
  | succ n9=>
   rw [F_r03_expression_L1] at u
   refine q (q (g (s (mp r) (s (xn r) (s (f102_3 r) (s (l37 r (d.bk 2 r) r) (s (xEqlD r r) (s (xMvB r) ?_))))))))
   rcases iv u with ⟨ae,u⟩|⟨ae,u⟩
   ·rw [decide_eq_true ae]
    refine sGo r (s (mi r) (sGo r (s (xLss r r) (s (xPkTB r r) (n ?_)))))
    rcases iv u with ⟨af,u⟩|⟨af,u⟩
    ·refine wIfT (bt af) (wk (wBk (q (g (s (mp r) ?_)))))
     obtain ⟨⟨ax,K⟩,ay,u⟩:=bs u
     replace u:=pi u
     have hc:=(sp_r03_level fu) (d.pr [2] [0,1] [1] r)  ay
     refine sc (ec cal125 r) hc ?_
     rintro _ aG ⟨rfl,hK⟩
     replace d:=d.cl [2] [0,1] r hK r
     try dsimp only [pick,nth,ca,na] at d
     refine s xMove (s (xExtract r r) (s (xExtract r r) (s (xi r) (s (xi r) (n (q (q (g (s (mi r) (s (mi r) (s (xNeqD r r) (n ?_))))))))))))
     rcases iv u with ⟨ag,u⟩|⟨ag,u⟩
     ·refine wIfT (bt ag) (q (g (s (xLoadS [V j,V m,V o,T p,T t,Z b h c] u138_ r ti138 r r (Cells.part (d.bk 1 r).cells (o2:=0) r)) (sTs (tb d 2 [V j,V m,V o,T p,T t,Z b h c] r ti138 r r r r r (show _=#[V j,V m,V o,T p,T t,Z b h c] from r)) ?_))))
      intro aH d
      try dsimp only [List.set] at d
      refine n (wRt ?_)
      obtain rfl:=sm u
      replace z:=oi z
      obtain rfl:=sm z
      refine resV1 r (rdA r u138_ r ti138 r (d.bk 2 r)) ?_
      exact pok (⟨b,c,r,(d.ad [0] [1,2])⟩)
     refine wIfF (bf ag) (wk (q (g (s (mp r) (s (xn r) (s (f102_1 r) (s (l3 r (d.bk 0 r) r) (s (xAddW r r) (s (xn r) (s (f102_1 r) (sTs (tb d 0 [V (wr (H+1))] r ti3 r r r r r (show _=#[Z E D F,V (wr (H+1)),V I,V A] from r)) ?_)))))))))))
     intro aI d
     try dsimp only [List.set] at d
     refine n (q (g (s (mp r) (s (mi r) (s (xAddW r r) (s (mi r) ?_))))))
     obtain ⟨⟨a,X⟩,az,u⟩:=bs u
     replace u:=pi u
     have hc:=H_r03_expression (d.pr [0] [1,2] [2] r)  az
     refine sc (ec cal112 r) hc ?_
     rintro _ aJ ⟨B,C,rfl,hK⟩
     replace d:=d.cl [0] [1,2] r hK r
     try dsimp only [pick,nth,ca,na] at d
     refine sTo (aNewB d (mAlloc ti138)) ?_
     rintro _ aK ⟨aL,rfl,d⟩
     refine sTs (tb d 0 [V a.Op,V a.Number,V a.Var,T a.Name,T a.Field,Z B a.Args C] r ti138 r r r r r (show _=#[V a.Op,V a.Number,V a.Var,T a.Name,T a.Field,Z B a.Args C] from r)) ?_
     intro aM d
     try dsimp only [List.set] at d
     refine n (q (g (s (mi r) (s (xLoadS [V j,V m,V o,T p,T t,Z b h c] u138_ r ti138 r r (Cells.part (d.bk 2 r).cells (o2:=0) r)) (s (xLoadS [V a.Op,V a.Number,V a.Var,T a.Name,T a.Field,Z B a.Args C] u138_ r ti138 r r (Cells.part (d.bk 0 r).cells (o2:=0) r)) (sTo (aRowB d [[V j,V m,V o,T p,T t,Z b h c],[V a.Op,V a.Number,V a.Var,T a.Name,T a.Field,Z B a.Args C]] ([(⟨j,m,o,p,t,h⟩:Ge),a]:List Ge) (bs109_2_a r r) r r (by decide) ⟨(GExpr.inn ⟨b,c,r,(d.dl 3 r)⟩),⟨(GExpr.inn ⟨B,C,r,(d.dl 0 r)⟩),y⟩⟩) ?_))))))
     rintro _ aN ⟨a2,rfl,d⟩
     refine s (bd138_0_5 r r) (sTs (tb d 3 [V K,V 0,V 0,T be,T be,.slice (ad a2) ([(⟨j,m,o,p,t,h⟩:Ge),a]:List Ge).length 2] r ti138 r r r r r (show _=#[V K,V 0,V 0,T be,T be,.slice (ad a2) ([(⟨j,m,o,p,t,h⟩:Ge),a]:List Ge).length 2] from r)) ?_)
     intro aO d
     try dsimp only [List.set] at d
     refine n (q (g (s (mi r) (s (xEqlD r r) (n ?_)))))
     rcases iv u with ⟨ah,u⟩|⟨ah,u⟩
     ·refine wIfT (bt ah) (q (g (s (xLoadS [V K,V 0,V 0,T be,T be,.slice (ad a2) ([(⟨j,m,o,p,t,h⟩:Ge),a]:List Ge).length 2] u138_ r ti138 r r (Cells.part (d.bk 3 r).cells (o2:=0) r)) (sTs (tb d 4 [V K,V 0,V 0,T be,T be,.slice (ad a2) ([(⟨j,m,o,p,t,h⟩:Ge),a]:List Ge).length 2] r ti138 r r r r r (show _=#[V K,V 0,V 0,T be,T be,.slice (ad a2) ([(⟨j,m,o,p,t,h⟩:Ge),a]:List Ge).length 2] from r)) ?_))))
      intro aP d
      try dsimp only [List.set] at d
      refine n (wRt ?_)
      replace d:=d.frz 0 0 r r
      try dsimp only [List.eraseIdx] at d
      obtain rfl:=sm u
      replace z:=oi z
      obtain rfl:=sm z
      refine resV1 r (rdA r u138_ r ti138 r (d.bk 3 r)) ?_
      exact pok (⟨(ad a2),2,r,(d.ad [1] [0,2])⟩)
     refine wIfF (bf ah) (wk ?_)
     replace d:=d.frz 0 0 r r
     try dsimp only [List.eraseIdx] at d
     exact aw n9 _ _ (Nat.lt_succ_self _) ⟨K,0,0,be,be,([(⟨j,m,o,p,t,h⟩:Ge),a]:List Ge),(ad a2),2,X.l,X.at_,X.line,X.e,⟨r,r,r,r,r,y⟩,(d.ad [2,3,1] [0,2]),u⟩
    refine wIfF (bf af) (wEx ?_)
    exact al _ _ ⟨j,m,o,p,t,h,b,c,D,H,I,A,⟨r,r,y⟩,d,sm u⟩
   rw [decide_eq_false ae]
   refine sNo r (sNo r (s (xPkFB r r) (n (wIfF r (wEx ?_)))))
   exact al _ _ ⟨j,m,o,p,t,h,b,c,D,H,I,A,⟨r,r,y⟩,d,sm u⟩
 clear d
 rintro f w ⟨j,m,o,p,t,h,b,c,D,H,I,A,hf,d,aA⟩
 obtain ⟨b3,rfl⟩:=has_updL _ _ hf
 clear hf
 subst aA
 replace z:=gi z
 replace z:=pi z
 replace z:=pi z
 replace z:=pi z
 replace z:=pi z
 replace z:=pi z
 replace z:=pi z
 replace z:=pi z
 replace z:=pi z
 replace z:=pi z
 refine q (g (s (xLoadS [V j,V m,V o,T p,T t,Z b h c] u138_ r ti138 r r (Cells.part (d.bk 0 r).cells (o2:=0) r)) (sTs (tb d 1 [V j,V m,V o,T p,T t,Z b h c] r ti138 r r r r r (show _=#[V j,V m,V o,T p,T t,Z b h c] from r)) ?_)))
 intro aQ d
 try dsimp only [List.set] at d
 refine n (wRt ?_)
 obtain rfl:=sm z
 refine resV1 r (rdA r u138_ r ti138 r (d.bk 1 r)) ?_
 exact pok (⟨b,c,r,(d.arr [2] r)⟩)
theorem wk_r03_unary (fu:Nat)(r_r03_expression:T_r03_expression) (r_r03_unary:T_r03_unary) (r_r03_target:T_r03_target) (H_r03_expression:Ct_r03_expression r_r03_expression) (H_r03_unary:Ct_r03_unary r_r03_unary) (H_r03_target:Ct_r03_target r_r03_target):Ct_r03_unary (F_r03_unary fu r_r03_expression r_r03_unary r_r03_target):=by
 intro w0 b4 x x1 I u v R hP j
 unfold F_r03_unary at j
 have a:=hP.bx
 clear hP
 generalize hG:Gof _=G at a ⊢
 refine cf Try.func124 r ?_
 refine wCut [(0,Pt I),(1,V x1)] ⟨r,r,y⟩ fun b5=>?_
 refine q (g (sTo (aNewB a (mAlloc ti138)) ?_))
 rintro _ w1 ⟨b1,rfl,a⟩
 refine n (q (q (g (s (mp r) (s (xn r) (s (f102_3 r) (s (l37 r (a.bk 1 r) r) (s (xNeqD r r) (n ?_)))))))))
 rcases iv j with ⟨h2,j⟩|⟨h2,j⟩
 ·refine wIfT (bt h2) (q (g (s bd138_ (sTs (tb a 0 [V 0,V 0,V 0,T be,T be,sn] r ti138 r r r r r (show _=#[V 0,V 0,V 0,T be,T be,sn] from r)) ?_))))
  intro w3 a
  try dsimp only [List.set] at a
  refine n (wRt ?_)
  replace a:=a.dadd (d:=.l none 0 ([]:List Ge)) ln_
  obtain rfl:=sm j
  refine resV1 r (rdA r u138_ r ti138 r (a.bk 0 r)) ?_
  exact pok (⟨none,0,r,(a.arr [1] r)⟩)
 refine wIfF (bf h2) (wk (q (q (g (s (mp r) ?_)))))
 obtain ⟨ar,h5,j⟩:=bs j
 have hc:=(sp_r03_starts fu) (a.pr [1] [0] [0] r)  h5
 refine sc (ec cal136 r) hc ?_
 rintro _ w5 ⟨rfl,E⟩
 replace a:=a.cl [1] [0] r E r
 try dsimp only [pick,nth,ca,na] at a
 refine s (xNot r) (n ?_)
 rcases iv j with ⟨X,j⟩|⟨X,j⟩
 ·refine wIfT (cb X) (q (g (s (mp r) ?_)))
  obtain ⟨au,h7,j⟩:=bs j
  have hc:=(sp_r03_fail fu) (a.pr [0] [1] [1] r)  h7
  refine sc (ec cal68 r) hc ?_
  rintro _ w7 ⟨rfl,E⟩
  replace a:=a.cl [0] [1] r E r
  try dsimp only [pick,nth,ca,na] at a
  refine n (q (g (s bd138_ (sTs (tb a 1 [V 0,V 0,V 0,T be,T be,sn] r ti138 r r r r r (show _=#[V 0,V 0,V 0,T be,T be,sn] from r)) ?_))))
  intro w8 a
  try dsimp only [List.set] at a
  refine n (wRt ?_)
  replace a:=a.dadd (d:=.l none 0 ([]:List Ge)) ln_
  obtain rfl:=sm j
  refine resV1 r (rdA r u138_ r ti138 r (a.bk 1 r)) ?_
  exact pok (⟨none,0,r,(a.ad [0] [0,1])⟩)
 replace X:=nt X
 refine wIfF (cb X) (wk (q (q (g (s (mi r) (s (xGtr r r) (n ?_)))))))
 rcases iv j with ⟨S,j⟩|⟨S,j⟩
 ·refine wIfT (bt S) (q (g (s (mp r) ?_)))
  obtain ⟨a8,a9,j⟩:=bs j
  have hc:=(sp_r03_fail fu) (a.pr [0] [1] [1] r)  a9
  refine sc (ec cal68 r) hc ?_
  rintro _ az ⟨rfl,E⟩
  replace a:=a.cl [0] [1] r E r
  try dsimp only [pick,nth,ca,na] at a
  refine n (q (g (s bd138_ (sTs (tb a 1 [V 0,V 0,V 0,T be,T be,sn] r ti138 r r r r r (show _=#[V 0,V 0,V 0,T be,T be,sn] from r)) ?_))))
  intro aA a
  try dsimp only [List.set] at a
  refine n (wRt ?_)
  replace a:=a.dadd (d:=.l none 0 ([]:List Ge)) ln_
  obtain rfl:=sm j
  refine resV1 r (rdA r u138_ r ti138 r (a.bk 1 r)) ?_
  exact pok (⟨none,0,r,(a.ad [0] [0,1])⟩)
 refine wIfF (bf S) (wk (q (q (g (sTo (aRowB a [[T (⟨#[45]⟩:BA)],[T (⟨#[33]⟩:BA)]] ([(⟨#[45]⟩:BA),(⟨#[33]⟩:BA)]:List BA) (bs70_2_a r r) r r (by decide) ⟨r,⟨r,y⟩⟩) ?_)))))
 rintro _ aB ⟨U,rfl,a⟩
 refine s (xLnR u70_ r) (s (mi r) (n ?_))
 have av:=(a.vw 0 0 r r).bd
 obtain ⟨Y,c,j⟩:=bs j
 refine wJd (fun f w=>Has f [(0,Pt I),(1,V x1),(4,Pt b1)]∧Bx w0 w b4 G [O w0.heap.size (ad U) 2 9 BA [[T (⟨#[45]⟩:BA)],[T (⟨#[33]⟩:BA)]],.box I 102 #[Z u x.l v,V x.at_,V x.line,V x.e],.box b1 138 #[V 0,V 0,V 0,T be,T be,sn]] [.els [[T (⟨#[45]⟩:BA)],[T (⟨#[33]⟩:BA)]] ([(⟨#[45]⟩:BA),(⟨#[33]⟩:BA)]:List BA),.l u v x.l]∧Ld.go ()=Y) (fun aC a0=>?_) ?_
 ·refine wBk (wLoopGd (fun b6 f w=>∃ (B:Nat),b6=([(⟨#[45]⟩:BA),(⟨#[33]⟩:BA)]:List BA).length - B∧B≤([(⟨#[45]⟩:BA),(⟨#[33]⟩:BA)]:List BA).length∧Has f [(27,V (B:Int)),(0,Pt I),(1,V x1),(4,Pt b1),(25,.slice (ad U) ([(⟨#[45]⟩:BA),(⟨#[33]⟩:BA)]:List BA).length 2),(26,V ((([(⟨#[45]⟩:BA),(⟨#[33]⟩:BA)]:List BA).length:Nat):Int))]∧Bx w0 w b4 G [O w0.heap.size (ad U) 2 9 BA [[T (⟨#[45]⟩:BA)],[T (⟨#[33]⟩:BA)]],.box I 102 #[Z u x.l v,V x.at_,V x.line,V x.e],.box b1 138 #[V 0,V 0,V 0,T be,T be,sn]] [.els [[T (⟨#[45]⟩:BA)],[T (⟨#[33]⟩:BA)]] ([(⟨#[45]⟩:BA),(⟨#[33]⟩:BA)]:List BA),.l u v x.l]∧F_r03_unary_L0 fu r_r03_expression r_r03_unary r_r03_target x x1 (([(⟨#[45]⟩:BA),(⟨#[33]⟩:BA)]:List BA).drop B) B=some Y) (([(⟨#[45]⟩:BA),(⟨#[33]⟩:BA)]:List BA).length) ⟨0,r,Nat.zero_le _,⟨r,r,r,r,r,r,y⟩,(a.dp [0,2]),c⟩ ?_)
  clear a c
  rintro b6 f w ⟨B,rfl,aw,hf,a,c⟩ aD a1
  obtain ⟨b5,rfl⟩:=has_updL _ _ hf
  clear hf
  rcases Nat.lt_or_ge B ([(⟨#[45]⟩:BA),(⟨#[33]⟩:BA)]:List BA).length with Q | Q
  ·obtain ⟨aa,K⟩:=get_ex (l:=([(⟨#[45]⟩:BA),(⟨#[33]⟩:BA)]:List BA)) Q
   rw [drop_id K,F_r03_unary_L0] at c
   refine q (g (s (xLssT r r (by omega)) (n (q (wIfT r (wk (q (wBk (q (g (s (mi r) (s (xIdR u70_ ti9 r r r (a.vw 0 0 r r) K) (s (xLoad u9_ r r ((elF (ds:=[T aa]) (a.vw 0 0 r r) K (fun _ h=>h)) 0 _ r)) ?_)))))))))))))
   refine s (xi r) (s (xAsT r) (n (q (g (s (mp r) (s (xMvT r) ?_))))))
   obtain ⟨ab,ac,c⟩:=bs c
   have hc:=(sp_r03_is fu) (a.pr [1] [0,2] [1] r)  ac
   refine sc (ec cal62 r) hc ?_
   rintro _ aE ⟨rfl,E⟩
   replace a:=a.cl [1] [0,2] r E r
   try dsimp only [pick,nth,ca,na] at a
   refine n ?_
   rcases iv c with ⟨L,c⟩|⟨L,c⟩
   ·refine wIfT (cb L) (q (g (s (mp r) (s (xn r) (s (f102_1 r) (s (l3 r (a.bk 0 r) r) (s (xAddW r r) (s (xn r) (s (f102_1 r) (sTs (tb a 0 [V (wr (x.at_+1))] r ti3 r r r r r (show _=#[Z u x.l v,V (wr (x.at_+1)),V x.line,V x.e] from r)) ?_))))))))))
    intro aF a
    try dsimp only [List.set] at a
    refine n (q (g (s (mi r) (s (xAddW r r) (s (mp r) (s (mi r) (s (xAddW r r) ?_)))))))
    obtain ⟨⟨t,ae⟩,af,c⟩:=bs c
    replace c:=pi c
    have hc:=H_r03_unary (a.pr [0] [1,2] [2] r)  af
    refine sc (ec cal124 r) hc ?_
    rintro _ aG ⟨C,D,rfl,E⟩
    replace a:=a.cl [0] [1,2] r E r
    try dsimp only [pick,nth,ca,na] at a
    refine sTo (aRowB a [[V t.Op,V t.Number,V t.Var,T t.Name,T t.Field,Z C t.Args D]] ([t]:List Ge) (bs109_1_a r) r r (by decide) ⟨(GExpr.inn ⟨C,D,r,(a.dl 0 r)⟩),y⟩) ?_
    rintro _ aH ⟨W,rfl,a⟩
    refine s (bd138_0_5 r r) (sTs (tb a 3 [V (wr (4+(B:Int))),V 0,V 0,T be,T be,.slice (ad W) ([t]:List Ge).length 1] r ti138 r r r r r (show _=#[V (wr (4+(B:Int))),V 0,V 0,T be,T be,.slice (ad W) ([t]:List Ge).length 1] from r)) ?_)
    intro aI a
    try dsimp only [List.set] at a
    refine n (wRt ?_)
    replace a:=a.frz 0 0 r r
    try dsimp only [List.eraseIdx] at a
    obtain rfl:=sm c
    replace j:=oi j
    obtain rfl:=sm j
    refine resV1 r (rdA r u138_ r ti138 r (a.bk 2 r)) ?_
    exact pok (⟨(ad W),1,r,(a.ad [0] [0,2])⟩)
   replace L:=nt L
   refine wIfF (cb L) (wk (g (s (xAdd64 r r (by omega) (by omega)) (s (mi r) (n ?_)))))
   exact a1 (([(⟨#[45]⟩:BA),(⟨#[33]⟩:BA)]:List BA).length - (B+1)) _ _ (by omega) ⟨B+1,r,by omega,⟨r,r,r,r,r,r,y⟩,(a.ad [1,0,2] [1,2]),c⟩
  obtain rfl:B=([(⟨#[45]⟩:BA),(⟨#[33]⟩:BA)]:List BA).length:=by omega
  rw [drop_end,F_r03_unary_L0] at c
  refine q (g (s (xLssF r r (by omega)) (n (q (wIfF r (wEx ?_))))))
  exact a0 _ _ ⟨⟨r,r,r,y⟩,a,sm c⟩
 clear a
 rintro f w ⟨hf,a,a2⟩
 obtain ⟨b5,rfl⟩:=has_updL _ _ hf
 clear hf
 subst a2
 replace j:=gi j
 refine q (q (g (s (mp r) ?_)))
 obtain ⟨ag,ah,j⟩:=bs j
 have hc:=(sp_r03_kind fu) (a.pr [1] [0,2] [1] r)  ah
 refine sc (ec cal67 r) hc ?_
 rintro _ aJ ⟨rfl,E⟩
 replace a:=a.cl [1] [0,2] r E r
 try dsimp only [pick,nth,ca,na] at a
 refine n ?_
 rcases iv j with ⟨M,j⟩|⟨M,j⟩
 ·refine wIfT (cb M) (q (g (s (mp r) (s (xn r) (s (f102_1 r) (s (l3 r (a.bk 0 r) r) (s (xAddW r r) (s (xn r) (s (f102_1 r) (sTs (tb a 0 [V (wr (x.at_+1))] r ti3 r r r r r (show _=#[Z u x.l v,V (wr (x.at_+1)),V x.line,V x.e] from r)) ?_))))))))))
  intro aK a
  try dsimp only [List.set] at a
  refine n (q (wDr1 a [0] [2] [] (by kernel_rfl) ?_))
  replace a:=a.drew
  have F:=(a.ad [0] [2])
  refine pF 0 r (mp r) F (pF 1 r (xn r) F (pF 2 r (f102_0 r) F (uF 3 r (fun hS=>l97 r (hS.bk 0 r) r) F (pF 4 r (mp r) F (pF 5 r (xn r) F (pF 6 r (f102_1 r) F (uF 7 r (fun hS=>l3 r (hS.bk 0 r) r) F (pF 8 r (xSubW r r) F ?_))))))))
  obtain ⟨J,H,j⟩:=bs j
  obtain ⟨aL,a3,H⟩:=ix_inv H
  refine pF 9 r (xIdR u97_ ti143 r r a3 (a.dl 2 r) H) F (pF 10 r (f143_3 r) F (tU 11 r (fun _ hS=>xLoad u3_ r r ((elF (ds:=[V J.Kind,V J.Line,T J.Text,V J.Number]) (hS.dl 0 r) H (fun _ h=>h)) 3 _ r)) (sF F) (pF 12 r (bd138_0_1 r r) F ?_)))
  refine hO 13 (os r r (tb a 2 [V 0,V J.Number,V 0,T be,T be,sn] r ti138 r r r r r (show _=#[V 0,V J.Number,V 0,T be,T be,sn] from r)) ?_)
  intro aM a
  try dsimp only [List.set] at a
  have F:=(a.ad [0] [2])
  refine ⟨(sF F),?_⟩
  refine hD (wRt ?_)
  replace a:=a.dadd (d:=.l none 0 ([]:List Ge)) ln_
  obtain rfl:=sm j
  refine resV1 r (rdA r u138_ r ti138 r (a.bk 2 r)) ?_
  exact pok (⟨none,0,r,(a.ad [0] [0,3])⟩)
 replace M:=nt M
 refine wIfF (cb M) (wk (q (q (g (s (mp r) ?_)))))
 obtain ⟨ai,aj,j⟩:=bs j
 have hc:=(sp_r03_is fu) (a.pr [0] [1,2] [2] r)  aj
 refine sc (ec cal62 r) hc ?_
 rintro _ aN ⟨rfl,E⟩
 replace a:=a.cl [0] [1,2] r E r
 try dsimp only [pick,nth,ca,na] at a
 refine n ?_
 rcases iv j with ⟨N,j⟩|⟨N,j⟩
 ·refine wIfT (cb N) (q (g (s (mp r) (s (xn r) (s (f102_1 r) (s (l3 r (a.bk 0 r) r) (s (xAddW r r) (s (xn r) (s (f102_1 r) (sTs (tb a 0 [V (wr (x.at_+1))] r ti3 r r r r r (show _=#[Z u x.l v,V (wr (x.at_+1)),V x.line,V x.e] from r)) ?_))))))))))
  intro aO a
  try dsimp only [List.set] at a
  refine n (q (g (s (mp r) (s (mi r) (s (xAddW r r) ?_)))))
  obtain ⟨⟨b,ak⟩,al,j⟩:=bs j
  replace j:=pi j
  have hc:=H_r03_expression (a.pr [0] [1,2] [3] r)  al
  refine sc (ec cal112 r) hc ?_
  rintro _ aP ⟨o,p,rfl,E⟩
  replace a:=a.cl [0] [1,2] r E r
  try dsimp only [pick,nth,ca,na] at a
  refine sTo (aNewB a (mAlloc ti138)) ?_
  rintro _ aQ ⟨aR,rfl,a⟩
  refine sTs (tb a 0 [V b.Op,V b.Number,V b.Var,T b.Name,T b.Field,Z o b.Args p] r ti138 r r r r r (show _=#[V b.Op,V b.Number,V b.Var,T b.Name,T b.Field,Z o b.Args p] from r)) ?_
  intro aS a
  try dsimp only [List.set] at a
  refine n (q (g (s (mp r) ?_)))
  obtain ⟨am,an,j⟩:=bs j
  have hc:=(sp_r03_take fu) (a.pr [1] [0,2,3] [1] r)  an
  refine sc (ec cal64 r) hc ?_
  rintro _ aT ⟨rfl,E⟩
  replace a:=a.cl [1] [0,2,3] r E r
  try dsimp only [pick,nth,ca,na] at a
  refine n (q (g (s (xLoadS [V b.Op,V b.Number,V b.Var,T b.Name,T b.Field,Z o b.Args p] u138_ r ti138 r r (Cells.part (a.bk 1 r).cells (o2:=0) r)) (sTs (tb a 3 [V b.Op,V b.Number,V b.Var,T b.Name,T b.Field,Z o b.Args p] r ti138 r r r r r (show _=#[V b.Op,V b.Number,V b.Var,T b.Name,T b.Field,Z o b.Args p] from r)) ?_))))
  intro aU a
  try dsimp only [List.set] at a
  refine n (wRt ?_)
  obtain rfl:=sm j
  refine resV1 r (rdA r u138_ r ti138 r (a.bk 3 r)) ?_
  exact pok (⟨o,p,r,(a.ad [0] [1,0])⟩)
 replace N:=nt N
 refine wIfF (cb N) (wk (q (g (s (mp r) (s (mi r) ?_)))))
 obtain ⟨⟨m,ao⟩,ap,j⟩:=bs j
 replace j:=pi j
 have hc:=H_r03_target (a.pr [0] [1,2] [3] r)  ap
 refine sc (ec cal128 r) hc ?_
 rintro _ aV ⟨z,A,rfl,E⟩
 replace a:=a.cl [0] [1,2] r E r
 try dsimp only [pick,nth,ca,na] at a
 refine sTs (tb a 2 [V m.Op,V m.Number,V m.Var,T m.Name,T m.Field,Z z m.Args A] r ti138 r r r r r (show _=#[V m.Op,V m.Number,V m.Var,T m.Name,T m.Field,Z z m.Args A] from r)) ?_
 intro aW a
 try dsimp only [List.set] at a
 refine n (wRt ?_)
 obtain rfl:=sm j
 refine resV1 r (rdA r u138_ r ti138 r (a.bk 2 r)) ?_
 exact pok (⟨z,A,r,(a.ad [0] [0,1])⟩)
theorem wk_r03_target (fu:Nat)(r_r03_expression:T_r03_expression) (r_r03_unary:T_r03_unary) (r_r03_target:T_r03_target) (H_r03_expression:Ct_r03_expression r_r03_expression) (H_r03_unary:Ct_r03_unary r_r03_unary) (H_r03_target:Ct_r03_target r_r03_target):Ct_r03_target (F_r03_target fu r_r03_expression r_r03_unary r_r03_target):=by
 intro w0 ap F S z t u R U o
 unfold F_r03_target at o
 have b:=U.bx
 clear U
 generalize hG:Gof _=G at b ⊢
 refine cf Try.func128 r ?_
 refine wCut [(0,Pt z),(1,V S)] ⟨r,r,y⟩ fun aq=>?_
 refine q (g (sTo (aNewB b (mAlloc ti138)) ?_))
 rintro _ w1 ⟨W,rfl,b⟩
 refine n (q (g (s (mp r) ?_)))
 obtain ⟨⟨p,c⟩,h2,o⟩:=bs o
 replace o:=pi o
 have hc:=(sp_r03_name fu) (b.pr [1] [0] [0] r)  h2
 refine sc (ec cal63 r) hc ?_
 rintro _ w2 ⟨rfl,v⟩
 replace b:=b.cl [1] [0] r v r
 try dsimp only [pick,nth,ca,na] at b
 refine s (xAsT r) (n (q ?_))
 obtain ⟨Y3,m,o⟩:=bs o
 refine wJd (fun f w=>Has f [(0,Pt z),(1,V S),(4,Pt W),(5,T p)]∧Bx w0 w ap G [.box z 102 #[Z t c.l u,V c.at_,V c.line,V c.e],.box W 138 #[V 0,V 0,V 0,T be,T be,sn]] [.l t u c.l]∧Ld.go ()=Y3) (fun J3 D=>?_) ?_
 ·unfold F_r03_target_J0 at m
  refine q (g (s (mp r) (s (xn r) (s (f102_3 r) (s (l37 r (b.bk 0 r) r) (s (xEqlD r r) (s (xMvB r) ?_)))))))
  rcases iv m with ⟨H,m⟩|⟨H,m⟩
  ·rw [decide_eq_true H]
   refine sGo r (s (mp r) ?_)
   obtain ⟨X,h5,m⟩:=bs m
   refine sGo r ?_
   have hc:=(sp_r03_is fu) (b.pr [0] [1] [0] r)  h5
   refine sc (ec cal62 r) hc ?_
   rintro _ w5 ⟨rfl,v⟩
   replace b:=b.cl [0] [1] r v r
   try dsimp only [pick,nth,ca,na] at b
   refine s (xPkTB r r) (n ?_)
   rcases iv m with ⟨E,m⟩|⟨E,m⟩
   ·refine wIfT (cb E) (q (g (s (mp r) (s (xn r) (s (f102_1 r) (s (l3 r (b.bk 0 r) r) (s (xAddW r r) (s (xn r) (s (f102_1 r) (sTs (tb b 0 [V (wr (c.at_+1))] r ti3 r r r r r (show _=#[Z t c.l u,V (wr (c.at_+1)),V c.line,V c.e] from r)) ?_))))))))))
    intro w7 b
    try dsimp only [List.set] at b
    refine n (q (g (s (xMvT r) (s (mp r) ?_))))
    obtain ⟨⟨A,Y⟩,h8,m⟩:=bs m
    replace m:=pi m
    have hc:=(sp_r03_name fu) (b.pr [0] [1] [1] r)  h8
    refine sc (ec cal63 r) hc ?_
    rintro _ w8 ⟨rfl,v⟩
    replace b:=b.cl [0] [1] r v r
    try dsimp only [pick,nth,ca,na] at b
    refine s (bd138_0_3_4 r r r) (sTs (tb b 1 [V 2,V 0,V 0,T p,T A,sn] r ti138 r r r r r (show _=#[V 2,V 0,V 0,T p,T A,sn] from r)) ?_)
    intro w9 b
    try dsimp only [List.set] at b
    refine n (wRt ?_)
    replace b:=b.dadd (d:=.l none 0 ([]:List Ge)) ln_
    obtain rfl:=sm m
    replace o:=oi o
    obtain rfl:=sm o
    refine resV1 r (rdA r u138_ r ti138 r (b.bk 1 r)) ?_
    exact pok (⟨none,0,r,(b.ad [0] [0,1])⟩)
   replace E:=nt E
   refine wIfF (cb E) (wk ?_)
   exact D _ _ ⟨⟨r,r,r,r,y⟩,(b.dp [1]),sm m⟩
  rw [decide_eq_false H]
  refine sNo r (sNo r (s (xPkFB r r) (n (wIfF r (wk ?_)))))
  exact D _ _ ⟨⟨r,r,r,r,y⟩,(b.dp [0]),sm m⟩
 clear b
 rintro f w ⟨hf,b,I⟩
 obtain ⟨aq,rfl⟩:=has_updL _ _ hf
 clear hf
 subst I
 replace o:=gi o
 refine q (q (g (s (mp r) (s (xn r) (s (f102_3 r) (s (l37 r (b.bk 0 r) r) (s (xEqlD r r) (s (xMvB r) ?_))))))))
 rcases iv o with ⟨B,o⟩|⟨B,o⟩
 ·rw [decide_eq_true B]
  refine sGo r (s (mp r) ?_)
  obtain ⟨J,K,o⟩:=bs o
  refine sGo r ?_
  have hc:=(sp_r03_is fu) (b.pr [0] [1] [0] r)  K
  refine sc (ec cal62 r) hc ?_
  rintro _ a5 ⟨rfl,v⟩
  replace b:=b.cl [0] [1] r v r
  try dsimp only [pick,nth,ca,na] at b
  refine s (xPkTB r r) (n ?_)
  rcases iv o with ⟨x,o⟩|⟨x,o⟩
  ·refine wIfT (cb x) (q (g (s (mp r) (s (xn r) (s (f102_1 r) (s (l3 r (b.bk 0 r) r) (s (xAddW r r) (s (xn r) (s (f102_1 r) (sTs (tb b 0 [V (wr (c.at_+1))] r ti3 r r r r r (show _=#[Z t c.l u,V (wr (c.at_+1)),V c.line,V c.e] from r)) ?_))))))))))
   intro a6 b
   try dsimp only [List.set] at b
   refine n (q (g (s (mp r) (s (mi r) (s (xAddW r r) ?_)))))
   obtain ⟨⟨a,L⟩,M,o⟩:=bs o
   replace o:=pi o
   have hc:=H_r03_expression (b.pr [0] [1] [1] r)  M
   refine sc (ec cal112 r) hc ?_
   rintro _ a7 ⟨h,j,rfl,v⟩
   replace b:=b.cl [0] [1] r v r
   try dsimp only [pick,nth,ca,na] at b
   refine sTo (aNewB b (mAlloc ti138)) ?_
   rintro _ a8 ⟨a9,rfl,b⟩
   refine sTs (tb b 0 [V a.Op,V a.Number,V a.Var,T a.Name,T a.Field,Z h a.Args j] r ti138 r r r r r (show _=#[V a.Op,V a.Number,V a.Var,T a.Name,T a.Field,Z h a.Args j] from r)) ?_
   intro aa b
   try dsimp only [List.set] at b
   refine n (q (g (s (mp r) ?_)))
   obtain ⟨N,Q,o⟩:=bs o
   have hc:=(sp_r03_take fu) (b.pr [1] [0,2] [1] r)  Q
   refine sc (ec cal64 r) hc ?_
   rintro _ ab ⟨rfl,v⟩
   replace b:=b.cl [1] [0,2] r v r
   try dsimp only [pick,nth,ca,na] at b
   refine n (q (g (s (xMvT r) (s (xLoadS [V a.Op,V a.Number,V a.Var,T a.Name,T a.Field,Z h a.Args j] u138_ r ti138 r r (Cells.part (b.bk 1 r).cells (o2:=0) r)) (sTo (aRowB b [[V a.Op,V a.Number,V a.Var,T a.Name,T a.Field,Z h a.Args j]] ([a]:List Ge) (bs109_1_a r) r r (by decide) ⟨(GExpr.inn ⟨h,j,r,(b.dl 1 r)⟩),y⟩) ?_)))))
   rintro _ ac ⟨C,rfl,b⟩
   refine s (bd138_0_3_5 r r r) (sTs (tb b 3 [V 3,V 0,V 0,T p,T be,.slice (ad C) ([a]:List Ge).length 1] r ti138 r r r r r (show _=#[V 3,V 0,V 0,T p,T be,.slice (ad C) ([a]:List Ge).length 1] from r)) ?_)
   intro ae b
   try dsimp only [List.set] at b
   refine n (wRt ?_)
   replace b:=b.frz 0 0 r r
   try dsimp only [List.eraseIdx] at b
   obtain rfl:=sm o
   refine resV1 r (rdA r u138_ r ti138 r (b.bk 2 r)) ?_
   exact pok (⟨(ad C),1,r,(b.ad [0] [0,1])⟩)
  replace x:=nt x
  refine wIfF (cb x) (wk (q (g (s (xMvT r) (s (bd138_0_3 r r) (sTs (tb b 1 [V 1,V 0,V 0,T p,T be,sn] r ti138 r r r r r (show _=#[V 1,V 0,V 0,T p,T be,sn] from r)) ?_))))))
  intro af b
  try dsimp only [List.set] at b
  refine n (wRt ?_)
  replace b:=b.dadd (d:=.l none 0 ([]:List Ge)) ln_
  obtain rfl:=sm o
  refine resV1 r (rdA r u138_ r ti138 r (b.bk 1 r)) ?_
  exact pok (⟨none,0,r,(b.ad [0] [0,2])⟩)
 rw [decide_eq_false B]
 refine sNo r (sNo r (s (xPkFB r r) (n (wIfF r (wk (q (g (s (xMvT r) (s (bd138_0_3 r r) (sTs (tb b 1 [V 1,V 0,V 0,T p,T be,sn] r ti138 r r r r r (show _=#[V 1,V 0,V 0,T p,T be,sn] from r)) ?_))))))))))
 intro ag b
 try dsimp only [List.set] at b
 refine n (wRt ?_)
 replace b:=b.dadd (d:=.l none 0 ([]:List Ge)) ln_
 obtain rfl:=sm o
 refine resV1 r (rdA r u138_ r ti138 r (b.bk 1 r)) ?_
 exact pok (⟨none,0,r,(b.arr [0] r)⟩)
theorem sps_r03_expression (fu:Nat):Ct_r03_expression (m_r03_expression fu)∧Ct_r03_unary (m_r03_unary fu)∧Ct_r03_target (m_r03_target fu):=by
 induction fu with
 | zero=>exact ⟨by intro a b;intros;exact nn (by assumption),by intro a b;intros;exact nn (by assumption),by intro a b;intros;exact nn (by assumption)⟩
 | succ fu ih=>exact ⟨wk_r03_expression fu (m_r03_expression fu) (m_r03_unary fu) (m_r03_target fu) ih.1 ih.2.1 ih.2.2,wk_r03_unary fu (m_r03_expression fu) (m_r03_unary fu) (m_r03_target fu) ih.1 ih.2.1 ih.2.2,wk_r03_target fu (m_r03_expression fu) (m_r03_unary fu) (m_r03_target fu) ih.1 ih.2.1 ih.2.2⟩
theorem sp_r03_expression (fu:Nat):Ct_r03_expression (m_r03_expression fu):=(sps_r03_expression fu).1
theorem sp_r03_target (fu:Nat):Ct_r03_target (m_r03_target fu):=(sps_r03_expression fu).2.2
def Ct_r03_arguments (m:GState→Option ((List Ge) × GState)):Prop:=∀ {k:World} {p:Nat→Prop} {i:GState} {j:Nat} {a:Option Addr} {b:Nat} {R:(List Ge) × GState},Pre k p [.box j 102 #[Z a i.l b,V i.at_,V i.line,V i.e]] [.l a b i.l]→m i=some R→
 Calls Try.prog 127 #[Pt j] k (Ret fun v w=>pel R fun o c=>∃ (d:OA)(f:Nat)(h:LV),v=Z d o f∧Bx k w p (Gof [.box j 102 #[Z a i.l b,V i.at_,V i.line,V i.e]]) [O k.heap.size d f 138 Ge h,.box j 102 #[Z a c.l b,V c.at_,V c.line,V c.e]] [.els h o,.l a b c.l])
def m_r03_arguments_L1 (fu:Nat):Nat→(List GToken)→Int→Int→Int→(List Ge)→Option (Ld (List GToken × Int × Int × Int × List Ge) ((List Ge) × GState))
 | 0,_,_,_,_,_=>none
 | k+1,b,c,d,a,h=>
 if a=0 then
  (m_r03_is fu (⟨b,c,d,a⟩:GState) 0 (⟨#[44]⟩:BA)).bind fun i=>
  if i=true then
   (m_r03_expression fu (⟨b,(wr (c+1)),d,a⟩:GState) 1 0).bind fun o=>
   pel o fun j f=>
   (app h ([j]:List Ge)).bind fun m=>
   m_r03_arguments_L1 fu k f.l f.at_ f.line f.e m
  else
   some (.go (b,c,d,a,h))
 else
  some (.go (b,c,d,a,h))
def m_r03_arguments_J0 (fu:Nat)(a:GState):Option (Ld (List Ge × List GToken × Int × Int × Int) ((List Ge) × GState)):=
 if a.e=0 then
  (m_r03_is fu a 0 (⟨#[41]⟩:BA)).bind fun j=>
  if (!j)=true then
   (m_r03_expression fu a 1 0).bind fun p=>
   pel p fun k b=>
   (app ([]:List Ge) ([k]:List Ge)).bind fun m=>
   (m_r03_arguments_L1 fu fu b.l b.at_ b.line b.e m).bind fun p=>p.el (fun p=>
   pel p fun c p=>pel p fun d p=>pel p fun f p=>pel p fun h i=>
   some (.go (i,c,d,f,h))
   ) (fun o=>some (.out o))
  else
   some (.go (([]:List Ge),a.l,a.at_,a.line,a.e))
 else
  some (.go (([]:List Ge),a.l,a.at_,a.line,a.e))
def m_r03_arguments (fu:Nat)(i:GState):Option ((List Ge) × GState):=
 (m_r03_take fu i (⟨#[40]⟩:BA)).bind fun b=>
 (m_r03_arguments_J0 fu b).bind fun j=>j.el (fun j=>
 pel j fun c j=>pel j fun d j=>pel j fun e j=>pel j fun f h=>
 (m_r03_take fu (⟨d,e,f,h⟩:GState) (⟨#[41]⟩:BA)).bind fun a=>
 some (c,a)
 ) (fun o=>some o)
theorem sp_r03_arguments (fu:Nat):Ct_r03_arguments (m_r03_arguments fu):=by
 intro w0 aR x0 K v x R hP J
 unfold m_r03_arguments at J
 have c:=hP.bx
 clear hP
 generalize hG:Gof _=G at c ⊢
 refine cf Try.func127 r ?_
 refine wCut [(0,Pt K)] ⟨r,y⟩ fun aS=>?_
 refine q (g (s (xAsS r) (n (q (g (s (xAsS r) (n (q (g (s (mp r) ?_))))))))))
 obtain ⟨A,h1,J⟩:=bs J
 have hc:=(sp_r03_take fu) (c.pr [0] [] [0] r)  h1
 refine sc (ec cal64 r) hc ?_
 rintro _ w1 ⟨rfl,U⟩
 replace c:=c.cl [0] [] r U r
 try dsimp only [pick,nth,ca,na] at c
 refine n (q ?_)
 replace c:=c.owL Ge 138
 obtain ⟨Y3,b,J⟩:=bs J
 refine wJd (fun f w=>∃ (N:List Ge) (E:OA)(F:Nat)(H:LV)(Q:List GToken) (W:Int)(X:Int)(Y:Int),Has f [(0,Pt K),(3,Z E N F)]∧Bx w0 w aR G [O w0.heap.size E F 138 Ge H,.box K 102 #[Z v Q x,V W,V X,V Y]] [.l v x Q,.els H N]∧Ld.go (N,Q,W,X,Y)=Y3) (fun J3 a2=>?_) ?_
 ·unfold m_r03_arguments_J0 at b
  refine q (g (s (mp r) (s (xn r) (s (f102_3 r) (s (l37 r (c.bk 1 r) r) (s (xEqlD r r) (s (xMvB r) ?_)))))))
  rcases iv b with ⟨h4,b⟩|⟨h4,b⟩
  ·rw [decide_eq_true h4]
   refine sGo r (s (mp r) ?_)
   obtain ⟨aq,h5,b⟩:=bs b
   refine sGo r ?_
   have hc:=(sp_r03_is fu) (c.pr [1] [0] [1] r)  h5
   refine sc (ec cal62 r) hc ?_
   rintro _ w5 ⟨rfl,U⟩
   replace c:=c.cl [1] [0] r U r
   try dsimp only [pick,nth,ca,na] at c
   refine sGo r (s (xNot r) (s (xPkTB r r) (n ?_)))
   rcases iv b with ⟨h6,b⟩|⟨h6,b⟩
   ·refine wIfT (cb h6) (q (g (s (xMvS r) (s (mp r) ?_))))
    obtain ⟨⟨B,S⟩,h7,b⟩:=bs b
    replace b:=pi b
    have hc:=(sp_r03_expression fu) (c.pr [0] [1] [2] r)  h7
    refine sc (ec cal112 r) hc ?_
    rintro _ w7 ⟨L,M,rfl,U⟩
    replace c:=c.cl [0] [1] r U r
    try dsimp only [pick,nth,ca,na] at c
    refine sTo (aRowB c [[V B.Op,V B.Number,V B.Var,T B.Name,T B.Field,Z L B.Args M]] ([B]:List Ge) (bs109_1_a r) r r (by decide) ⟨(GExpr.inn ⟨L,M,r,(c.dl 0 r)⟩),y⟩) ?_
    rintro _ w8 ⟨b8,rfl,c⟩
    obtain ⟨r9,ae,b⟩:=bs b
    refine sTo (aAppB c 2 4 r r u109_ ti138 r (by decide) (by decide) (Nat.le_refl _) r r (c.ysO 0 0 r r) ae) ?_
    rintro _ w9 ⟨A9,C9,Q9,rfl,c⟩
    refine s (xAsS r) (n ?_)
    obtain ⟨a7,a,b⟩:=bs b
    refine wJd (fun f w=>∃ (d:List GToken) (o:Int)(t:Int)(u:Int)(p:List Ge) (h:OA)(j:Nat)(m:LV),Has f [(0,Pt K),(3,Z h p j)]∧Bx w0 w aR G [.box K 102 #[Z v d x,V o,V t,V u],O w0.heap.size h j 138 Ge m] [.l v x d,.els m p]∧Ld.go (d,o,t,u,p)=a7) (fun aB a1=>?_) ?_
    ·refine wBk (wLoopGd (fun aT f w=>∃ (d:List GToken) (o:Int)(t:Int)(u:Int)(p:List Ge) (h:OA)(j:Nat)(m:LV),Has f [(0,Pt K),(3,Z h p j)]∧Bx w0 w aR G [.box K 102 #[Z v d x,V o,V t,V u],O w0.heap.size h j 138 Ge m] [.l v x d,.els m p]∧m_r03_arguments_L1 fu aT d o t u p=some a7) fu ⟨S.l,S.at_,S.line,S.e,r9,A9,C9,Q9,⟨r,r,y⟩,(c.ad [1,2] [2,4]),a⟩ ?_)
     clear c a
     rintro a3 f w ⟨d,o,t,u,p,h,j,m,hf,c,a⟩ aC a8
     obtain ⟨aS,rfl⟩:=has_updL _ _ hf
     clear hf
     cases a3 with
     | zero=>exact nn a
     | succ a3=>
      rw [m_r03_arguments_L1] at a
      refine q (q (g (s (mp r) (s (xn r) (s (f102_3 r) (s (l37 r (c.bk 0 r) r) (s (xEqlD r r) (s (xMvB r) ?_))))))))
      rcases iv a with ⟨a4,a⟩|⟨a4,a⟩
      ·rw [decide_eq_true a4]
       refine sGo r (s (mp r) ?_)
       obtain ⟨af,ag,a⟩:=bs a
       refine sGo r ?_
       have hc:=(sp_r03_is fu) (c.pr [0] [1] [0] r)  ag
       refine sc (ec cal62 r) hc ?_
       rintro _ aD ⟨rfl,U⟩
       replace c:=c.cl [0] [1] r U r
       try dsimp only [pick,nth,ca,na] at c
       refine s (xPkTB r r) (n ?_)
       rcases iv a with ⟨a0,a⟩|⟨a0,a⟩
       ·refine wIfT (cb a0) (wk (wBk (q (g (s (mp r) (s (xn r) (s (f102_1 r) (s (l3 r (c.bk 0 r) r) (s (xAddW r r) (s (xn r) (s (f102_1 r) (sTs (tb c 0 [V (wr (o+1))] r ti3 r r r r r (show _=#[Z v d x,V (wr (o+1)),V t,V u] from r)) ?_))))))))))))
        intro aE c
        try dsimp only [List.set] at c
        refine n (g (s (xMvS r) (s (mp r) ?_)))
        obtain ⟨⟨z,I⟩,ah,a⟩:=bs a
        replace a:=pi a
        have hc:=(sp_r03_expression fu) (c.pr [0] [1] [1] r)  ah
        refine sc (ec cal112 r) hc ?_
        rintro _ aF ⟨C,D,rfl,U⟩
        replace c:=c.cl [0] [1] r U r
        try dsimp only [pick,nth,ca,na] at c
        refine sTo (aRowB c [[V z.Op,V z.Number,V z.Var,T z.Name,T z.Field,Z C z.Args D]] ([z]:List Ge) (bs109_1_a r) r r (by decide) ⟨(GExpr.inn ⟨C,D,r,(c.dl 0 r)⟩),y⟩) ?_
        rintro _ aG ⟨aH,rfl,c⟩
        obtain ⟨ai,a9,a⟩:=bs a
        refine sTo (aAppB c 2 5 r r u109_ ti138 r (by decide) (by decide) (Nat.le_refl _) r r (c.ysO 0 0 r r) a9) ?_
        rintro _ aI ⟨aj,ak,al,rfl,c⟩
        refine s (xAsS r) (n ?_)
        exact a8 a3 _ _ (Nat.lt_succ_self _) ⟨I.l,I.at_,I.line,I.e,ai,aj,ak,al,⟨r,r,y⟩,(c.ad [1,2] [2,5]),a⟩
       replace a0:=nt a0
       refine wIfF (cb a0) (wEx ?_)
       exact a1 _ _ ⟨d,o,t,u,p,h,j,m,⟨r,r,y⟩,(c.dp [1,2]),sm a⟩
      rw [decide_eq_false a4]
      refine sNo r (sNo r (s (xPkFB r r) (n (wIfF r (wEx ?_)))))
      exact a1 _ _ ⟨d,o,t,u,p,h,j,m,⟨r,r,y⟩,c,sm a⟩
    clear c
    rintro f w ⟨d,o,t,u,p,h,j,m,hf,c,aa⟩
    obtain ⟨aS,rfl⟩:=has_updL _ _ hf
    clear hf
    subst aa
    replace b:=gi b
    replace b:=pi b
    replace b:=pi b
    replace b:=pi b
    replace b:=pi b
    exact a2 _ _ ⟨p,h,j,m,d,o,t,u,⟨r,r,y⟩,(c.arr [1,0] r),sm b⟩
   replace h6:=nt h6
   refine wIfF (cb h6) (wk ?_)
   exact a2 _ _ ⟨([]:List Ge),none,0,[],A.l,A.at_,A.line,A.e,⟨r,r,y⟩,(c.ad [1,0] [2,1]),sm b⟩
  rw [decide_eq_false h4]
  refine sNo r (sNo r (sNo r (s (xPkFB r r) (n (wIfF r (wk ?_))))))
  exact a2 _ _ ⟨([]:List Ge),none,0,[],A.l,A.at_,A.line,A.e,⟨r,r,y⟩,(c.dp [1,0]),sm b⟩
 clear c
 rintro f w ⟨N,E,F,H,Q,W,X,Y,hf,c,am⟩
 obtain ⟨aS,rfl⟩:=has_updL _ _ hf
 clear hf
 subst am
 replace J:=gi J
 replace J:=pi J
 replace J:=pi J
 replace J:=pi J
 replace J:=pi J
 refine q (g (s (mp r) ?_))
 obtain ⟨an,ao,J⟩:=bs J
 have hc:=(sp_r03_take fu) (c.pr [1] [0] [0] r)  ao
 refine sc (ec cal64 r) hc ?_
 rintro _ aJ ⟨rfl,U⟩
 replace c:=c.cl [1] [0] r U r
 try dsimp only [pick,nth,ca,na] at c
 refine n (q (g (s (xMvS r) (s (xAsS r) (n (wRt ?_))))))
 obtain rfl:=sm J
 refine resV1 r (rdT r) ?_
 exact pok (⟨E,F,H,r,(c.ad [1,0] [2,0])⟩)
def Ct_r03_typed (m:GState→Gs→Option (GState × Gs)):Prop:=∀ {B:World} {C:Nat→Prop} {x:GState} {b:Gs} {z:Nat} {c:Option Addr} {d:Nat} {A:Nat} {f:Option Addr} {h:Nat} {i:Option Addr} {j:Nat} {k:Option Addr} {o:Nat} {p:Option Addr} {t:Nat} {R:GState × Gs},Pre B C [.box z 102 #[Z c x.l d,V x.at_,V x.line,V x.e],.box A 111 #[V b.Kind,V b.Line,V b.Id,T b.Name,T b.Type_,V b.Len,V b.Var,Z f b.Target h,T b.Func,V b.Callee,Z i b.Args j,Z k b.Body o,Z p b.Else t]] [.l c d x.l,.l f h b.Target,.l i j b.Args,.l k o b.Body,.l p t b.Else]→m x b=some R→
 Calls Try.prog 111 #[Pt z,Pt A] B (Ret fun v w=>pel R fun u a=>v=.tuple #[]∧Bx B w C (Gof [.box z 102 #[Z c x.l d,V x.at_,V x.line,V x.e],.box A 111 #[V b.Kind,V b.Line,V b.Id,T b.Name,T b.Type_,V b.Len,V b.Var,Z f b.Target h,T b.Func,V b.Callee,Z i b.Args j,Z k b.Body o,Z p b.Else t]]) [.box z 102 #[Z c u.l d,V u.at_,V u.line,V u.e],.box A 111 #[V a.Kind,V a.Line,V a.Id,T a.Name,T a.Type_,V a.Len,V a.Var,Z f a.Target h,T a.Func,V a.Callee,Z i a.Args j,Z k a.Body o,Z p a.Else t]] [.l c d u.l,.l f h a.Target,.l i j a.Args,.l k o a.Body,.l p t a.Else])
def m_r03_typed_J0 (fu:Nat)(a:GToken):Option (Ld (Bool) (GState × Gs)):=
 if a.Number < 1 then
  some (.go true)
 else
  some (.go (decide (8 < a.Number)))
def m_r03_typed (fu:Nat)(b:GState) (a:Gs):Option (GState × Gs):=
 if b.e≠0 then
  some (b,a)
 else
  (m_r03_is fu b 0 (⟨#[105,110,116]⟩:BA)).bind fun k=>
  if (!k)=true then
   (m_r03_name fu b).bind fun u=>
   pel u fun m p=>
   some (p,(⟨a.Kind,a.Line,a.Id,a.Name,m,a.Len,a.Var,a.Target,a.Func,a.Callee,a.Args,a.Body,a.Else⟩:Gs))
  else
   (m_r03_is fu (⟨b.l,(wr (b.at_+1)),b.line,b.e⟩:GState) 0 (⟨#[91]⟩:BA)).bind fun t=>
   if (!t)=true then
    some ((⟨b.l,(wr (b.at_+1)),b.line,b.e⟩:GState),a)
   else
    (m_r03_kind fu (⟨b.l,(wr ((wr (b.at_+1))+1)),b.line,b.e⟩:GState) 0 2).bind fun c=>
    if (!c)=true then
     (m_r03_fail fu (⟨b.l,(wr ((wr (b.at_+1))+1)),b.line,b.e⟩:GState) 7).bind fun d=>
     some (d,a)
    else
     (ix b.l (wr ((wr (b.at_+1))+1))).bind fun f=>
     (m_r03_typed_J0 fu f).bind fun u=>u.el (fun h=>
     if h=true then
      (m_r03_fail fu (⟨b.l,(wr ((wr (b.at_+1))+1)),b.line,b.e⟩:GState) 5).bind fun i=>
      some (i,(⟨a.Kind,a.Line,a.Id,a.Name,a.Type_,f.Number,a.Var,a.Target,a.Func,a.Callee,a.Args,a.Body,a.Else⟩:Gs))
     else
      (m_r03_take fu (⟨b.l,(wr ((wr ((wr (b.at_+1))+1))+1)),b.line,b.e⟩:GState) (⟨#[93]⟩:BA)).bind fun j=>
      some (j,(⟨a.Kind,a.Line,a.Id,a.Name,a.Type_,f.Number,a.Var,a.Target,a.Func,a.Callee,a.Args,a.Body,a.Else⟩:Gs))
     ) (fun o=>some o)
theorem sp_r03_typed (fu:Nat):Ct_r03_typed (m_r03_typed fu):=by
 intro w0 az m b K d j N o p t u v x z A R hP c
 unfold m_r03_typed at c
 have a:=hP.bx
 clear hP
 generalize hG:Gof _=G at a ⊢
 refine cf Try.func111 r ?_
 refine wCut [(0,Pt K),(1,Pt N)] ⟨r,r,y⟩ fun aA=>?_
 refine q (q (g (s (mp r) (s (xn r) (s (f102_3 r) (s (l37 r (a.bk 0 r) r) (s (xNeqD r r) (n ?_))))))))
 rcases iv c with ⟨Y,c⟩|⟨Y,c⟩
 ·refine wIfT (bt Y) (wRt ?_)
  obtain rfl:=sm c
  refine res0 (P:=Try.prog) (fn:=Try.f111) r ?_
  exact pok (⟨r,a⟩)
 refine wIfF (bf Y) (wk (q (q (g (s (mp r) ?_)))))
 obtain ⟨aa,h2,c⟩:=bs c
 have hc:=(sp_r03_is fu) (a.pr [0] [1] [0] r)  h2
 refine sc (ec cal62 r) hc ?_
 rintro _ w2 ⟨rfl,H⟩
 replace a:=a.cl [0] [1] r H r
 try dsimp only [pick,nth,ca,na] at a
 refine s (xNot r) (n ?_)
 rcases iv c with ⟨S,c⟩|⟨S,c⟩
 ·refine wIfT (cb S) (q (g (s (mp r) (s (mp r) ?_))))
  obtain ⟨⟨L,ab⟩,h4,c⟩:=bs c
  replace c:=pi c
  have hc:=(sp_r03_name fu) (a.pr [0] [1] [1] r)  h4
  refine sc (ec cal63 r) hc ?_
  rintro _ w4 ⟨rfl,H⟩
  replace a:=a.cl [0] [1] r H r
  try dsimp only [pick,nth,ca,na] at a
  refine s (xn r) (s (f111_4 r) (sTs (tb a 1 [T L] r ti9 r r r r r (show _=#[V b.Kind,V b.Line,V b.Id,T b.Name,T L,V b.Len,V b.Var,Z o b.Target p,T b.Func,V b.Callee,Z t b.Args u,Z v b.Body x,Z z b.Else A] from r)) ?_))
  intro w5 a
  try dsimp only [List.set] at a
  refine n (wRt ?_)
  obtain rfl:=sm c
  refine res0 (P:=Try.prog) (fn:=Try.f111) r ?_
  exact pok (⟨r,(a.dp [0,3,4,5,6])⟩)
 replace S:=nt S
 refine wIfF (cb S) (wk (q (g (s (mp r) (s (xn r) (s (f102_1 r) (s (l3 r (a.bk 0 r) r) (s (xAddW r r) (s (xn r) (s (f102_1 r) (sTs (tb a 0 [V (wr (m.at_+1))] r ti3 r r r r r (show _=#[Z d m.l j,V (wr (m.at_+1)),V m.line,V m.e] from r)) ?_)))))))))))
 intro w6 a
 try dsimp only [List.set] at a
 refine n (q (q (g (s (mp r) ?_))))
 obtain ⟨ac,h7,c⟩:=bs c
 have hc:=(sp_r03_is fu) (a.pr [0] [1] [1] r)  h7
 refine sc (ec cal62 r) hc ?_
 rintro _ w7 ⟨rfl,H⟩
 replace a:=a.cl [0] [1] r H r
 try dsimp only [pick,nth,ca,na] at a
 refine s (xNot r) (n ?_)
 rcases iv c with ⟨U,c⟩|⟨U,c⟩
 ·refine wIfT (cb U) (wRt ?_)
  obtain rfl:=sm c
  refine res0 (P:=Try.prog) (fn:=Try.f111) r ?_
  exact pok (⟨r,(a.dp [2,3,4,5,6])⟩)
 replace U:=nt U
 refine wIfF (cb U) (wk (q (g (s (mp r) (s (xn r) (s (f102_1 r) (s (l3 r (a.bk 0 r) r) (s (xAddW r r) (s (xn r) (s (f102_1 r) (sTs (tb a 0 [V (wr ((wr (m.at_+1))+1))] r ti3 r r r r r (show _=#[Z d m.l j,V (wr ((wr (m.at_+1))+1)),V m.line,V m.e] from r)) ?_)))))))))))
 intro w9 a
 try dsimp only [List.set] at a
 refine n (q (q (g (s (mp r) ?_))))
 obtain ⟨a0,a1,c⟩:=bs c
 have hc:=(sp_r03_kind fu) (a.pr [0] [1] [2] r)  a1
 refine sc (ec cal67 r) hc ?_
 rintro _ ai ⟨rfl,H⟩
 replace a:=a.cl [0] [1] r H r
 try dsimp only [pick,nth,ca,na] at a
 refine s (xNot r) (n ?_)
 rcases iv c with ⟨I,c⟩|⟨I,c⟩
 ·refine wIfT (cb I) (q (g (s (mp r) ?_)))
  obtain ⟨a2,a3,c⟩:=bs c
  have hc:=(sp_r03_fail fu) (a.pr [0] [1] [3] r)  a3
  refine sc (ec cal68 r) hc ?_
  rintro _ aj ⟨rfl,H⟩
  replace a:=a.cl [0] [1] r H r
  try dsimp only [pick,nth,ca,na] at a
  refine n (wRt ?_)
  obtain rfl:=sm c
  refine res0 (P:=Try.prog) (fn:=Try.f111) r ?_
  exact pok (⟨r,(a.dp [0,5,6,7,8])⟩)
 replace I:=nt I
 refine wIfF (cb I) (wk (q (wDr1 a [0] [3] [] (by kernel_rfl) ?_)))
 replace a:=a.drew
 have D:=(a.ad [0] [3])
 refine pF 0 r (mp r) D (pF 1 r (mp r) D (pF 2 r (xn r) D (pF 3 r (f102_0 r) D (uF 4 r (fun hS=>l97 r (hS.bk 0 r) r) D (pF 5 r (mp r) D (pF 6 r (xn r) D (pF 7 r (f102_1 r) D (uF 8 r (fun hS=>l3 r (hS.bk 0 r) r) D ?_))))))))
 obtain ⟨C,F,c⟩:=bs c
 obtain ⟨ak,W,F⟩:=ix_inv F
 refine pF 9 r (xIdR u97_ ti143 r r W (a.dl 3 r) F) D (pF 10 r (f143_3 r) D (tU 11 r (fun _ hS=>xLoad u3_ r r ((elF (ds:=[V C.Kind,V C.Line,T C.Text,V C.Number]) (hS.dl 0 r) F (fun _ h=>h)) 3 _ r)) (sF D) (pF 12 r (xn r) D (pF 13 r (f111_5 r) D ?_))))
 refine hO 14 (os r r (tb a 1 [V C.Number] r ti3 r r r r r (show _=#[V b.Kind,V b.Line,V b.Id,T b.Name,T b.Type_,V C.Number,V b.Var,Z o b.Target p,T b.Func,V b.Callee,Z t b.Args u,Z v b.Body x,Z z b.Else A] from r)) ?_)
 intro al a
 try dsimp only [List.set] at a
 have D:=(a.ad [0] [3])
 refine ⟨(sF D),?_⟩
 refine hD (q (q ?_))
 obtain ⟨a4,B,c⟩:=bs c
 refine wJd (fun f w=>∃ (E:Bool),Has f [(0,Pt K),(64,.bool E)]∧Bx w0 w az G [.box K 102 #[Z d m.l j,V (wr ((wr (m.at_+1))+1)),V m.line,V m.e],.box N 111 #[V b.Kind,V b.Line,V b.Id,T b.Name,T b.Type_,V C.Number,V b.Var,Z o b.Target p,T b.Func,V b.Callee,Z t b.Args u,Z v b.Body x,Z z b.Else A]] [.l d j m.l,.l o p b.Target,.l t u b.Args,.l v x b.Body,.l z A b.Else]∧Ld.go E=a4) (fun am M=>?_) ?_
 ·unfold m_r03_typed_J0 at B
  refine g (s (mp r) (s (xn r) (s (f111_5 r) (s (l3 r (a.bk 1 r) r) (s (xLss r r) (s (xMvB r) ?_))))))
  rcases iv B with ⟨Q,B⟩|⟨Q,B⟩
  ·rw [decide_eq_true Q]
   refine sNo r (sNo r (sNo r (sNo r (sNo r (s (xPkTB r r) (n ?_))))))
   exact M _ _ ⟨true,⟨r,r,y⟩,(a.dp [3,4,5,6,7]),sm B⟩
  rw [decide_eq_false Q]
  refine sGo r (s (mp r) (sGo r (s (xn r) (sGo r (s (f111_5 r) (sGo r (s (l3 r (a.bk 1 r) r) (sGo r (s (xGtr r r) (s (xPkFB r r) (n ?_)))))))))))
  exact M _ _ ⟨(decide (8 < C.Number)),⟨r,r,y⟩,(a.dp [3,4,5,6,7]),sm B⟩
 clear a
 rintro f w ⟨E,hf,a,X⟩
 obtain ⟨aA,rfl⟩:=has_updL _ _ hf
 clear hf
 subst X
 replace c:=gi c
 rcases iv c with ⟨J,c⟩|⟨J,c⟩
 ·refine wIfT (cb J) (q (g (s (mp r) ?_)))
  obtain ⟨a5,a6,c⟩:=bs c
  have hc:=(sp_r03_fail fu) (a.pr [0] [1] [0] r)  a6
  refine sc (ec cal68 r) hc ?_
  rintro _ an ⟨rfl,H⟩
  replace a:=a.cl [0] [1] r H r
  try dsimp only [pick,nth,ca,na] at a
  refine n (wRt ?_)
  obtain rfl:=sm c
  refine res0 (P:=Try.prog) (fn:=Try.f111) r ?_
  exact pok (⟨r,(a.dp [0,2,3,4,5])⟩)
 replace J:=nt J
 refine wIfF (cb J) (wk (q (g (s (mp r) (s (xn r) (s (f102_1 r) (s (l3 r (a.bk 0 r) r) (s (xAddW r r) (s (xn r) (s (f102_1 r) (sTs (tb a 0 [V (wr ((wr ((wr (m.at_+1))+1))+1))] r ti3 r r r r r (show _=#[Z d m.l j,V (wr ((wr ((wr (m.at_+1))+1))+1)),V m.line,V m.e] from r)) ?_)))))))))))
 intro ao a
 try dsimp only [List.set] at a
 refine n (g (s (mp r) ?_))
 obtain ⟨a7,a8,c⟩:=bs c
 have hc:=(sp_r03_take fu) (a.pr [0] [1] [0] r)  a8
 refine sc (ec cal64 r) hc ?_
 rintro _ ap ⟨rfl,H⟩
 replace a:=a.cl [0] [1] r H r
 try dsimp only [pick,nth,ca,na] at a
 refine n ?_
 obtain rfl:=sm c
 refine res0 (P:=Try.prog) (fn:=Try.f111) r ?_
 exact pok (⟨r,(a.dp [0,2,3,4,5])⟩)
def Ct_r03_value (m:GState→Gs→Bool→Option (GState × Gs)):Prop:=∀ {D:World} {F:Nat→Prop} {A:GState} {b:Gs} {E:Bool} {B:Nat} {c:Option Addr} {d:Nat} {C:Nat} {f:Option Addr} {h:Nat} {p:Option Addr} {t:Nat} {i:Option Addr} {j:Nat} {k:Option Addr} {o:Nat} {R:GState × Gs},Pre D F [.box B 102 #[Z c A.l d,V A.at_,V A.line,V A.e],.box C 111 #[V b.Kind,V b.Line,V b.Id,T b.Name,T b.Type_,V b.Len,V b.Var,Z f b.Target h,T b.Func,V b.Callee,Z p b.Args t,Z i b.Body j,Z k b.Else o]] [.l c d A.l,.l f h b.Target,.l p t b.Args,.l i j b.Body,.l k o b.Else]→m A b E=some R→
 Calls Try.prog 113 #[Pt B,Pt C,.bool E] D (Ret fun v w=>pel R fun z a=>∃ (u:OA)(x:Nat),v=.tuple #[]∧Bx D w F (Gof [.box B 102 #[Z c A.l d,V A.at_,V A.line,V A.e],.box C 111 #[V b.Kind,V b.Line,V b.Id,T b.Name,T b.Type_,V b.Len,V b.Var,Z f b.Target h,T b.Func,V b.Callee,Z p b.Args t,Z i b.Body j,Z k b.Else o]]) [.box B 102 #[Z c z.l d,V z.at_,V z.line,V z.e],.box C 111 #[V a.Kind,V a.Line,V a.Id,T a.Name,T a.Type_,V a.Len,V a.Var,Z f a.Target h,T a.Func,V a.Callee,Z u a.Args x,Z i a.Body j,Z k a.Else o]] [.l c d z.l,.l f h a.Target,.l u x a.Args,.l i j a.Body,.l k o a.Else])
def m_r03_value_J0 (fu:Nat)(i:GState) (a:Gs) (j:Bool):Option (Ld (Unit) (GState × Gs)):=
 if i.e=0 then
  if j=true then
   (m_r03_call fu i).bind fun b=>
   if b=true then
    (m_r03_name fu i).bind fun k=>
    pel k fun c d=>
    (m_r03_arguments fu d).bind fun k=>
    pel k fun f h=>
    some (.out (h,(⟨a.Kind,a.Line,a.Id,a.Name,a.Type_,a.Len,a.Var,a.Target,c,a.Callee,f,a.Body,a.Else⟩:Gs)))
   else
    some (.go ())
  else
   some (.go ())
 else
  some (.go ())
def m_r03_value (fu:Nat)(d:GState) (a:Gs) (e:Bool):Option (GState × Gs):=
 (m_r03_value_J0 fu d a e).bind fun f=>f.el (fun _=>
 (m_r03_expression fu d 1 0).bind fun f=>
 pel f fun b c=>
 some (c,(⟨a.Kind,a.Line,a.Id,a.Name,a.Type_,a.Len,a.Var,a.Target,a.Func,a.Callee,([b]:List Ge),a.Body,a.Else⟩:Gs))
 ) (fun o=>some o)
theorem sp_r03_value (fu:Nat):Ct_r03_value (m_r03_value fu):=by
 intro w0 am H a x2 I C D J h j A B m o p t R hP E
 unfold m_r03_value at E
 have c:=hP.bx
 clear hP
 generalize hG:Gof _=G at c ⊢
 refine cf Try.func113 r ?_
 refine wCut [(0,Pt I),(1,Pt J),(2,.bool x2)] ⟨r,r,r,y⟩ fun an=>?_
 refine q ?_
 obtain ⟨Y1,b,E⟩:=bs E
 refine wJd (fun f w=>Has f [(0,Pt I),(1,Pt J)]∧Bx w0 w am G [.box I 102 #[Z C H.l D,V H.at_,V H.line,V H.e],.box J 111 #[V a.Kind,V a.Line,V a.Id,T a.Name,T a.Type_,V a.Len,V a.Var,Z h a.Target j,T a.Func,V a.Callee,Z A a.Args B,Z m a.Body o,Z p a.Else t]] [.l C D H.l,.l h j a.Target,.l A B a.Args,.l m o a.Body,.l p t a.Else]∧Ld.go ()=Y1) (fun J1 L=>?_) ?_
 ·unfold m_r03_value_J0 at b
  refine q (g (s (mp r) (s (xn r) (s (f102_3 r) (s (l37 r (c.bk 0 r) r) (s (xEqlD r r) (s (xMvB r) ?_)))))))
  rcases iv b with ⟨W,b⟩|⟨W,b⟩
  ·rw [decide_eq_true W]
   refine sGo r (s (xMvB r) (s (xPkTB r r) (s (xMvB r) ?_)))
   rcases iv b with ⟨Q,b⟩|⟨Q,b⟩
   ·rw [Q]
    refine sGo r (s (mp r) ?_)
    obtain ⟨a4,h4,b⟩:=bs b
    refine sGo r ?_
    have hc:=(sp_r03_call fu) (c.pr [0] [1] [0] r)  h4
    refine sc (ec cal126 r) hc ?_
    rintro _ w4 ⟨rfl,M⟩
    replace c:=c.cl [0] [1] r M r
    try dsimp only [pick,nth,ca,na] at c
    refine s (xPkTB r r) (n ?_)
    rcases iv b with ⟨S,b⟩|⟨S,b⟩
    ·refine wIfT (cb S) (q (g (s (mp r) (s (mp r) ?_))))
     obtain ⟨⟨F,a5⟩,h6,b⟩:=bs b
     replace b:=pi b
     have hc:=(sp_r03_name fu) (c.pr [0] [1] [1] r)  h6
     refine sc (ec cal63 r) hc ?_
     rintro _ w6 ⟨rfl,M⟩
     replace c:=c.cl [0] [1] r M r
     try dsimp only [pick,nth,ca,na] at c
     refine s (xn r) (s (f111_8 r) (sTs (tb c 1 [T F] r ti9 r r r r r (show _=#[V a.Kind,V a.Line,V a.Id,T a.Name,T a.Type_,V a.Len,V a.Var,Z h a.Target j,T F,V a.Callee,Z A a.Args B,Z m a.Body o,Z p a.Else t] from r)) ?_))
     intro w7 c
     try dsimp only [List.set] at c
     refine n (q (g (s (mp r) (s (mp r) ?_))))
     obtain ⟨⟨K,a6⟩,h8,b⟩:=bs b
     replace b:=pi b
     have hc:=(sp_r03_arguments fu) (c.pr [0] [1] [0] r)  h8
     refine sc (ec cal127 r) hc ?_
     rintro _ w8 ⟨u,v,U,rfl,M⟩
     have X:=c.chg.size
     replace c:=c.cl [0] [1] r M r
     try dsimp only [pick,nth,ca,na] at c
     replace c:=c.reb 0 w0.heap.size r X
     try dsimp only [List.set] at c
     refine s (xn r) (s (f111_10 r) (sTs (tb c 2 [Z u K v] r ti109 r r r r r (show _=#[V a.Kind,V a.Line,V a.Id,T a.Name,T a.Type_,V a.Len,V a.Var,Z h a.Target j,T F,V a.Callee,Z u K v,Z m a.Body o,Z p a.Else t] from r)) ?_))
     intro w9 c
     try dsimp only [List.set] at c
     refine n (wRt ?_)
     replace c:=c.frz 0 0 r r
     try dsimp only [List.eraseIdx] at c
     obtain rfl:=sm b
     replace E:=oi E
     obtain rfl:=sm E
     refine res0 (P:=Try.prog) (fn:=Try.f113) r ?_
     exact pok (⟨u,v,r,(c.dp [1,5,0,7,8])⟩)
    replace S:=nt S
    refine wIfF (cb S) (wk ?_)
    exact L _ _ ⟨⟨r,r,y⟩,(c.dp [1,2,3,4,5]),sm b⟩
   replace Q:=nt Q
   rw [Q]
   refine sNo r (sNo r (s (xPkFB r r) (n (wIfF r (wk ?_)))))
   exact L _ _ ⟨⟨r,r,y⟩,c,sm b⟩
  rw [decide_eq_false W]
  refine sNo r (s (xPkFB r r) (s (xMvB r) (sNo r (sNo r (s (xPkFB r r) (n (wIfF r (wk ?_))))))))
  exact L _ _ ⟨⟨r,r,y⟩,c,sm b⟩
 clear c
 rintro f w ⟨hf,c,Y⟩
 obtain ⟨an,rfl⟩:=has_updL _ _ hf
 clear hf
 subst Y
 replace E:=gi E
 refine g (s (mp r) (s (mp r) ?_))
 obtain ⟨⟨d,a0⟩,a1,E⟩:=bs E
 replace E:=pi E
 have hc:=(sp_r03_expression fu) (c.pr [0] [1] [0] r)  a1
 refine sc (ec cal112 r) hc ?_
 rintro _ ac ⟨x,z,rfl,M⟩
 replace c:=c.cl [0] [1] r M r
 try dsimp only [pick,nth,ca,na] at c
 refine sTo (aRowB c [[V d.Op,V d.Number,V d.Var,T d.Name,T d.Field,Z x d.Args z]] ([d]:List Ge) (bs109_1_a r) r r (by decide) ⟨(GExpr.inn ⟨x,z,r,(c.dl 0 r)⟩),y⟩) ?_
 rintro _ ae ⟨N,rfl,c⟩
 refine s (xn r) (s (f111_10 r) (sTs (tb c 2 [.slice (ad N) ([d]:List Ge).length 1] r ti109 r r r r r (show _=#[V a.Kind,V a.Line,V a.Id,T a.Name,T a.Type_,V a.Len,V a.Var,Z h a.Target j,T a.Func,V a.Callee,.slice (ad N) ([d]:List Ge).length 1,Z m a.Body o,Z p a.Else t] from r)) ?_))
 intro af c
 try dsimp only [List.set] at c
 refine n ?_
 replace c:=c.frz 0 0 r r
 try dsimp only [List.eraseIdx] at c
 obtain rfl:=sm E
 refine res0 (P:=Try.prog) (fn:=Try.f113) r ?_
 exact pok (⟨(ad N),1,r,(c.dp [2,4,0,6,7])⟩)
def Ct_r03_effect (m:GState→Gs→Option (GState × Gs)):Prop:=∀ {F:World} {G:Nat→Prop} {C:GState} {b:Gs} {D:Nat} {c:Option Addr} {d:Nat} {E:Nat} {k:Option Addr} {o:Nat} {p:Option Addr} {t:Nat} {f:Option Addr} {h:Nat} {i:Option Addr} {j:Nat} {R:GState × Gs},Pre F G [.box D 102 #[Z c C.l d,V C.at_,V C.line,V C.e],.box E 111 #[V b.Kind,V b.Line,V b.Id,T b.Name,T b.Type_,V b.Len,V b.Var,Z k b.Target o,T b.Func,V b.Callee,Z p b.Args t,Z f b.Body h,Z i b.Else j]] [.l c d C.l,.l k o b.Target,.l p t b.Args,.l f h b.Body,.l i j b.Else]→m C b=some R→
 Calls Try.prog 114 #[Pt D,Pt E] F (Ret fun v w=>pel R fun B a=>∃ (u:OA)(x:Nat)(z:OA)(A:Nat),v=.tuple #[]∧Bx F w G (Gof [.box D 102 #[Z c C.l d,V C.at_,V C.line,V C.e],.box E 111 #[V b.Kind,V b.Line,V b.Id,T b.Name,T b.Type_,V b.Len,V b.Var,Z k b.Target o,T b.Func,V b.Callee,Z p b.Args t,Z f b.Body h,Z i b.Else j]]) [.box D 102 #[Z c B.l d,V B.at_,V B.line,V B.e],.box E 111 #[V a.Kind,V a.Line,V a.Id,T a.Name,T a.Type_,V a.Len,V a.Var,Z u a.Target x,T a.Func,V a.Callee,Z z a.Args A,Z f a.Body h,Z i a.Else j]] [.l c d B.l,.l u x a.Target,.l z A a.Args,.l f h a.Body,.l i j a.Else])
def m_r03_effect (fu:Nat)(k:GState) (b:Gs):Option (GState × Gs):=
 (m_r03_call fu k).bind fun d=>
 if d=true then
  (m_r03_value fu k (⟨3,b.Line,b.Id,b.Name,b.Type_,b.Len,b.Var,b.Target,b.Func,b.Callee,b.Args,b.Body,b.Else⟩:Gs) true).bind fun l=>
  pel l fun e f=>
  some (e,f)
 else
  (m_r03_target fu k 0).bind fun l=>
  pel l fun h i=>
  (m_r03_take fu i (⟨#[61]⟩:BA)).bind fun j=>
  (m_r03_value fu j (⟨3,b.Line,b.Id,b.Name,b.Type_,b.Len,b.Var,([h]:List Ge),b.Func,b.Callee,b.Args,b.Body,b.Else⟩:Gs) true).bind fun l=>
  pel l fun c a=>
  if a.Func=(⟨#[]⟩:BA) then
   some (c,(⟨2,a.Line,a.Id,a.Name,a.Type_,a.Len,a.Var,a.Target,a.Func,a.Callee,a.Args,a.Body,a.Else⟩:Gs))
  else
   some (c,a)
theorem sp_r03_effect (fu:Nat):Ct_r03_effect (m_r03_effect fu):=by
 intro w0 ag M c I E F J w x z A m o p t R S j
 unfold m_r03_effect at j
 have b:=S.bx
 clear S
 generalize hG:Gof _=G at b ⊢
 refine cf Try.func114 r ?_
 refine wCut [(0,Pt I),(1,Pt J)] ⟨r,r,y⟩ fun ah=>?_
 refine q (g (s (mp r) (s (xn r) (s (f111_0 r) (sTs (tb b 1 [V 3] r ti3 r r r r r (show _=#[V 3,V c.Line,V c.Id,T c.Name,T c.Type_,V c.Len,V c.Var,Z w c.Target x,T c.Func,V c.Callee,Z z c.Args A,Z m c.Body o,Z p c.Else t] from r)) ?_)))))
 intro w1 b
 try dsimp only [List.set] at b
 refine n (q (q (g (s (mp r) ?_))))
 obtain ⟨U,h2,j⟩:=bs j
 have hc:=(sp_r03_call fu) (b.pr [0] [1] [0] r)  h2
 refine sc (ec cal126 r) hc ?_
 rintro _ w2 ⟨rfl,D⟩
 replace b:=b.cl [0] [1] r D r
 try dsimp only [pick,nth,ca,na] at b
 refine n ?_
 rcases iv j with ⟨K,j⟩|⟨K,j⟩
 ·refine wIfT (cb K) (q (g (s (mp r) (s (mp r) ?_))))
  obtain ⟨⟨W,X⟩,h4,j⟩:=bs j
  replace j:=pi j
  have hc:=(sp_r03_value fu) (b.pr [0,1] [] [1,2,3,4,5] r)  h4
  refine sc (ec cal113 r) hc ?_
  rintro _ w4 ⟨B,C,rfl,D⟩
  replace b:=b.cl [0,1] [] r D r
  try dsimp only [pick,nth,ca,na] at b
  refine n (wRt ?_)
  obtain rfl:=sm j
  refine res0 (P:=Try.prog) (fn:=Try.f114) r ?_
  exact pok (⟨w,x,B,C,r,(b.dp [0,1,2,3,4])⟩)
 replace K:=nt K
 refine wIfF (cb K) (wk (q (g (s (mp r) (s (mp r) ?_)))))
 obtain ⟨⟨h,Y⟩,h5,j⟩:=bs j
 replace j:=pi j
 have hc:=(sp_r03_target fu) (b.pr [0] [1] [1] r)  h5
 refine sc (ec cal128 r) hc ?_
 rintro _ w5 ⟨u,v,rfl,D⟩
 replace b:=b.cl [0] [1] r D r
 try dsimp only [pick,nth,ca,na] at b
 refine sTo (aRowB b [[V h.Op,V h.Number,V h.Var,T h.Name,T h.Field,Z u h.Args v]] ([h]:List Ge) (bs109_1_a r) r r (by decide) ⟨(GExpr.inn ⟨u,v,r,(b.dl 0 r)⟩),y⟩) ?_
 rintro _ w6 ⟨L,rfl,b⟩
 refine s (xn r) (s (f111_7 r) (sTs (tb b 2 [.slice (ad L) ([h]:List Ge).length 1] r ti109 r r r r r (show _=#[V 3,V c.Line,V c.Id,T c.Name,T c.Type_,V c.Len,V c.Var,.slice (ad L) ([h]:List Ge).length 1,T c.Func,V c.Callee,Z z c.Args A,Z m c.Body o,Z p c.Else t] from r)) ?_))
 intro w7 b
 try dsimp only [List.set] at b
 refine n (q (g (s (mp r) ?_)))
 obtain ⟨a0,h8,j⟩:=bs j
 have hc:=(sp_r03_take fu) (b.pr [1] [0,2] [2] r)  h8
 refine sc (ec cal64 r) hc ?_
 rintro _ w8 ⟨rfl,D⟩
 replace b:=b.cl [1] [0,2] r D r
 try dsimp only [pick,nth,ca,na] at b
 refine n (q (g (s (mp r) (s (mp r) ?_))))
 replace b:=b.frz 1 1 r r
 try dsimp only [List.eraseIdx] at b
 obtain ⟨⟨N,a⟩,Q,j⟩:=bs j
 replace j:=pi j
 have hc:=(sp_r03_value fu) (b.pr [0,1] [] [1,0,7,8,9] r)  Q
 refine sc (ec cal113 r) hc ?_
 rintro _ a5 ⟨d,f,rfl,D⟩
 replace b:=b.cl [0,1] [] r D r
 try dsimp only [pick,nth,ca,na] at b
 refine n (q (g (s (mp r) (s (xn r) (s (f111_8 r) (s (l9 r (b.bk 1 r) r) (s (xEqlT' r r) (n ?_))))))))
 rcases iv j with ⟨H,j⟩|⟨H,j⟩
 ·refine wIfT (bt H) (g (s (mp r) (s (xn r) (s (f111_0 r) (sTs (tb b 1 [V 2] r ti3 r r r r r (show _=#[V 2,V a.Line,V a.Id,T a.Name,T a.Type_,V a.Len,V a.Var,.slice (ad L) a.Target.length 1,T a.Func,V a.Callee,Z d a.Args f,Z m a.Body o,Z p a.Else t] from r)) ?_)))))
  intro a6 b
  try dsimp only [List.set] at b
  refine n ?_
  obtain rfl:=sm j
  refine res0 (P:=Try.prog) (fn:=Try.f114) r ?_
  exact pok (⟨(ad L),1,d,f,r,(b.dp [0,1,2,3,4])⟩)
 refine wIfF (bf H) (wk ?_)
 obtain rfl:=sm j
 refine res0 (P:=Try.prog) (fn:=Try.f114) r ?_
 exact pok (⟨(ad L),1,d,f,r,(b.dp [0,1,2,3,4])⟩)
abbrev T_r03_block:=GState→Int→Option ((List GStmt) × Int × GState)
abbrev T_r03_statement:=GState→Int→Option (GStmt × GState)
def Ct_r03_block (m:GState→Int→Option ((List Gs) × Int × GState)):Prop:=∀ {k:World} {u:Nat→Prop} {i:GState} {o:Int} {j:Nat} {a:Option Addr} {b:Nat} {R:(List Gs) × Int × GState},Pre k u [.box j 102 #[Z a i.l b,V i.at_,V i.line,V i.e]] [.l a b i.l]→m i o=some R→
 Calls Try.prog 66 #[Pt j,V o] k (Ret fun v w=>pel R fun p R=>pel R fun t c=>∃ (d:OA)(f:Nat)(h:LV),v=.tuple #[Z d p f,V t]∧Bx k w u (Gof [.box j 102 #[Z a i.l b,V i.at_,V i.line,V i.e]]) [O k.heap.size d f 111 Gs h,.box j 102 #[Z a c.l b,V c.at_,V c.line,V c.e]] [.els h p,.l a b c.l])
def Ct_r03_statement (m:GState→Int→Option (Gs × GState)):Prop:=∀ {z:World} {B:Nat→Prop} {u:GState} {A:Int} {x:Nat} {a:Option Addr} {b:Nat} {R:Gs × GState},Pre z B [.box x 102 #[Z a u.l b,V u.at_,V u.line,V u.e]] [.l a b u.l]→m u A=some R→
 Calls Try.prog 94 #[Pt x,V A] z (Ret fun v w=>pel R fun c d=>∃ (f:OA)(h:Nat)(i:OA)(j:Nat)(k:OA)(o:Nat)(p:OA)(t:Nat),v=.agg #[V c.Kind,V c.Line,V c.Id,T c.Name,T c.Type_,V c.Len,V c.Var,Z f c.Target h,T c.Func,V c.Callee,Z i c.Args j,Z k c.Body o,Z p c.Else t]∧Bx z w B (Gof [.box x 102 #[Z a u.l b,V u.at_,V u.line,V u.e]]) [.box x 102 #[Z a d.l b,V d.at_,V d.line,V d.e]] [.l f h c.Target,.l i j c.Args,.l k o c.Body,.l p t c.Else,.l a b d.l])
def F_r03_block_L0 (fu:Nat)(r_r03_block:T_r03_block) (r_r03_statement:T_r03_statement) (m:Int):Nat→(List Gs)→(List GToken)→Int→Int→Int→Option (Ld (List Gs × List GToken × Int × Int × Int) ((List Gs) × Int × GState))
 | 0,_,_,_,_,_=>none
 | t+1,i,b,c,d,a=>
 if a=0 then
  (m_r03_is fu (⟨b,c,d,a⟩:GState) 0 (⟨#[125]⟩:BA)).bind fun o=>
  if (!o)=true then
   (m_r03_begins fu (⟨b,c,d,a⟩:GState)).bind fun p=>
   if (!p)=true then
    (m_r03_fail fu (⟨b,c,d,a⟩:GState) 7).bind fun j=>
    F_r03_block_L0 fu r_r03_block r_r03_statement m t i j.l j.at_ j.line j.e
   else
    if 8 < m then
     (m_r03_fail fu (⟨b,c,d,a⟩:GState) 5).bind fun f=>
     F_r03_block_L0 fu r_r03_block r_r03_statement m t i f.l f.at_ f.line f.e
    else
     (r_r03_statement (⟨b,c,d,a⟩:GState) m).bind fun v=>
     pel v fun k h=>
     (app i ([k]:List Gs)).bind fun u=>
     F_r03_block_L0 fu r_r03_block r_r03_statement m t u h.l h.at_ h.line h.e
  else
   some (.go (i,b,c,d,a))
 else
  some (.go (i,b,c,d,a))
def F_r03_block_J1 (fu:Nat)(r_r03_block:T_r03_block) (r_r03_statement:T_r03_statement) (a:List GToken) (b:Int)(c:Int):Option (Ld (Int) ((List Gs) × Int × GState)):=
 if c=0 then
  (ix a b).bind fun d=>
  some (.go d.Line)
 else
  some (.go 0)
def F_r03_block (fu:Nat)(r_r03_block:T_r03_block) (r_r03_statement:T_r03_statement) (k:GState) (m:Int):Option ((List Gs) × Int × GState):=
 (m_r03_take fu k (⟨#[123]⟩:BA)).bind fun a=>
 (F_r03_block_L0 fu r_r03_block r_r03_statement m fu ([]:List Gs) a.l a.at_ a.line a.e).bind fun p=>p.el (fun p=>
 pel p fun i p=>pel p fun b p=>pel p fun c p=>pel p fun j d=>
 (F_r03_block_J1 fu r_r03_block r_r03_statement b c d).bind fun p=>p.el (fun f=>
 (m_r03_take fu (⟨b,c,j,d⟩:GState) (⟨#[125]⟩:BA)).bind fun h=>
 some (i,f,h)
 ) (fun o=>some o)
 ) (fun o=>some o)
def F_r03_statement_J0 (fu:Nat)(r_r03_block:T_r03_block) (r_r03_statement:T_r03_statement) (b:GState) (c:GToken):Option (Ld (BA × Int) (Gs × GState)):=
 (m_r03_kind fu b 0 3).bind fun a=>
 if a=true then
  some (.go (c.Text,(wr (b.at_+1))))
 else
  some (.go ((⟨#[]⟩:BA),b.at_))
def F_r03_statement (fu:Nat)(r_r03_block:T_r03_block) (r_r03_statement:T_r03_statement) (b:GState) (x1:Int):Option (Gs × GState):=
 (ix b.l b.at_).bind fun i=>
 (F_r03_statement_J0 fu r_r03_block r_r03_statement b i).bind fun a7=>a7.el (fun a7=>
 pel a7 fun d c=>
 if d=(⟨#[118,97,114]⟩:BA) then
  (m_r03_name fu (⟨b.l,c,b.line,b.e⟩:GState)).bind fun a7=>
  pel a7 fun t u=>
  (m_r03_take fu u (⟨#[58]⟩:BA)).bind fun v=>
  (m_r03_typed fu v (⟨1,i.Line,0,t,be,0,0,([]:List Ge),be,0,([]:List Ge),([]:List Gs),([]:List Gs)⟩:Gs)).bind fun a7=>
  pel a7 fun w x=>
  (m_r03_take fu w (⟨#[59]⟩:BA)).bind fun z=>
  some (x,z)
 else
  if d=(⟨#[105,102]⟩:BA) then
   (m_r03_expression fu (⟨b.l,c,b.line,b.e⟩:GState) 1 0).bind fun a7=>
   pel a7 fun f A=>
   (r_r03_block A (wr (x1+1))).bind fun a7=>
   pel a7 fun h a7=>pel a7 fun a2 a=>
   if a.e=0 then
    (m_r03_is fu a 0 (⟨#[101,108,115,101]⟩:BA)).bind fun B=>
    if B=true then
     (r_r03_block (⟨a.l,(wr (a.at_+1)),a.line,a.e⟩:GState) (wr (x1+1))).bind fun a7=>
     pel a7 fun C a7=>pel a7 fun a3 D=>
     some ((⟨4,i.Line,0,be,be,0,0,([]:List Ge),be,0,([f]:List Ge),h,C⟩:Gs),D)
    else
     some ((⟨4,i.Line,0,be,be,0,0,([]:List Ge),be,0,([f]:List Ge),h,([]:List Gs)⟩:Gs),a)
   else
    some ((⟨4,i.Line,0,be,be,0,0,([]:List Ge),be,0,([f]:List Ge),h,([]:List Gs)⟩:Gs),a)
  else
   if d=(⟨#[119,104,105,108,101]⟩:BA) then
    (m_r03_expression fu (⟨b.l,c,b.line,b.e⟩:GState) 1 0).bind fun a7=>
    pel a7 fun E F=>
    (r_r03_block F (wr (x1+1))).bind fun a7=>
    pel a7 fun G a7=>pel a7 fun a4 H=>
    some ((⟨5,i.Line,0,be,be,0,0,([]:List Ge),be,0,([E]:List Ge),G,([]:List Gs)⟩:Gs),H)
   else
    if d=(⟨#[116,114,121]⟩:BA) then
     (r_r03_block (⟨b.l,c,b.line,b.e⟩:GState) (wr (x1+1))).bind fun a7=>
     pel a7 fun I a7=>pel a7 fun a5 J=>
     (m_r03_take fu J (⟨#[99,97,116,99,104]⟩:BA)).bind fun K=>
     (m_r03_name fu K).bind fun a7=>
     pel a7 fun L M=>
     (r_r03_block M (wr (x1+1))).bind fun a7=>
     pel a7 fun N a7=>pel a7 fun a6 P=>
     some ((⟨8,i.Line,0,L,be,0,0,([]:List Ge),be,0,([]:List Ge),I,N⟩:Gs),P)
    else
     if d=(⟨#[114,101,116,117,114,110]⟩:BA) then
      (m_r03_value fu (⟨b.l,c,b.line,b.e⟩:GState) (⟨6,i.Line,0,be,be,0,0,([]:List Ge),be,0,([]:List Ge),([]:List Gs),([]:List Gs)⟩:Gs) true).bind fun a7=>
      pel a7 fun Q R=>
      (m_r03_take fu Q (⟨#[59]⟩:BA)).bind fun S=>
      some (R,S)
     else
      if d=(⟨#[116,104,114,111,119]⟩:BA) then
       (m_r03_value fu (⟨b.l,c,b.line,b.e⟩:GState) (⟨7,i.Line,0,be,be,0,0,([]:List Ge),be,0,([]:List Ge),([]:List Gs),([]:List Gs)⟩:Gs) false).bind fun a7=>
       pel a7 fun U W=>
       (m_r03_take fu U (⟨#[59]⟩:BA)).bind fun X=>
       some (W,X)
      else
       if d=(⟨#[112,114,105,110,116]⟩:BA) then
        (m_r03_value fu (⟨b.l,c,b.line,b.e⟩:GState) (⟨9,i.Line,0,be,be,0,0,([]:List Ge),be,0,([]:List Ge),([]:List Gs),([]:List Gs)⟩:Gs) false).bind fun a7=>
        pel a7 fun Y a0=>
        (m_r03_take fu Y (⟨#[59]⟩:BA)).bind fun j=>
        some (a0,j)
       else
        (m_r03_effect fu (⟨b.l,c,b.line,b.e⟩:GState) (⟨0,i.Line,0,be,be,0,0,([]:List Ge),be,0,([]:List Ge),([]:List Gs),([]:List Gs)⟩:Gs)).bind fun a7=>
        pel a7 fun k m=>
        (m_r03_take fu k (⟨#[59]⟩:BA)).bind fun p=>
        some (m,p)
 ) (fun o=>some o)
def tab_r03_block:Nat→(GState→Int→Option ((List Gs) × Int × GState)) × (GState→Int→Option (Gs × GState))
 | 0=>((fun _ _=>none),(fun _ _=>none))
 | fu+1=>(F_r03_block fu ((tab_r03_block fu).1) ((tab_r03_block fu).2),F_r03_statement fu ((tab_r03_block fu).1) ((tab_r03_block fu).2))
def m_r03_block (fu:Nat):=(tab_r03_block fu).1
def m_r03_statement (fu:Nat):=(tab_r03_block fu).2
theorem wk_r03_block (fu:Nat)(r_r03_block:T_r03_block) (r_r03_statement:T_r03_statement) (H_r03_block:Ct_r03_block r_r03_block) (H_r03_statement:Ct_r03_statement r_r03_statement):Ct_r03_block (F_r03_block fu r_r03_block r_r03_statement):=by
 intro w0 aQ x0 x1 N x z R hP B
 unfold F_r03_block at B
 have b:=hP.bx
 clear hP
 generalize hG:Gof _=G at b ⊢
 refine cf Try.func66 r ?_
 refine wCut [(0,Pt N),(1,V x1)] ⟨r,r,y⟩ fun aR=>?_
 refine q (g (s (xAsS r) (s (xi r) (n (q (g (s (xAsS r) (n (q (g (s (mp r) ?_)))))))))))
 obtain ⟨S,h1,B⟩:=bs B
 have hc:=(sp_r03_take fu) (b.pr [0] [] [0] r)  h1
 refine sc (ec cal64 r) hc ?_
 rintro _ w1 ⟨rfl,X⟩
 replace b:=b.cl [0] [] r X r
 try dsimp only [pick,nth,ca,na] at b
 refine n (q ?_)
 replace b:=b.owL Gs 111
 obtain ⟨Y2,a,B⟩:=bs B
 refine wJd (fun f w=>∃ (o:List Gs) (c:OA)(d:Nat)(j:LV)(p:List GToken) (t:Int)(u:Int)(v:Int),Has f [(0,Pt N),(6,Z c o d)]∧Bx w0 w aQ G [O w0.heap.size c d 111 Gs j,.box N 102 #[Z x p z,V t,V u,V v]] [.l x z p,.els j o]∧Ld.go (o,p,t,u,v)=Y2) (fun J2 a6=>?_) ?_
 ·refine wBk (wLoopGd (fun aS f w=>∃ (o:List Gs) (c:OA)(d:Nat)(j:LV)(p:List GToken) (t:Int)(u:Int)(v:Int),Has f [(0,Pt N),(1,V x1),(6,Z c o d)]∧Bx w0 w aQ G [O w0.heap.size c d 111 Gs j,.box N 102 #[Z x p z,V t,V u,V v]] [.l x z p,.els j o]∧F_r03_block_L0 fu r_r03_block r_r03_statement x1 aS o p t u v=some Y2) fu ⟨([]:List Gs),none,0,[],S.l,S.at_,S.line,S.e,⟨r,r,r,y⟩,(b.dp [1,0]),a⟩ ?_)
  clear b a
  rintro n2 f w ⟨o,c,d,j,p,t,u,v,hf,b,a⟩ K2 a2
  obtain ⟨aR,rfl⟩:=has_updL _ _ hf
  clear hf
  cases n2 with
  | zero=>exact nn a
  | succ n2=>
   rw [F_r03_block_L0] at a
   refine q (q (g (s (mp r) (s (xn r) (s (f102_3 r) (s (l37 r (b.bk 1 r) r) (s (xEqlD r r) (s (xMvB r) ?_))))))))
   rcases iv a with ⟨h4,a⟩|⟨h4,a⟩
   ·rw [decide_eq_true h4]
    refine sGo r (s (mp r) ?_)
    obtain ⟨av,h5,a⟩:=bs a
    refine sGo r ?_
    have hc:=(sp_r03_is fu) (b.pr [1] [0] [0] r)  h5
    refine sc (ec cal62 r) hc ?_
    rintro _ w5 ⟨rfl,X⟩
    replace b:=b.cl [1] [0] r X r
    try dsimp only [pick,nth,ca,na] at b
    refine sGo r (s (xNot r) (s (xPkTB r r) (n ?_)))
    rcases iv a with ⟨h6,a⟩|⟨h6,a⟩
    ·refine wIfT (cb h6) (wk (wBk (q (g (s (mp r) ?_)))))
     obtain ⟨aw,h7,a⟩:=bs a
     have hc:=(sp_r03_begins fu) (b.pr [0] [1] [1] r)  h7
     refine sc (ec cal93 r) hc ?_
     rintro _ w7 ⟨rfl,X⟩
     replace b:=b.cl [0] [1] r X r
     try dsimp only [pick,nth,ca,na] at b
     refine s (xNot r) (n ?_)
     rcases iv a with ⟨h8,a⟩|⟨h8,a⟩
     ·refine wIfT (cb h8) (g (s (mp r) ?_))
      obtain ⟨U,h9,a⟩:=bs a
      have hc:=(sp_r03_fail fu) (b.pr [0] [1] [2] r)  h9
      refine sc (ec cal68 r) hc ?_
      rintro _ w9 ⟨rfl,X⟩
      replace b:=b.cl [0] [1] r X r
      try dsimp only [pick,nth,ca,na] at b
      refine n ?_
      exact a2 n2 _ _ (Nat.lt_succ_self _) ⟨o,c,d,j,U.l,U.at_,U.line,U.e,⟨r,r,r,y⟩,(b.ad [1,0] [0,4]),a⟩
     replace h8:=nt h8
     refine wIfF (cb h8) (q (g (s (mi r) (s (xGtr r r) (n ?_)))))
     rcases iv a with ⟨a3,a⟩|⟨a3,a⟩
     ·refine wIfT (bt a3) (g (s (mp r) ?_))
      obtain ⟨L,ah,a⟩:=bs a
      have hc:=(sp_r03_fail fu) (b.pr [0] [1] [2] r)  ah
      refine sc (ec cal68 r) hc ?_
      rintro _ aB ⟨rfl,X⟩
      replace b:=b.cl [0] [1] r X r
      try dsimp only [pick,nth,ca,na] at b
      refine n ?_
      exact a2 n2 _ _ (Nat.lt_succ_self _) ⟨o,c,d,j,L.l,L.at_,L.line,L.e,⟨r,r,r,y⟩,(b.ad [1,0] [0,4]),a⟩
     refine wIfF (bf a3) (g (s (xMvS r) (s (mp r) (s (mi r) ?_))))
     obtain ⟨⟨m,M⟩,ai,a⟩:=bs a
     replace a:=pi a
     have hc:=H_r03_statement (b.pr [0] [1] [2] r)  ai
     refine sc (ec cal94 r) hc ?_
     rintro _ aC ⟨C,D,E,F,H,I,J,K,rfl,X⟩
     replace b:=b.cl [0] [1] r X r
     try dsimp only [pick,nth,ca,na] at b
     refine sTo (aRowB b [[V m.Kind,V m.Line,V m.Id,T m.Name,T m.Type_,V m.Len,V m.Var,Z C m.Target D,T m.Func,V m.Callee,Z E m.Args F,Z H m.Body I,Z J m.Else K]] ([m]:List Gs) (bs80_1_a r) r r (by decide) ⟨(GStmt.inn ⟨C,D,E,F,H,I,J,K,r,(b.dl 0 r),(b.dl 1 r),(b.dl 2 r),(b.dl 3 r)⟩),y⟩) ?_
     rintro _ aD ⟨aE,rfl,b⟩
     obtain ⟨aj,aa,a⟩:=bs a
     refine sTo (aAppB b 2 9 r r u80_ ti111 r (by decide) (by decide) (Nat.le_refl _) r r (b.ysO 0 0 r r) aa) ?_
     rintro _ aF ⟨ak,al,am,rfl,b⟩
     refine s (xAsS r) (n ?_)
     exact a2 n2 _ _ (Nat.lt_succ_self _) ⟨aj,ak,al,am,M.l,M.at_,M.line,M.e,⟨r,r,r,y⟩,(b.ad [2,1] [5,9]),a⟩
    replace h6:=nt h6
    refine wIfF (cb h6) (wEx ?_)
    exact a6 _ _ ⟨o,c,d,j,p,t,u,v,⟨r,r,y⟩,(b.ad [1,0] [1,2]),sm a⟩
   rw [decide_eq_false h4]
   refine sNo r (sNo r (sNo r (s (xPkFB r r) (n (wIfF r (wEx ?_))))))
   exact a6 _ _ ⟨o,c,d,j,p,t,u,v,⟨r,r,y⟩,b,sm a⟩
 clear b
 rintro f w ⟨o,c,d,j,p,t,u,v,hf,b,an⟩
 obtain ⟨aR,rfl⟩:=has_updL _ _ hf
 clear hf
 subst an
 replace B:=gi B
 replace B:=pi B
 replace B:=pi B
 replace B:=pi B
 replace B:=pi B
 refine q (g (s (xi r) (n (q ?_))))
 obtain ⟨ao,A,B⟩:=bs B
 refine wJd (fun f w=>∃ (Q:Int),Has f [(0,Pt N),(6,Z c o d),(7,V Q)]∧Bx w0 w aQ G [O w0.heap.size c d 111 Gs j,.box N 102 #[Z x p z,V t,V u,V v]] [.l x z p,.els j o]∧Ld.go Q=ao) (fun aG a1=>?_) ?_
 ·unfold F_r03_block_J1 at A
  refine q (g (s (mp r) (s (xn r) (s (f102_3 r) (s (l37 r (b.bk 1 r) r) (s (xEqlD r r) (n ?_)))))))
  rcases iv A with ⟨a4,A⟩|⟨a4,A⟩
  ·refine wIfT (bt a4) (wDr1 b [1] [0] [] (by kernel_rfl) ?_)
   replace b:=b.drew
   have Y:=(b.ad [1] [0])
   refine pF 0 r (mp r) Y (pF 1 r (xn r) Y (pF 2 r (f102_0 r) Y (uF 3 r (fun hS=>l97 r (hS.bk 0 r) r) Y (pF 4 r (mp r) Y (pF 5 r (xn r) Y (pF 6 r (f102_1 r) Y (uF 7 r (fun hS=>l3 r (hS.bk 0 r) r) Y ?_)))))))
   obtain ⟨a0,W,A⟩:=bs A
   obtain ⟨aH,ab,W⟩:=ix_inv W
   refine pF 8 r (xIdR u97_ ti143 r r ab (b.dl 0 r) W) Y (pF 9 r (f143_1 r) Y (tU 10 r (fun _ hS=>xLoad u3_ r r ((elF (ds:=[V a0.Kind,V a0.Line,T a0.Text,V a0.Number]) (hS.dl 0 r) W (fun _ h=>h)) 1 _ r)) (sF Y) (pF 11 r (xi r) Y (hD ?_))))
   exact a1 _ _ ⟨a0.Line,⟨r,r,r,y⟩,b,sm A⟩
  refine wIfF (bf a4) (wk ?_)
  exact a1 _ _ ⟨0,⟨r,r,r,y⟩,b,sm A⟩
 clear b
 rintro f w ⟨Q,hf,b,ac⟩
 obtain ⟨aR,rfl⟩:=has_updL _ _ hf
 clear hf
 subst ac
 replace B:=gi B
 refine q (g (s (mp r) ?_))
 obtain ⟨ap,aq,B⟩:=bs B
 have hc:=(sp_r03_take fu) (b.pr [1] [0] [0] r)  aq
 refine sc (ec cal64 r) hc ?_
 rintro _ aI ⟨rfl,X⟩
 replace b:=b.cl [1] [0] r X r
 try dsimp only [pick,nth,ca,na] at b
 refine n (q (g (s (xMvS r) (s (mi r) (s (xAsS r) (s (xi r) (n (wRt ?_))))))))
 obtain rfl:=sm B
 refine resV2 r (rdT r) (rdT r) ?_
 exact pok (pok (⟨c,d,j,r,(b.ad [1,0] [2,0])⟩))
theorem wk_r03_statement (fu:Nat)(r_r03_block:T_r03_block) (r_r03_statement:T_r03_statement) (H_r03_block:Ct_r03_block r_r03_block) (H_r03_statement:Ct_r03_statement r_r03_statement):Ct_r03_statement (F_r03_statement fu r_r03_block r_r03_statement):=by
 intro w0 cN x0 x1 ap a5 a6 R hP p
 unfold F_r03_statement at p
 have a:=hP.bx
 clear hP
 generalize hG:Gof _=G at a ⊢
 refine cf Try.func94 r ?_
 refine wCut [(0,Pt ap),(1,V x1)] ⟨r,r,y⟩ fun cO=>?_
 refine q (g (sTo (aNewB a (mAlloc ti111)) ?_))
 rintro _ w1 ⟨b1,rfl,a⟩
 refine n (q (wDr1 a [1] [0] [] (by kernel_rfl) ?_))
 replace a:=a.drew
 have hs:=(a.arr [1] r)
 refine pF 0 r (mp r) hs (pF 1 r (xn r) hs (pF 2 r (f102_0 r) hs (uF 3 r (fun hS=>l97 r (hS.bk 0 r) r) hs (pF 4 r (mp r) hs (pF 5 r (xn r) hs (pF 6 r (f102_1 r) hs (uF 7 r (fun hS=>l3 r (hS.bk 0 r) r) hs ?_)))))))
 obtain ⟨Q,ak,p⟩:=bs p
 obtain ⟨k2,aG,ak⟩:=ix_inv ak
 refine pF 8 r (xIdR u97_ ti143 r r aG (a.dl 0 r) ak) hs (pF 9 r (f143_1 r) hs (tU 10 r (fun _ hS=>xLoad u3_ r r ((elF (ds:=[V Q.Kind,V Q.Line,T Q.Text,V Q.Number]) (hS.dl 0 r) ak (fun _ h=>h)) 1 _ r)) (sF hs) (pF 11 r (bd111_1 r) hs ?_)))
 refine hO 12 (oo r r (aNewB a (mAlloc ti111)) ?_)
 rintro _ w3 ⟨b3,rfl,a⟩
 have hs:=(a.arr [2] r)
 refine ⟨(sF hs),?_⟩
 refine hO 13 (os r r (tb a 0 [V 0,V Q.Line,V 0,T be,T be,V 0,V 0,sn,T be,V 0,sn,sn,sn] r ti111 r r r r r (show _=#[V 0,V Q.Line,V 0,T be,T be,V 0,V 0,sn,T be,V 0,sn,sn,sn] from r)) ?_)
 intro w4 a
 try dsimp only [List.set] at a
 have hs:=(a.arr [2] r)
 refine ⟨(sF hs),?_⟩
 refine hD (q (g (s (xAsT r) (n (q ?_)))))
 obtain ⟨Y5,ah,p⟩:=bs p
 refine wJd (fun f w=>∃ (al:BA) (am:Int),Has f [(0,Pt ap),(1,V x1),(4,Pt b1),(5,Pt b3),(6,T al)]∧Bx w0 w cN G [.box b3 111 #[V 0,V Q.Line,V 0,T be,T be,V 0,V 0,sn,T be,V 0,sn,sn,sn],.box b1 111 #[V 0,V 0,V 0,T be,T be,V 0,V 0,sn,T be,V 0,sn,sn,sn],.box ap 102 #[Z a5 x0.l a6,V am,V x0.line,V x0.e]] [.l a5 a6 x0.l]∧Ld.go (al,am)=Y5) (fun J5 aH=>?_) ?_
 ·unfold F_r03_statement_J0 at ah
  refine q (g (s (mp r) ?_))
  obtain ⟨bK,h6,ah⟩:=bs ah
  have hc:=(sp_r03_kind fu) (a.pr [2] [0,1] [0] r)  h6
  refine sc (ec cal67 r) hc ?_
  rintro _ w6 ⟨rfl,J⟩
  replace a:=a.cl [2] [0,1] r J r
  try dsimp only [pick,nth,ca,na] at a
  refine n ?_
  rcases iv ah with ⟨h7,ah⟩|⟨h7,ah⟩
  ·refine wIfT (cb h7) (q (wDr1 a [0] [1] [] (by kernel_rfl) ?_))
   replace a:=a.drew
   have hs:=(a.ad [0] [1])
   refine pF 0 r (mp r) hs (pF 1 r (xn r) hs (pF 2 r (f102_0 r) hs (uF 3 r (fun hS=>l97 r (hS.bk 0 r) r) hs (pF 4 r (mp r) hs (pF 5 r (xn r) hs (pF 6 r (f102_1 r) hs (uF 7 r (fun hS=>l3 r (hS.bk 0 r) r) hs (pF 8 r (xIdR u97_ ti143 r r aG (a.dl 1 r) ak) hs (pF 9 r (f143_2 r) hs (tU 10 r (fun _ hS=>xLoad u9_ r r ((elF (ds:=[V Q.Kind,V Q.Line,T Q.Text,V Q.Number]) (hS.dl 0 r) ak (fun _ h=>h)) 2 _ r)) (sF hs) (pF 11 r (xAsT r) hs (hD (g ?_)))))))))))))
   refine s (mp r) (s (xn r) (s (f102_1 r) (s (l3 r (a.bk 0 r) r) (s (xAddW r r) (s (xn r) (s (f102_1 r) (sTs (tb a 0 [V (wr (x0.at_+1))] r ti3 r r r r r (show _=#[Z a5 x0.l a6,V (wr (x0.at_+1)),V x0.line,V x0.e] from r)) ?_)))))))
   intro w8 a
   try dsimp only [List.set] at a
   refine n ?_
   exact aH _ _ ⟨Q.Text,(wr (x0.at_+1)),⟨r,r,r,r,r,y⟩,(a.ad [1,2,0] [1]),sm ah⟩
  replace h7:=nt h7
  refine wIfF (cb h7) (wk ?_)
  exact aH _ _ ⟨(⟨#[]⟩:BA),x0.at_,⟨r,r,r,r,r,y⟩,(a.ad [1,2,0] [1]),sm ah⟩
 clear a
 rintro f w ⟨al,am,hf,a,aP⟩
 obtain ⟨cO,rfl⟩:=has_updL _ _ hf
 clear hf
 subst aP
 replace p:=gi p
 replace p:=pi p
 refine q (q (g (s (xMvT r) (n (wBk (q (g (s (xEqlT' r r) (s (xAsB r) (n ?_))))))))))
 rcases iv p with ⟨h9,p⟩|⟨h9,p⟩
 ·refine wIfT (bt h9) (q (g (s (mp r) ?_)))
  obtain ⟨⟨an,aR⟩,aS,p⟩:=bs p
  replace p:=pi p
  have hc:=(sp_r03_name fu) (a.pr [2] [0,1] [0] r)  aS
  refine sc (ec cal63 r) hc ?_
  rintro _ bS ⟨rfl,J⟩
  replace a:=a.cl [2] [0,1] r J r
  try dsimp only [pick,nth,ca,na] at a
  refine s (f111_0 r) (sTs (tb a 1 [V 1] r ti3 r r r r r (show _=#[V 1,V Q.Line,V 0,T be,T be,V 0,V 0,sn,T be,V 0,sn,sn,sn] from r)) ?_)
  intro bT a
  try dsimp only [List.set] at a
  refine s (f111_3 r) (sTs (tb a 1 [T an] r ti9 r r r r r (show _=#[V 1,V Q.Line,V 0,T an,T be,V 0,V 0,sn,T be,V 0,sn,sn,sn] from r)) ?_)
  intro bU a
  try dsimp only [List.set] at a
  refine n (q (g (s (mp r) ?_)))
  obtain ⟨aT,aU,p⟩:=bs p
  have hc:=(sp_r03_take fu) (a.pr [0] [1,2] [0] r)  aU
  refine sc (ec cal64 r) hc ?_
  rintro _ bV ⟨rfl,J⟩
  replace a:=a.cl [0] [1,2] r J r
  try dsimp only [pick,nth,ca,na] at a
  refine n (q (g (s (mp r) ?_)))
  replace a:=a.dadd (d:=.l none 0 ([]:List Ge)) ln_
  replace a:=a.dadd (d:=.l none 0 ([]:List Ge)) ln_
  replace a:=a.dadd (d:=.l none 0 ([]:List Gs)) ln_
  replace a:=a.dadd (d:=.l none 0 ([]:List Gs)) ln_
  obtain ⟨⟨aV,c⟩,aW,p⟩:=bs p
  replace p:=pi p
  have hc:=(sp_r03_typed fu) (a.pr [0,1] [2] [4,3,2,1,0] r)  aW
  refine sc (ec cal111 r) hc ?_
  rintro _ bW ⟨rfl,J⟩
  replace a:=a.cl [0,1] [2] r J r
  try dsimp only [pick,nth,ca,na] at a
  refine n (g (s (mp r) ?_))
  obtain ⟨aX,aY,p⟩:=bs p
  have hc:=(sp_r03_take fu) (a.pr [0] [1,2] [0] r)  aY
  refine sc (ec cal64 r) hc ?_
  rintro _ bX ⟨rfl,J⟩
  replace a:=a.cl [0] [1,2] r J r
  try dsimp only [pick,nth,ca,na] at a
  refine n (q (g (s (xLoadS [V c.Kind,V c.Line,V c.Id,T c.Name,T c.Type_,V c.Len,V c.Var,Z none c.Target 0,T c.Func,V c.Callee,Z none c.Args 0,Z none c.Body 0,Z none c.Else 0] u111_ r ti111 r r (Cells.part (a.bk 1 r).cells (o2:=0) r)) (sTs (tb a 2 [V c.Kind,V c.Line,V c.Id,T c.Name,T c.Type_,V c.Len,V c.Var,Z none c.Target 0,T c.Func,V c.Callee,Z none c.Args 0,Z none c.Body 0,Z none c.Else 0] r ti111 r r r r r (show _=#[V c.Kind,V c.Line,V c.Id,T c.Name,T c.Type_,V c.Len,V c.Var,Z none c.Target 0,T c.Func,V c.Callee,Z none c.Args 0,Z none c.Body 0,Z none c.Else 0] from r)) ?_))))
  intro bY a
  try dsimp only [List.set] at a
  refine n (wRt ?_)
  obtain rfl:=sm p
  refine resV1 r (rdA r u111_ r ti111 r (a.bk 2 r)) ?_
  exact pok (⟨none,0,none,0,none,0,none,0,r,(a.ad [0] [2,3,4,5,0])⟩)
 refine wIfF (bf h9) (q (g (s (xEqlT' r r) (s (xAsB r) (n ?_)))))
 rcases iv p with ⟨ar,p⟩|⟨ar,p⟩
 ·refine wIfT (bt ar) (q (g (s (mp r) ?_)))
  obtain ⟨⟨v,aZ⟩,b0,p⟩:=bs p
  replace p:=pi p
  have hc:=(sp_r03_expression fu) (a.pr [2] [0,1] [0] r)  b0
  refine sc (ec cal112 r) hc ?_
  rintro _ bZ ⟨ab,ac,rfl,J⟩
  replace a:=a.cl [2] [0,1] r J r
  try dsimp only [pick,nth,ca,na] at a
  refine sTo (aRowB a [[V v.Op,V v.Number,V v.Var,T v.Name,T v.Field,Z ab v.Args ac]] ([v]:List Ge) (bs109_1_a r) r r (by decide) ⟨(GExpr.inn ⟨ab,ac,r,(a.dl 0 r)⟩),y⟩) ?_
  rintro _ c0 ⟨a1,rfl,a⟩
  refine s (f111_0 r) (sTs (tb a 2 [V 4] r ti3 r r r r r (show _=#[V 4,V Q.Line,V 0,T be,T be,V 0,V 0,sn,T be,V 0,sn,sn,sn] from r)) ?_)
  intro c1 a
  try dsimp only [List.set] at a
  refine s (f111_10 r) (sTs (tb a 2 [.slice (ad a1) ([v]:List Ge).length 1] r ti109 r r r r r (show _=#[V 4,V Q.Line,V 0,T be,T be,V 0,V 0,sn,T be,V 0,.slice (ad a1) ([v]:List Ge).length 1,sn,sn] from r)) ?_)
  intro c2 a
  try dsimp only [List.set] at a
  refine n (q (g (s (mp r) (s (mi r) (s (xAddW r r) ?_)))))
  obtain ⟨⟨B,b2,a7⟩,b4,p⟩:=bs p
  replace p:=pi p
  replace p:=pi p
  have hc:=H_r03_block (a.pr [1] [0,2,3] [2] r)  b4
  refine sc (ec cal66 r) hc ?_
  rintro _ c3 ⟨t,u,aB,rfl,J⟩
  have ag:=a.chg.size
  replace a:=a.cl [1] [0,2,3] r J r
  try dsimp only [pick,nth,ca,na] at a
  replace a:=a.reb 0 w0.heap.size r ag
  try dsimp only [List.set] at a
  refine s xMove (s (xExtract r r) (s (xExtract r r) (s (f111_11 r) (sTs (tb a 3 [Z t B u] r ti80 r r r r r (show _=#[V 4,V Q.Line,V 0,T be,T be,V 0,V 0,sn,T be,V 0,.slice (ad a1) ([v]:List Ge).length 1,Z t B u,sn] from r)) ?_))))
  intro c4 a
  try dsimp only [List.set] at a
  refine n (q (g (s (mp r) (s (xn r) (s (f102_3 r) (s (l37 r (a.bk 1 r) r) (s (xEqlD r r) (s (xMvB r) ?_))))))))
  rcases iv p with ⟨au,p⟩|⟨au,p⟩
  ·rw [decide_eq_true au]
   refine sGo r (s (mp r) ?_)
   obtain ⟨b5,b6,p⟩:=bs p
   refine sGo r ?_
   have hc:=(sp_r03_is fu) (a.pr [1] [0,2,3,4] [1] r)  b6
   refine sc (ec cal62 r) hc ?_
   rintro _ c5 ⟨rfl,J⟩
   replace a:=a.cl [1] [0,2,3,4] r J r
   try dsimp only [pick,nth,ca,na] at a
   refine s (xPkTB r r) (n ?_)
   rcases iv p with ⟨ao,p⟩|⟨ao,p⟩
   ·refine wIfT (cb ao) (q (g (s (mp r) (s (xn r) (s (f102_1 r) (s (l3 r (a.bk 0 r) r) (s (xAddW r r) (s (xn r) (s (f102_1 r) (sTs (tb a 0 [V (wr (a7.at_+1))] r ti3 r r r r r (show _=#[Z a5 a7.l a6,V (wr (a7.at_+1)),V a7.line,V a7.e] from r)) ?_))))))))))
    intro c6 a
    try dsimp only [List.set] at a
    refine n (g (s (mp r) (s (mi r) (s (xAddW r r) ?_))))
    obtain ⟨⟨a8,b7,b8⟩,b9,p⟩:=bs p
    replace p:=pi p
    replace p:=pi p
    have hc:=H_r03_block (a.pr [0] [1,2,3,4] [2] r)  b9
    refine sc (ec cal66 r) hc ?_
    rintro _ c7 ⟨C,D,aC,rfl,J⟩
    have ag:=a.chg.size
    replace a:=a.cl [0] [1,2,3,4] r J r
    try dsimp only [pick,nth,ca,na] at a
    replace a:=a.reb 0 w0.heap.size r ag
    try dsimp only [List.set] at a
    refine s xMove (s (xExtract r r) (s (xExtract r r) (s (f111_12 r) (sTs (tb a 4 [Z C a8 D] r ti80 r r r r r (show _=#[V 4,V Q.Line,V 0,T be,T be,V 0,V 0,sn,T be,V 0,.slice (ad a1) ([v]:List Ge).length 1,Z t B u,Z C a8 D] from r)) ?_))))
    intro c8 a
    try dsimp only [List.set] at a
    refine n (q (g (s (xLoadS [V 4,V Q.Line,V 0,T be,T be,V 0,V 0,sn,T be,V 0,.slice (ad a1) ([v]:List Ge).length 1,Z t B u,Z C a8 D] u111_ r ti111 r r (Cells.part (a.bk 4 r).cells (o2:=0) r)) (sTs (tb a 5 [V 4,V Q.Line,V 0,T be,T be,V 0,V 0,sn,T be,V 0,.slice (ad a1) ([v]:List Ge).length 1,Z t B u,Z C a8 D] r ti111 r r r r r (show _=#[V 4,V Q.Line,V 0,T be,T be,V 0,V 0,sn,T be,V 0,.slice (ad a1) ([v]:List Ge).length 1,Z t B u,Z C a8 D] from r)) ?_))))
    intro c9 a
    try dsimp only [List.set] at a
    refine n (wRt ?_)
    replace a:=a.frz 3 5 r r
    try dsimp only [List.eraseIdx] at a
    replace a:=a.frz 2 4 r r
    try dsimp only [List.eraseIdx] at a
    replace a:=a.frz 0 2 r r
    try dsimp only [List.eraseIdx] at a
    replace a:=a.dadd (d:=.l none 0 ([]:List Ge)) ln_
    obtain rfl:=sm p
    refine resV1 r (rdA r u111_ r ti111 r (a.bk 2 r)) ?_
    exact pok (⟨none,0,(ad a1),1,t,u,C,D,r,(a.ad [0] [0,3,2,1,4])⟩)
   replace ao:=nt ao
   refine wIfF (cb ao) (wk (q (g (s (xLoadS [V 4,V Q.Line,V 0,T be,T be,V 0,V 0,sn,T be,V 0,.slice (ad a1) ([v]:List Ge).length 1,Z t B u,sn] u111_ r ti111 r r (Cells.part (a.bk 3 r).cells (o2:=0) r)) (sTs (tb a 4 [V 4,V Q.Line,V 0,T be,T be,V 0,V 0,sn,T be,V 0,.slice (ad a1) ([v]:List Ge).length 1,Z t B u,sn] r ti111 r r r r r (show _=#[V 4,V Q.Line,V 0,T be,T be,V 0,V 0,sn,T be,V 0,.slice (ad a1) ([v]:List Ge).length 1,Z t B u,sn] from r)) ?_)))))
   intro cc a
   try dsimp only [List.set] at a
   refine n (wRt ?_)
   replace a:=a.frz 2 3 r r
   try dsimp only [List.eraseIdx] at a
   replace a:=a.frz 1 2 r r
   try dsimp only [List.eraseIdx] at a
   replace a:=a.dadd (d:=.l none 0 ([]:List Ge)) ln_
   replace a:=a.dadd (d:=.l none 0 ([]:List Gs)) ln_
   obtain rfl:=sm p
   refine resV1 r (rdA r u111_ r ti111 r (a.bk 2 r)) ?_
   exact pok (⟨none,0,(ad a1),1,t,u,none,0,r,(a.ad [0] [1,3,2,0,5])⟩)
  rw [decide_eq_false au]
  refine sNo r (sNo r (s (xPkFB r r) (n (wIfF r (wk (q (g (s (xLoadS [V 4,V Q.Line,V 0,T be,T be,V 0,V 0,sn,T be,V 0,.slice (ad a1) ([v]:List Ge).length 1,Z t B u,sn] u111_ r ti111 r r (Cells.part (a.bk 3 r).cells (o2:=0) r)) (sTs (tb a 4 [V 4,V Q.Line,V 0,T be,T be,V 0,V 0,sn,T be,V 0,.slice (ad a1) ([v]:List Ge).length 1,Z t B u,sn] r ti111 r r r r r (show _=#[V 4,V Q.Line,V 0,T be,T be,V 0,V 0,sn,T be,V 0,.slice (ad a1) ([v]:List Ge).length 1,Z t B u,sn] from r)) ?_)))))))))
  intro cd a
  try dsimp only [List.set] at a
  refine n (wRt ?_)
  replace a:=a.frz 2 2 r r
  try dsimp only [List.eraseIdx] at a
  replace a:=a.frz 0 1 r r
  try dsimp only [List.eraseIdx] at a
  replace a:=a.dadd (d:=.l none 0 ([]:List Ge)) ln_
  replace a:=a.dadd (d:=.l none 0 ([]:List Gs)) ln_
  obtain rfl:=sm p
  refine resV1 r (rdA r u111_ r ti111 r (a.bk 2 r)) ?_
  exact pok (⟨none,0,(ad a1),1,t,u,none,0,r,(a.ad [0] [1,3,2,0,4])⟩)
 refine wIfF (bf ar) (q (g (s (xEqlT' r r) (s (xAsB r) (n ?_)))))
 rcases iv p with ⟨av,p⟩|⟨av,p⟩
 ·refine wIfT (bt av) (q (g (s (mp r) ?_)))
  obtain ⟨⟨A,ba⟩,bb,p⟩:=bs p
  replace p:=pi p
  have hc:=(sp_r03_expression fu) (a.pr [2] [0,1] [0] r)  bb
  refine sc (ec cal112 r) hc ?_
  rintro _ ce ⟨ae,af,rfl,J⟩
  replace a:=a.cl [2] [0,1] r J r
  try dsimp only [pick,nth,ca,na] at a
  refine sTo (aRowB a [[V A.Op,V A.Number,V A.Var,T A.Name,T A.Field,Z ae A.Args af]] ([A]:List Ge) (bs109_1_a r) r r (by decide) ⟨(GExpr.inn ⟨ae,af,r,(a.dl 0 r)⟩),y⟩) ?_
  rintro _ cg ⟨aj,rfl,a⟩
  refine s (f111_0 r) (sTs (tb a 2 [V 5] r ti3 r r r r r (show _=#[V 5,V Q.Line,V 0,T be,T be,V 0,V 0,sn,T be,V 0,sn,sn,sn] from r)) ?_)
  intro ch a
  try dsimp only [List.set] at a
  refine s (f111_10 r) (sTs (tb a 2 [.slice (ad aj) ([A]:List Ge).length 1] r ti109 r r r r r (show _=#[V 5,V Q.Line,V 0,T be,T be,V 0,V 0,sn,T be,V 0,.slice (ad aj) ([A]:List Ge).length 1,sn,sn] from r)) ?_)
  intro ci a
  try dsimp only [List.set] at a
  refine n (g (s (mp r) (s (mi r) (s (xAddW r r) ?_))))
  obtain ⟨⟨a9,bc,bd⟩,bg,p⟩:=bs p
  replace p:=pi p
  replace p:=pi p
  have hc:=H_r03_block (a.pr [1] [0,2,3] [2] r)  bg
  refine sc (ec cal66 r) hc ?_
  rintro _ cj ⟨E,F,aD,rfl,J⟩
  have ag:=a.chg.size
  replace a:=a.cl [1] [0,2,3] r J r
  try dsimp only [pick,nth,ca,na] at a
  replace a:=a.reb 0 w0.heap.size r ag
  try dsimp only [List.set] at a
  refine s xMove (s (xExtract r r) (s (xExtract r r) (s (f111_11 r) (sTs (tb a 3 [Z E a9 F] r ti80 r r r r r (show _=#[V 5,V Q.Line,V 0,T be,T be,V 0,V 0,sn,T be,V 0,.slice (ad aj) ([A]:List Ge).length 1,Z E a9 F,sn] from r)) ?_))))
  intro ck a
  try dsimp only [List.set] at a
  refine n (q (g (s (xLoadS [V 5,V Q.Line,V 0,T be,T be,V 0,V 0,sn,T be,V 0,.slice (ad aj) ([A]:List Ge).length 1,Z E a9 F,sn] u111_ r ti111 r r (Cells.part (a.bk 3 r).cells (o2:=0) r)) (sTs (tb a 4 [V 5,V Q.Line,V 0,T be,T be,V 0,V 0,sn,T be,V 0,.slice (ad aj) ([A]:List Ge).length 1,Z E a9 F,sn] r ti111 r r r r r (show _=#[V 5,V Q.Line,V 0,T be,T be,V 0,V 0,sn,T be,V 0,.slice (ad aj) ([A]:List Ge).length 1,Z E a9 F,sn] from r)) ?_))))
  intro cm a
  try dsimp only [List.set] at a
  refine n (wRt ?_)
  replace a:=a.frz 2 2 r r
  try dsimp only [List.eraseIdx] at a
  replace a:=a.frz 0 1 r r
  try dsimp only [List.eraseIdx] at a
  replace a:=a.dadd (d:=.l none 0 ([]:List Ge)) ln_
  replace a:=a.dadd (d:=.l none 0 ([]:List Gs)) ln_
  obtain rfl:=sm p
  refine resV1 r (rdA r u111_ r ti111 r (a.bk 2 r)) ?_
  exact pok (⟨none,0,(ad aj),1,E,F,none,0,r,(a.ad [0] [1,3,2,0,4])⟩)
 refine wIfF (bf av) (q (g (s (xEqlT' r r) (s (xAsB r) (n ?_)))))
 rcases iv p with ⟨aw,p⟩|⟨aw,p⟩
 ·refine wIfT (bt aw) (q (g (s (f111_0 r) (sTs (tb a 0 [V 8] r ti3 r r r r r (show _=#[V 8,V Q.Line,V 0,T be,T be,V 0,V 0,sn,T be,V 0,sn,sn,sn] from r)) ?_))))
  intro cn a
  try dsimp only [List.set] at a
  refine n (q (g (s (mp r) (s (mi r) (s (xAddW r r) ?_)))))
  obtain ⟨⟨a2,bh,bi⟩,bj,p⟩:=bs p
  replace p:=pi p
  replace p:=pi p
  have hc:=H_r03_block (a.pr [2] [0,1] [0] r)  bj
  refine sc (ec cal66 r) hc ?_
  rintro _ co ⟨x,z,aE,rfl,J⟩
  have ag:=a.chg.size
  replace a:=a.cl [2] [0,1] r J r
  try dsimp only [pick,nth,ca,na] at a
  replace a:=a.reb 0 w0.heap.size r ag
  try dsimp only [List.set] at a
  refine s xMove (s (xExtract r r) (s (xExtract r r) (s (f111_11 r) (sTs (tb a 2 [Z x a2 z] r ti80 r r r r r (show _=#[V 8,V Q.Line,V 0,T be,T be,V 0,V 0,sn,T be,V 0,sn,Z x a2 z,sn] from r)) ?_))))
  intro w64 a
  try dsimp only [List.set] at a
  refine n (q (g (s (mp r) ?_)))
  obtain ⟨bl,bm,p⟩:=bs p
  have hc:=(sp_r03_take fu) (a.pr [1] [0,2,3] [1] r)  bm
  refine sc (ec cal64 r) hc ?_
  rintro _ cp ⟨rfl,J⟩
  replace a:=a.cl [1] [0,2,3] r J r
  try dsimp only [pick,nth,ca,na] at a
  refine n (q (g (s (mp r) ?_)))
  obtain ⟨⟨a4,bn⟩,bo,p⟩:=bs p
  replace p:=pi p
  have hc:=(sp_r03_name fu) (a.pr [0] [1,2,3] [0] r)  bo
  refine sc (ec cal63 r) hc ?_
  rintro _ cq ⟨rfl,J⟩
  replace a:=a.cl [0] [1,2,3] r J r
  try dsimp only [pick,nth,ca,na] at a
  refine s (f111_3 r) (sTs (tb a 2 [T a4] r ti9 r r r r r (show _=#[V 8,V Q.Line,V 0,T a4,T be,V 0,V 0,sn,T be,V 0,sn,Z x a2 z,sn] from r)) ?_)
  intro cr a
  try dsimp only [List.set] at a
  refine n (g (s (mp r) (s (mi r) (s (xAddW r r) ?_))))
  obtain ⟨⟨aa,bp,bq⟩,br,p⟩:=bs p
  replace p:=pi p
  replace p:=pi p
  have hc:=H_r03_block (a.pr [0] [1,2,3] [0] r)  br
  refine sc (ec cal66 r) hc ?_
  rintro _ ct ⟨H,I,aF,rfl,J⟩
  have ag:=a.chg.size
  replace a:=a.cl [0] [1,2,3] r J r
  try dsimp only [pick,nth,ca,na] at a
  replace a:=a.reb 0 w0.heap.size r ag
  try dsimp only [List.set] at a
  refine s xMove (s (xExtract r r) (s (xExtract r r) (s (f111_12 r) (sTs (tb a 3 [Z H aa I] r ti80 r r r r r (show _=#[V 8,V Q.Line,V 0,T a4,T be,V 0,V 0,sn,T be,V 0,sn,Z x a2 z,Z H aa I] from r)) ?_))))
  intro cu a
  try dsimp only [List.set] at a
  refine n (q (g (s (xLoadS [V 8,V Q.Line,V 0,T a4,T be,V 0,V 0,sn,T be,V 0,sn,Z x a2 z,Z H aa I] u111_ r ti111 r r (Cells.part (a.bk 3 r).cells (o2:=0) r)) (sTs (tb a 4 [V 8,V Q.Line,V 0,T a4,T be,V 0,V 0,sn,T be,V 0,sn,Z x a2 z,Z H aa I] r ti111 r r r r r (show _=#[V 8,V Q.Line,V 0,T a4,T be,V 0,V 0,sn,T be,V 0,sn,Z x a2 z,Z H aa I] from r)) ?_))))
  intro cv a
  try dsimp only [List.set] at a
  refine n (wRt ?_)
  replace a:=a.frz 2 4 r r
  try dsimp only [List.eraseIdx] at a
  replace a:=a.frz 0 1 r r
  try dsimp only [List.eraseIdx] at a
  replace a:=a.dadd (d:=.l none 0 ([]:List Ge)) ln_
  replace a:=a.dadd (d:=.l none 0 ([]:List Ge)) ln_
  obtain rfl:=sm p
  refine resV1 r (rdA r u111_ r ti111 r (a.bk 2 r)) ?_
  exact pok (⟨none,0,none,0,x,z,H,I,r,(a.ad [0] [1,0,3,2,4])⟩)
 refine wIfF (bf aw) (q (g (s (xEqlT' r r) (s (xAsB r) (n ?_)))))
 rcases iv p with ⟨ax,p⟩|⟨ax,p⟩
 ·refine wIfT (bt ax) (q (g (s (f111_0 r) (sTs (tb a 0 [V 6] r ti3 r r r r r (show _=#[V 6,V Q.Line,V 0,T be,T be,V 0,V 0,sn,T be,V 0,sn,sn,sn] from r)) ?_))))
  intro cw a
  try dsimp only [List.set] at a
  refine n (q (g (s (mp r) ?_)))
  replace a:=a.dadd (d:=.l none 0 ([]:List Ge)) ln_
  replace a:=a.dadd (d:=.l none 0 ([]:List Ge)) ln_
  replace a:=a.dadd (d:=.l none 0 ([]:List Gs)) ln_
  replace a:=a.dadd (d:=.l none 0 ([]:List Gs)) ln_
  obtain ⟨⟨bu,j⟩,bv,p⟩:=bs p
  replace p:=pi p
  have hc:=(sp_r03_value fu) (a.pr [2,0] [1] [4,3,2,1,0] r)  bv
  refine sc (ec cal113 r) hc ?_
  rintro _ cx ⟨S,U,rfl,J⟩
  replace a:=a.cl [2,0] [1] r J r
  try dsimp only [pick,nth,ca,na] at a
  refine n (g (s (mp r) ?_))
  obtain ⟨bw,bz,p⟩:=bs p
  have hc:=(sp_r03_take fu) (a.pr [0] [1,2] [0] r)  bz
  refine sc (ec cal64 r) hc ?_
  rintro _ cy ⟨rfl,J⟩
  replace a:=a.cl [0] [1,2] r J r
  try dsimp only [pick,nth,ca,na] at a
  refine n (q (g (s (xLoadS [V j.Kind,V j.Line,V j.Id,T j.Name,T j.Type_,V j.Len,V j.Var,Z none j.Target 0,T j.Func,V j.Callee,Z S j.Args U,Z none j.Body 0,Z none j.Else 0] u111_ r ti111 r r (Cells.part (a.bk 1 r).cells (o2:=0) r)) (sTs (tb a 2 [V j.Kind,V j.Line,V j.Id,T j.Name,T j.Type_,V j.Len,V j.Var,Z none j.Target 0,T j.Func,V j.Callee,Z S j.Args U,Z none j.Body 0,Z none j.Else 0] r ti111 r r r r r (show _=#[V j.Kind,V j.Line,V j.Id,T j.Name,T j.Type_,V j.Len,V j.Var,Z none j.Target 0,T j.Func,V j.Callee,Z S j.Args U,Z none j.Body 0,Z none j.Else 0] from r)) ?_))))
  intro cz a
  try dsimp only [List.set] at a
  refine n (wRt ?_)
  obtain rfl:=sm p
  refine resV1 r (rdA r u111_ r ti111 r (a.bk 2 r)) ?_
  exact pok (⟨none,0,S,U,none,0,none,0,r,(a.ad [0] [2,3,4,5,0])⟩)
 refine wIfF (bf ax) (q (g (s (xEqlT' r r) (s (xAsB r) (n ?_)))))
 rcases iv p with ⟨ay,p⟩|⟨ay,p⟩
 ·refine wIfT (bt ay) (q (g (s (f111_0 r) (sTs (tb a 0 [V 7] r ti3 r r r r r (show _=#[V 7,V Q.Line,V 0,T be,T be,V 0,V 0,sn,T be,V 0,sn,sn,sn] from r)) ?_))))
  intro cA a
  try dsimp only [List.set] at a
  refine n (q (g (s (mp r) ?_)))
  replace a:=a.dadd (d:=.l none 0 ([]:List Ge)) ln_
  replace a:=a.dadd (d:=.l none 0 ([]:List Ge)) ln_
  replace a:=a.dadd (d:=.l none 0 ([]:List Gs)) ln_
  replace a:=a.dadd (d:=.l none 0 ([]:List Gs)) ln_
  obtain ⟨⟨bA,m⟩,bB,p⟩:=bs p
  replace p:=pi p
  have hc:=(sp_r03_value fu) (a.pr [2,0] [1] [4,3,2,1,0] r)  bB
  refine sc (ec cal113 r) hc ?_
  rintro _ cB ⟨W,X,rfl,J⟩
  replace a:=a.cl [2,0] [1] r J r
  try dsimp only [pick,nth,ca,na] at a
  refine n (g (s (mp r) ?_))
  obtain ⟨bC,bD,p⟩:=bs p
  have hc:=(sp_r03_take fu) (a.pr [0] [1,2] [0] r)  bD
  refine sc (ec cal64 r) hc ?_
  rintro _ cC ⟨rfl,J⟩
  replace a:=a.cl [0] [1,2] r J r
  try dsimp only [pick,nth,ca,na] at a
  refine n (q (g (s (xLoadS [V m.Kind,V m.Line,V m.Id,T m.Name,T m.Type_,V m.Len,V m.Var,Z none m.Target 0,T m.Func,V m.Callee,Z W m.Args X,Z none m.Body 0,Z none m.Else 0] u111_ r ti111 r r (Cells.part (a.bk 1 r).cells (o2:=0) r)) (sTs (tb a 2 [V m.Kind,V m.Line,V m.Id,T m.Name,T m.Type_,V m.Len,V m.Var,Z none m.Target 0,T m.Func,V m.Callee,Z W m.Args X,Z none m.Body 0,Z none m.Else 0] r ti111 r r r r r (show _=#[V m.Kind,V m.Line,V m.Id,T m.Name,T m.Type_,V m.Len,V m.Var,Z none m.Target 0,T m.Func,V m.Callee,Z W m.Args X,Z none m.Body 0,Z none m.Else 0] from r)) ?_))))
  intro cD a
  try dsimp only [List.set] at a
  refine n (wRt ?_)
  obtain rfl:=sm p
  refine resV1 r (rdA r u111_ r ti111 r (a.bk 2 r)) ?_
  exact pok (⟨none,0,W,X,none,0,none,0,r,(a.ad [0] [2,3,4,5,0])⟩)
 refine wIfF (bf ay) (q (g (s (xEqlT' r r) (s (xAsB r) (n ?_)))))
 rcases iv p with ⟨az,p⟩|⟨az,p⟩
 ·refine wIfT (bt az) (q (g (s (f111_0 r) (sTs (tb a 0 [V 9] r ti3 r r r r r (show _=#[V 9,V Q.Line,V 0,T be,T be,V 0,V 0,sn,T be,V 0,sn,sn,sn] from r)) ?_))))
  intro cE a
  try dsimp only [List.set] at a
  refine n (q (g (s (mp r) ?_)))
  replace a:=a.dadd (d:=.l none 0 ([]:List Ge)) ln_
  replace a:=a.dadd (d:=.l none 0 ([]:List Ge)) ln_
  replace a:=a.dadd (d:=.l none 0 ([]:List Gs)) ln_
  replace a:=a.dadd (d:=.l none 0 ([]:List Gs)) ln_
  obtain ⟨⟨bE,o⟩,bF,p⟩:=bs p
  replace p:=pi p
  have hc:=(sp_r03_value fu) (a.pr [2,0] [1] [4,3,2,1,0] r)  bF
  refine sc (ec cal113 r) hc ?_
  rintro _ cF ⟨Y,a0,rfl,J⟩
  replace a:=a.cl [2,0] [1] r J r
  try dsimp only [pick,nth,ca,na] at a
  refine n (g (s (mp r) ?_))
  obtain ⟨aM,aJ,p⟩:=bs p
  have hc:=(sp_r03_take fu) (a.pr [0] [1,2] [0] r)  aJ
  refine sc (ec cal64 r) hc ?_
  rintro _ bL ⟨rfl,J⟩
  replace a:=a.cl [0] [1,2] r J r
  try dsimp only [pick,nth,ca,na] at a
  refine n (q (g (s (xLoadS [V o.Kind,V o.Line,V o.Id,T o.Name,T o.Type_,V o.Len,V o.Var,Z none o.Target 0,T o.Func,V o.Callee,Z Y o.Args a0,Z none o.Body 0,Z none o.Else 0] u111_ r ti111 r r (Cells.part (a.bk 1 r).cells (o2:=0) r)) (sTs (tb a 2 [V o.Kind,V o.Line,V o.Id,T o.Name,T o.Type_,V o.Len,V o.Var,Z none o.Target 0,T o.Func,V o.Callee,Z Y o.Args a0,Z none o.Body 0,Z none o.Else 0] r ti111 r r r r r (show _=#[V o.Kind,V o.Line,V o.Id,T o.Name,T o.Type_,V o.Len,V o.Var,Z none o.Target 0,T o.Func,V o.Callee,Z Y o.Args a0,Z none o.Body 0,Z none o.Else 0] from r)) ?_))))
  intro bM a
  try dsimp only [List.set] at a
  refine n (wRt ?_)
  obtain rfl:=sm p
  refine resV1 r (rdA r u111_ r ti111 r (a.bk 2 r)) ?_
  exact pok (⟨none,0,Y,a0,none,0,none,0,r,(a.ad [0] [2,3,4,5,0])⟩)
 refine wIfF (bf az) (q (g (s (mp r) ?_)))
 replace a:=a.dadd (d:=.l none 0 ([]:List Ge)) ln_
 replace a:=a.dadd (d:=.l none 0 ([]:List Ge)) ln_
 replace a:=a.dadd (d:=.l none 0 ([]:List Gs)) ln_
 replace a:=a.dadd (d:=.l none 0 ([]:List Gs)) ln_
 obtain ⟨⟨aN,b⟩,aK,p⟩:=bs p
 replace p:=pi p
 have hc:=(sp_r03_effect fu) (a.pr [2,0] [1] [4,3,2,1,0] r)  aK
 refine sc (ec cal114 r) hc ?_
 rintro _ bN ⟨K,L,M,N,rfl,J⟩
 replace a:=a.cl [2,0] [1] r J r
 try dsimp only [pick,nth,ca,na] at a
 refine n (g (s (mp r) ?_))
 obtain ⟨aO,aL,p⟩:=bs p
 have hc:=(sp_r03_take fu) (a.pr [0] [1,2] [0] r)  aL
 refine sc (ec cal64 r) hc ?_
 rintro _ bO ⟨rfl,J⟩
 replace a:=a.cl [0] [1,2] r J r
 try dsimp only [pick,nth,ca,na] at a
 refine n (q (g (s (xLoadS [V b.Kind,V b.Line,V b.Id,T b.Name,T b.Type_,V b.Len,V b.Var,Z K b.Target L,T b.Func,V b.Callee,Z M b.Args N,Z none b.Body 0,Z none b.Else 0] u111_ r ti111 r r (Cells.part (a.bk 1 r).cells (o2:=0) r)) (sTs (tb a 2 [V b.Kind,V b.Line,V b.Id,T b.Name,T b.Type_,V b.Len,V b.Var,Z K b.Target L,T b.Func,V b.Callee,Z M b.Args N,Z none b.Body 0,Z none b.Else 0] r ti111 r r r r r (show _=#[V b.Kind,V b.Line,V b.Id,T b.Name,T b.Type_,V b.Len,V b.Var,Z K b.Target L,T b.Func,V b.Callee,Z M b.Args N,Z none b.Body 0,Z none b.Else 0] from r)) ?_))))
 intro bP a
 try dsimp only [List.set] at a
 refine n (wRt ?_)
 obtain rfl:=sm p
 refine resV1 r (rdA r u111_ r ti111 r (a.bk 2 r)) ?_
 exact pok (⟨K,L,M,N,none,0,none,0,r,(a.ad [0] [2,3,4,5,0])⟩)
theorem sps_r03_block (fu:Nat):Ct_r03_block (m_r03_block fu)∧Ct_r03_statement (m_r03_statement fu):=by
 induction fu with
 | zero=>exact ⟨by intro a b;intros;exact nn (by assumption),by intro a b;intros;exact nn (by assumption)⟩
 | succ fu ih=>exact ⟨wk_r03_block fu (m_r03_block fu) (m_r03_statement fu) ih.1 ih.2,wk_r03_statement fu (m_r03_block fu) (m_r03_statement fu) ih.1 ih.2⟩
theorem sp_r03_block (fu:Nat):Ct_r03_block (m_r03_block fu):=(sps_r03_block fu).1
def Ct_r03_program (m:GState→Option (GProgram × GState)):Prop:=∀ {p:World} {t:Nat→Prop} {j:GState} {k:Nat} {a:Option Addr} {b:Nat} {R:GProgram × GState},Pre p t [.box k 102 #[Z a j.l b,V j.at_,V j.line,V j.e]] [.l a b j.l]→m j=some R→
 Calls Try.prog 45 #[Pt k] p (Ret fun v w=>pel R fun o c=>∃ (d:OA)(f:Nat)(h:OA)(i:Nat),v=.agg #[Z d o.Records f,Z h o.Funcs i]∧Bx p w t (Gof [.box k 102 #[Z a j.l b,V j.at_,V j.line,V j.e]]) [.box k 102 #[Z a c.l b,V c.at_,V c.line,V c.e]] [.l d f o.Records,.l h i o.Funcs,.l a b c.l])
def m_r03_program_L0 (fu:Nat):Nat→(List Gr)→(List GToken)→Int→Int→Int→Option (Ld (List Gr × List GToken × Int × Int × Int) (GProgram × GState))
 | 0,_,_,_,_,_=>none
 | u+1,h,c,d,f,b=>
 if b=0 then
  (m_r03_is fu (⟨c,d,f,b⟩:GState) 0 (⟨#[114,101,99,111,114,100]⟩:BA)).bind fun m=>
  if m=true then
   (m_r03_name fu (⟨c,(wr (d+1)),f,b⟩:GState)).bind fun v=>
   pel v fun o p=>
   (m_r03_take fu p (⟨#[123]⟩:BA)).bind fun i=>
   (m_r03_names fu i).bind fun v=>
   pel v fun j k=>
   (m_r03_take fu k (⟨#[125]⟩:BA)).bind fun a=>
   (app h ([(⟨o,j⟩:Gr)]:List Gr)).bind fun t=>
   m_r03_program_L0 fu u t a.l a.at_ a.line a.e
  else
   some (.go (h,c,d,f,b))
 else
  some (.go (h,c,d,f,b))
def m_r03_program_J2 (fu:Nat)(a:GState):Option (Ld (List BA × List GToken × Int × Int × Int) (GProgram × GState)):=
 if a.e=0 then
  (m_r03_is fu a 0 (⟨#[41]⟩:BA)).bind fun c=>
  if (!c)=true then
   (m_r03_names fu a).bind fun f=>
   pel f fun d b=>
   some (.go (d,b.l,b.at_,b.line,b.e))
  else
   some (.go (([]:List BA),a.l,a.at_,a.line,a.e))
 else
  some (.go (([]:List BA),a.l,a.at_,a.line,a.e))
def m_r03_program_L1 (fu:Nat):Nat→(List Gn)→(List GToken)→Int→Int→Int→Option (Ld (List Gn × List GToken × Int × Int × Int) (GProgram × GState))
 | 0,_,_,_,_,_=>none
 | B+1,h,a,b,d,c=>
 if c=0 then
  (m_r03_is fu (⟨a,b,d,c⟩:GState) 0 (⟨#[102,117,110,99]⟩:BA)).bind fun i=>
  if i=true then
   (ix a b).bind fun C=>
   (m_r03_name fu (⟨a,(wr (b+1)),d,c⟩:GState)).bind fun F=>
   pel F fun j k=>
   (m_r03_take fu k (⟨#[40]⟩:BA)).bind fun m=>
   (m_r03_program_J2 fu m).bind fun F=>F.el (fun F=>
   pel F fun p F=>pel F fun t F=>pel F fun u F=>pel F fun v w=>
   (m_r03_take fu (⟨t,u,v,w⟩:GState) (⟨#[41]⟩:BA)).bind fun x=>
   (m_r03_block fu x 1).bind fun F=>
   pel F fun z F=>pel F fun A f=>
   (app z ([(⟨10,A,0,be,be,0,0,([]:List Ge),be,0,([]:List Ge),([]:List Gs),([]:List Gs)⟩:Gs)]:List Gs)).bind fun D=>
   (app h ([(⟨j,C.Line,p,D⟩:Gn)]:List Gn)).bind fun E=>
   m_r03_program_L1 fu B E f.l f.at_ f.line f.e
   ) (fun o=>some (.out o))
  else
   some (.go (h,a,b,d,c))
 else
  some (.go (h,a,b,d,c))
def m_r03_program (fu:Nat)(u:GState):Option (GProgram × GState):=
 (m_r03_program_L0 fu fu ([]:List Gr) u.l u.at_ u.line u.e).bind fun v=>v.el (fun v=>
 pel v fun h v=>pel v fun k v=>pel v fun m v=>pel v fun p t=>
 (m_r03_program_L1 fu fu ([]:List Gn) k m p t).bind fun v=>v.el (fun v=>
 pel v fun f v=>pel v fun b v=>pel v fun c v=>pel v fun d a=>
 if a=0 then
  (m_r03_kind fu (⟨b,c,d,a⟩:GState) 0 0).bind fun i=>
  if (!i)=true then
   (m_r03_fail fu (⟨b,c,d,a⟩:GState) 7).bind fun j=>
   some ((⟨h,f⟩:GProgram),j)
  else
   some ((⟨h,f⟩:GProgram),(⟨b,c,d,a⟩:GState))
 else
  some ((⟨h,f⟩:GProgram),(⟨b,c,d,a⟩:GState))
 ) (fun o=>some o)
 ) (fun o=>some o)
theorem sp_r03_program (fu:Nat):Ct_r03_program (m_r03_program fu):=by
 intro w0 cw x0 a2 x z R hP L
 unfold m_r03_program at L
 have a:=hP.bx
 clear hP
 generalize hG:Gof _=G at a ⊢
 refine cf Try.func45 r ?_
 refine wCut [(0,Pt a2)] ⟨r,y⟩ fun cx=>?_
 refine q (g (sTo (aNewB a (mAlloc ti26)) ?_))
 rintro _ w1 ⟨b1,rfl,a⟩
 refine n (q (g (sTo (aNewB a (mAlloc ti26)) ?_)))
 rintro _ w2 ⟨b2,rfl,a⟩
 refine n (q ?_)
 replace a:=a.owL Gr 127
 obtain ⟨Y3,u,L⟩:=bs L
 refine wJd (fun f w=>∃ (p:List Gr) (j:OA)(m:Nat)(t:LV)(F:List GToken) (M:Int)(N:Int)(Q:Int),Has f [(0,Pt a2),(2,Pt b1),(3,Pt b2)]∧Bx w0 w cw G [O w0.heap.size j m 127 Gr t,.box b2 26 #[Z j p m,sn],.box b1 26 #[sn,sn],.box a2 102 #[Z x F z,V M,V N,V Q]] [.l x z F,.els t p]∧Ld.go (p,F,M,N,Q)=Y3) (fun J3 aM=>?_) ?_
 ·refine wBk (wLoopGd (fun cy f w=>∃ (p:List Gr) (j:OA)(m:Nat)(t:LV)(F:List GToken) (M:Int)(N:Int)(Q:Int),Has f [(0,Pt a2),(2,Pt b1),(3,Pt b2)]∧Bx w0 w cw G [O w0.heap.size j m 127 Gr t,.box b2 26 #[Z j p m,sn],.box b1 26 #[sn,sn],.box a2 102 #[Z x F z,V M,V N,V Q]] [.l x z F,.els t p]∧m_r03_program_L0 fu cy p F M N Q=some Y3) fu ⟨([]:List Gr),none,0,[],x0.l,x0.at_,x0.line,x0.e,⟨r,r,r,y⟩,(a.dp [1,0]),u⟩ ?_)
  clear a u
  rintro n3 f w ⟨p,j,m,t,F,M,N,Q,hf,a,u⟩ K3 aZ
  obtain ⟨cx,rfl⟩:=has_updL _ _ hf
  clear hf
  cases n3 with
  | zero=>exact nn u
  | succ n3=>
   rw [m_r03_program_L0] at u
   refine q (q (g (s (mp r) (s (xn r) (s (f102_3 r) (s (l37 r (a.bk 3 r) r) (s (xEqlD r r) (s (xMvB r) ?_))))))))
   rcases iv u with ⟨h5,u⟩|⟨h5,u⟩
   ·rw [decide_eq_true h5]
    refine sGo r (s (mp r) ?_)
    obtain ⟨bB,h6,u⟩:=bs u
    refine sGo r ?_
    have hc:=(sp_r03_is fu) (a.pr [3] [0,1,2] [0] r)  h6
    refine sc (ec cal62 r) hc ?_
    rintro _ w6 ⟨rfl,X⟩
    replace a:=a.cl [3] [0,1,2] r X r
    try dsimp only [pick,nth,ca,na] at a
    refine s (xPkTB r r) (n ?_)
    rcases iv u with ⟨h7,u⟩|⟨h7,u⟩
    ·refine wIfT (cb h7) (wk (wBk (q (g (s (mp r) (s (xn r) (s (f102_1 r) (s (l3 r (a.bk 0 r) r) (s (xAddW r r) (s (xn r) (s (f102_1 r) (sTs (tb a 0 [V (wr (M+1))] r ti3 r r r r r (show _=#[Z x F z,V (wr (M+1)),V N,V Q] from r)) ?_))))))))))))
     intro w8 a
     try dsimp only [List.set] at a
     refine n (q (g (s (mp r) ?_)))
     obtain ⟨⟨a4,bC⟩,h9,u⟩:=bs u
     replace u:=pi u
     have hc:=(sp_r03_name fu) (a.pr [0] [1,2,3] [1] r)  h9
     refine sc (ec cal63 r) hc ?_
     rintro _ w9 ⟨rfl,X⟩
     replace a:=a.cl [0] [1,2,3] r X r
     try dsimp only [pick,nth,ca,na] at a
     refine s (bd127_0 r) (sTo (aNewB a (mAlloc ti127)) ?_)
     rintro _ bF ⟨bG,rfl,a⟩
     refine sTs (tb a 0 [T a4,sn] r ti127 r r r r r (show _=#[T a4,sn] from r)) ?_
     intro bH a
     try dsimp only [List.set] at a
     refine n (q (g (s (mp r) ?_)))
     obtain ⟨b3,b4,u⟩:=bs u
     have hc:=(sp_r03_take fu) (a.pr [1] [0,2,3,4] [0] r)  b4
     refine sc (ec cal64 r) hc ?_
     rintro _ bI ⟨rfl,X⟩
     replace a:=a.cl [1] [0,2,3,4] r X r
     try dsimp only [pick,nth,ca,na] at a
     refine n (q (g (s (mp r) ?_)))
     obtain ⟨⟨a3,b5⟩,b6,u⟩:=bs u
     replace u:=pi u
     have hc:=(sp_r03_names fu) (a.pr [0] [1,2,3,4] [0] r)  b6
     refine sc (ec cal65 r) hc ?_
     rintro _ bJ ⟨H,I,aI,rfl,X⟩
     have aj:=a.chg.size
     replace a:=a.cl [0] [1,2,3,4] r X r
     try dsimp only [pick,nth,ca,na] at a
     replace a:=a.reb 0 w0.heap.size r aj
     try dsimp only [List.set] at a
     refine s (f127_1 r) (sTs (tb a 2 [Z H a3 I] r ti70 r r r r r (show _=#[T a4,Z H a3 I] from r)) ?_)
     intro bK a
     try dsimp only [List.set] at a
     refine n (q (g (s (mp r) ?_)))
     obtain ⟨a5,b7,u⟩:=bs u
     have hc:=(sp_r03_take fu) (a.pr [1] [0,2,3,4,5] [1] r)  b7
     refine sc (ec cal64 r) hc ?_
     rintro _ bL ⟨rfl,X⟩
     replace a:=a.cl [1] [0,2,3,4,5] r X r
     try dsimp only [pick,nth,ca,na] at a
     refine n (g (s (f26_0 r) (s (l23 r (a.bk 4 r) r) (s (xLoadS [T a4,Z H a3 I] u127_ r ti127 r r (Cells.part (a.bk 2 r).cells (o2:=0) r)) ?_))))
     replace a:=a.frz 1 1 r r
     try dsimp only [List.eraseIdx] at a
     refine sTo (aRowB a [[T a4,Z H a3 I]] ([(⟨a4,a3⟩:Gr)]:List Gr) (bs23_1_a r) r r (by decide) ⟨(GRecord.inn ⟨H,I,r,(a.dl 0 r)⟩),y⟩) ?_
     rintro _ bM ⟨bN,rfl,a⟩
     obtain ⟨ay,aO,u⟩:=bs u
     refine sTo (aAppB a 3 8 r r u23_ ti127 r (by decide) (by decide) (Nat.le_refl _) r r (a.ysO 0 0 r r) aO) ?_
     rintro _ bO ⟨az,aA,b8,rfl,a⟩
     refine s (f26_0 r) (sTs (tb a 4 [Z az ay aA] r ti23 r r r r r (show _=#[Z az ay aA,sn] from r)) ?_)
     intro bP a
     try dsimp only [List.set] at a
     refine n ?_
     exact aZ n3 _ _ (Nat.lt_succ_self _) ⟨ay,az,aA,b8,a5.l,a5.at_,a5.line,a5.e,⟨r,r,r,y⟩,(a.ad [3,4,5,1] [2,8]),u⟩
    replace h7:=nt h7
    refine wIfF (cb h7) (wEx ?_)
    exact aM _ _ ⟨p,j,m,t,F,M,N,Q,⟨r,r,r,y⟩,(a.ad [1,2,3,0] [1,2]),sm u⟩
   rw [decide_eq_false h5]
   refine sNo r (sNo r (s (xPkFB r r) (n (wIfF r (wEx ?_)))))
   exact aM _ _ ⟨p,j,m,t,F,M,N,Q,⟨r,r,r,y⟩,a,sm u⟩
 clear a
 rintro f w ⟨p,j,m,t,F,M,N,Q,hf,a,b9⟩
 obtain ⟨cx,rfl⟩:=has_updL _ _ hf
 clear hf
 subst b9
 replace L:=gi L
 replace L:=pi L
 replace L:=pi L
 replace L:=pi L
 replace L:=pi L
 refine q ?_
 replace a:=a.owL Gn 82
 obtain ⟨aP,b,L⟩:=bs L
 refine wJd (fun f w=>∃ (o:List Gn) (c:OA)(d:Nat)(v:LV)(A:List GToken) (C:Int)(D:Int)(E:Int),Has f [(0,Pt a2),(2,Pt b1),(3,Pt b2)]∧Bx w0 w cw G [O w0.heap.size c d 82 Gn v,O w0.heap.size j m 127 Gr t,.box b2 26 #[Z j p m,Z c o d],.box b1 26 #[sn,sn],.box a2 102 #[Z x A z,V C,V D,V E]] [.l x z A,.els v o,.els t p]∧Ld.go (o,A,C,D,E)=aP) (fun bQ ax=>?_) ?_
 ·refine wBk (wLoopGd (fun cy f w=>∃ (o:List Gn) (c:OA)(d:Nat)(v:LV)(A:List GToken) (C:Int)(D:Int)(E:Int),Has f [(0,Pt a2),(2,Pt b1),(3,Pt b2)]∧Bx w0 w cw G [O w0.heap.size c d 82 Gn v,O w0.heap.size j m 127 Gr t,.box b2 26 #[Z j p m,Z c o d],.box b1 26 #[sn,sn],.box a2 102 #[Z x A z,V C,V D,V E]] [.l x z A,.els v o,.els t p]∧m_r03_program_L1 fu cy o A C D E=some aP) fu ⟨([]:List Gn),none,0,[],F,M,N,Q,⟨r,r,r,y⟩,(a.dp [1,0,2]),b⟩ ?_)
  clear a b
  rintro aB f w ⟨o,c,d,v,A,C,D,E,hf,a,b⟩ bR aQ
  obtain ⟨cx,rfl⟩:=has_updL _ _ hf
  clear hf
  cases aB with
  | zero=>exact nn b
  | succ aB=>
   rw [m_r03_program_L1] at b
   refine q (q (g (s (mp r) (s (xn r) (s (f102_3 r) (s (l37 r (a.bk 4 r) r) (s (xEqlD r r) (s (xMvB r) ?_))))))))
   rcases iv b with ⟨aC,b⟩|⟨aC,b⟩
   ·rw [decide_eq_true aC]
    refine sGo r (s (mp r) ?_)
    obtain ⟨ba,bb,b⟩:=bs b
    refine sGo r ?_
    have hc:=(sp_r03_is fu) (a.pr [4] [0,1,2,3] [0] r)  bb
    refine sc (ec cal62 r) hc ?_
    rintro _ bS ⟨rfl,X⟩
    replace a:=a.cl [4] [0,1,2,3] r X r
    try dsimp only [pick,nth,ca,na] at a
    refine s (xPkTB r r) (n ?_)
    rcases iv b with ⟨ak,b⟩|⟨ak,b⟩
    ·refine wIfT (cb ak) (wk (wBk (q (wDr1 a [0] [1] [] (by kernel_rfl) ?_))))
     replace a:=a.drew
     have hs:=(a.ad [0] [1])
     refine pF 0 r (mp r) hs (pF 1 r (xn r) hs (pF 2 r (f102_0 r) hs (uF 3 r (fun hS=>l97 r (hS.bk 0 r) r) hs (pF 4 r (mp r) hs (pF 5 r (xn r) hs (pF 6 r (f102_1 r) hs (uF 7 r (fun hS=>l3 r (hS.bk 0 r) r) hs ?_)))))))
     obtain ⟨Y,ah,b⟩:=bs b
     obtain ⟨bT,aR,ah⟩:=ix_inv ah
     refine pF 8 r (xIdR u97_ ti143 r r aR (a.dl 1 r) ah) hs (pF 9 r (f143_1 r) hs (tU 10 r (fun _ hS=>xLoad u3_ r r ((elF (ds:=[V Y.Kind,V Y.Line,T Y.Text,V Y.Number]) (hS.dl 0 r) ah (fun _ h=>h)) 1 _ r)) (sF hs) (pF 11 r (bd82_1 r) hs ?_)))
     refine hO 12 (oo r r (aNewB a (mAlloc ti82)) ?_)
     rintro _ bU ⟨aS,rfl,a⟩
     have hs:=(a.ad [1] [1])
     refine ⟨(sF hs),?_⟩
     refine hO 13 (os r r (tb a 0 [T be,V Y.Line,sn,sn] r ti82 r r r r r (show _=#[T be,V Y.Line,sn,sn] from r)) ?_)
     intro bV a
     try dsimp only [List.set] at a
     have hs:=(a.ad [1] [1])
     refine ⟨(sF hs),?_⟩
     refine hD (q (g (s (mp r) (s (xn r) (s (f102_1 r) (s (l3 r (a.bk 1 r) r) (s (xAddW r r) (s (xn r) (s (f102_1 r) (sTs (tb a 1 [V (wr (C+1))] r ti3 r r r r r (show _=#[Z x A z,V (wr (C+1)),V D,V E] from r)) ?_))))))))))
     intro bW a
     try dsimp only [List.set] at a
     refine n (q (g (s (mp r) ?_)))
     obtain ⟨⟨S,bc⟩,bd,b⟩:=bs b
     replace b:=pi b
     have hc:=(sp_r03_name fu) (a.pr [1] [0,2,3,4,5] [1] r)  bd
     refine sc (ec cal63 r) hc ?_
     rintro _ bX ⟨rfl,X⟩
     replace a:=a.cl [1] [0,2,3,4,5] r X r
     try dsimp only [pick,nth,ca,na] at a
     refine s (f82_0 r) (sTs (tb a 1 [T S] r ti9 r r r r r (show _=#[T S,V Y.Line,sn,sn] from r)) ?_)
     intro bY a
     try dsimp only [List.set] at a
     refine n (q (g (s (mp r) ?_)))
     obtain ⟨U,bg,b⟩:=bs b
     have hc:=(sp_r03_take fu) (a.pr [0] [1,2,3,4,5] [0] r)  bg
     refine sc (ec cal64 r) hc ?_
     rintro _ bZ ⟨rfl,X⟩
     replace a:=a.cl [0] [1,2,3,4,5] r X r
     try dsimp only [pick,nth,ca,na] at a
     refine n (q ?_)
     replace a:=a.owL BA 9
     obtain ⟨bh,B,b⟩:=bs b
     refine wJd (fun f w=>∃ (W:List BA) (J:OA)(K:Nat)(a6:LV)(a7:List GToken) (ac:Int)(ae:Int)(af:Int),Has f [(0,Pt a2),(2,Pt b1),(3,Pt b2),(5,Pt aS)]∧Bx w0 w cw G [O w0.heap.size J K 9 BA a6,.box a2 102 #[Z x a7 z,V ac,V ae,V af],.box aS 82 #[T S,V Y.Line,Z J W K,sn],O w0.heap.size c d 82 Gn v,O w0.heap.size j m 127 Gr t,.box b2 26 #[Z j p m,Z c o d],.box b1 26 #[sn,sn]] [.l x z a7,.els a6 W,.els v o,.els t p]∧Ld.go (W,a7,ac,ae,af)=bh) (fun c0 al=>?_) ?_
     ·unfold m_r03_program_J2 at B
      refine q (g (s (mp r) (s (xn r) (s (f102_3 r) (s (l37 r (a.bk 1 r) r) (s (xEqlD r r) (s (xMvB r) ?_)))))))
      rcases iv B with ⟨aD,B⟩|⟨aD,B⟩
      ·rw [decide_eq_true aD]
       refine sGo r (s (mp r) ?_)
       obtain ⟨bi,bj,B⟩:=bs B
       refine sGo r ?_
       have hc:=(sp_r03_is fu) (a.pr [1] [0,2,3,4,5,6] [1] r)  bj
       refine sc (ec cal62 r) hc ?_
       rintro _ c1 ⟨rfl,X⟩
       replace a:=a.cl [1] [0,2,3,4,5,6] r X r
       try dsimp only [pick,nth,ca,na] at a
       refine sGo r (s (xNot r) (s (xPkTB r r) (n ?_)))
       rcases iv B with ⟨am,B⟩|⟨am,B⟩
       ·refine wIfT (cb am) (g (s (mp r) ?_))
        obtain ⟨⟨ag,a8⟩,bl,B⟩:=bs B
        replace B:=pi B
        have hc:=(sp_r03_names fu) (a.pr [0] [1,2,3,4,5,6] [2] r)  bl
        refine sc (ec cal65 r) hc ?_
        rintro _ c2 ⟨a0,a1,ai,rfl,X⟩
        have aj:=a.chg.size
        replace a:=a.cl [0] [1,2,3,4,5,6] r X r
        try dsimp only [pick,nth,ca,na] at a
        replace a:=a.reb 0 w0.heap.size r aj
        try dsimp only [List.set] at a
        refine s (f82_2 r) (sTs (tb a 3 [Z a0 ag a1] r ti70 r r r r r (show _=#[T S,V Y.Line,Z a0 ag a1,sn] from r)) ?_)
        intro c3 a
        try dsimp only [List.set] at a
        refine n ?_
        exact al _ _ ⟨ag,a0,a1,ai,a8.l,a8.at_,a8.line,a8.e,⟨r,r,r,r,y⟩,(a.ad [0,1,3,4,5,6,7] [1,0,8,9]),sm B⟩
       replace am:=nt am
       refine wIfF (cb am) (wk ?_)
       exact al _ _ ⟨([]:List BA),none,0,[],U.l,U.at_,U.line,U.e,⟨r,r,r,r,y⟩,(a.ad [1,0,2,3,4,5,6] [2,1,6,7]),sm B⟩
      rw [decide_eq_false aD]
      refine sNo r (sNo r (sNo r (s (xPkFB r r) (n (wIfF r (wk ?_))))))
      exact al _ _ ⟨([]:List BA),none,0,[],U.l,U.at_,U.line,U.e,⟨r,r,r,r,y⟩,(a.dp [1,0,5,6]),sm B⟩
     clear a
     rintro f w ⟨W,J,K,a6,a7,ac,ae,af,hf,a,aT⟩
     obtain ⟨cx,rfl⟩:=has_updL _ _ hf
     clear hf
     subst aT
     replace b:=gi b
     replace b:=pi b
     replace b:=pi b
     replace b:=pi b
     replace b:=pi b
     refine q (g (s (mp r) ?_))
     obtain ⟨bm,bn,b⟩:=bs b
     have hc:=(sp_r03_take fu) (a.pr [1] [0,2,3,4,5,6] [0] r)  bn
     refine sc (ec cal64 r) hc ?_
     rintro _ c4 ⟨rfl,X⟩
     replace a:=a.cl [1] [0,2,3,4,5,6] r X r
     try dsimp only [pick,nth,ca,na] at a
     refine n (q (g (s (mp r) ?_)))
     obtain ⟨⟨bo,an,a9⟩,bp,b⟩:=bs b
     replace b:=pi b
     replace b:=pi b
     have hc:=(sp_r03_block fu) (a.pr [0] [1,2,3,4,5,6] [0] r)  bp
     refine sc (ec cal66 r) hc ?_
     rintro _ c5 ⟨aJ,aK,aL,rfl,X⟩
     have aj:=a.chg.size
     replace a:=a.cl [0] [1,2,3,4,5,6] r X r
     try dsimp only [pick,nth,ca,na] at a
     replace a:=a.reb 0 w0.heap.size r aj
     try dsimp only [List.set] at a
     refine s xMove (s (xExtract r r) (s (xExtract r r) (s (xAsS r) (s (xi r) (n (q (g (s (xMvS r) (s (mi r) (s (bd111_0_1 r r) (sTo (aRowB a [[V 10,V an,V 0,T be,T be,V 0,V 0,sn,T be,V 0,sn,sn,sn]] ([(⟨10,an,0,be,be,0,0,([]:List Ge),be,0,([]:List Ge),([]:List Gs),([]:List Gs)⟩:Gs)]:List Gs) (bs80_1_a r) r r (by decide) ⟨(GStmt.inn ⟨none,0,none,0,none,0,none,0,r,ln_,ln_,ln_,ln_⟩),y⟩) ?_)))))))))))
     rintro _ c6 ⟨c7,rfl,a⟩
     obtain ⟨ao,aU,b⟩:=bs b
     refine sTo (aAppB a 1 1 r r u80_ ti111 r (by decide) (by decide) (Nat.le_refl _) r r (a.ysO 0 0 r r) aU) ?_
     rintro _ c8 ⟨ap,aq,c9,rfl,a⟩
     refine s (f82_3 r) (sTs (tb a 4 [Z ap ao aq] r ti80 r r r r r (show _=#[T S,V Y.Line,Z J W K,Z ap ao aq] from r)) ?_)
     intro cc a
     try dsimp only [List.set] at a
     refine n (g (s (f26_1 r) (s (l24 r (a.bk 7 r) r) (s (xLoadS [T S,V Y.Line,Z J W K,Z ap ao aq] u82_ r ti82 r r (Cells.part (a.bk 4 r).cells (o2:=0) r)) ?_))))
     replace a:=a.frz 3 5 r r
     try dsimp only [List.eraseIdx] at a
     replace a:=a.frz 1 2 r r
     try dsimp only [List.eraseIdx] at a
     refine sTo (aRowB a [[T S,V Y.Line,Z J W K,Z ap ao aq]] ([(⟨S,Y.Line,W,ao⟩:Gn)]:List Gn) (bs24_1_a r) r r (by decide) ⟨(GFunc.inn ⟨J,K,ap,aq,r,(a.dl 1 r),(a.dl 0 r)⟩),y⟩) ?_
     rintro _ cd ⟨ce,rfl,a⟩
     obtain ⟨aE,aV,b⟩:=bs b
     refine sTo (aAppB a 4 7 r r u24_ ti82 r (by decide) (by decide) (Nat.le_refl _) r r (a.ysO 0 0 r r) aV) ?_
     rintro _ cg ⟨aF,aG,bq,rfl,a⟩
     refine s (f26_1 r) (sTs (tb a 6 [Z aF aE aG] r ti24 r r r r r (show _=#[Z j p m,Z aF aE aG] from r)) ?_)
     intro ch a
     try dsimp only [List.set] at a
     refine n ?_
     exact aQ aB _ _ (Nat.lt_succ_self _) ⟨aE,aF,aG,bq,a9.l,a9.at_,a9.line,a9.e,⟨r,r,r,y⟩,(a.ad [4,5,6,7,2] [4,7,8]),b⟩
    replace ak:=nt ak
    refine wIfF (cb ak) (wEx ?_)
    exact ax _ _ ⟨o,c,d,v,A,C,D,E,⟨r,r,r,y⟩,(a.ad [1,2,3,4,0] [1,2,3]),sm b⟩
   rw [decide_eq_false aC]
   refine sNo r (sNo r (s (xPkFB r r) (n (wIfF r (wEx ?_)))))
   exact ax _ _ ⟨o,c,d,v,A,C,D,E,⟨r,r,r,y⟩,a,sm b⟩
 clear a
 rintro f w ⟨o,c,d,v,A,C,D,E,hf,a,aW⟩
 obtain ⟨cx,rfl⟩:=has_updL _ _ hf
 clear hf
 subst aW
 replace L:=gi L
 replace L:=pi L
 replace L:=pi L
 replace L:=pi L
 replace L:=pi L
 refine q (q (g (s (mp r) (s (xn r) (s (f102_3 r) (s (l37 r (a.bk 4 r) r) (s (xEqlD r r) (s (xMvB r) ?_))))))))
 rcases iv L with ⟨aH,L⟩|⟨aH,L⟩
 ·rw [decide_eq_true aH]
  refine sGo r (s (mp r) ?_)
  obtain ⟨br,bu,L⟩:=bs L
  refine sGo r ?_
  have hc:=(sp_r03_kind fu) (a.pr [4] [0,1,2,3] [0] r)  bu
  refine sc (ec cal67 r) hc ?_
  rintro _ ci ⟨rfl,X⟩
  replace a:=a.cl [4] [0,1,2,3] r X r
  try dsimp only [pick,nth,ca,na] at a
  refine sGo r (s (xNot r) (s (xPkTB r r) (n ?_)))
  rcases iv L with ⟨ar,L⟩|⟨ar,L⟩
  ·refine wIfT (cb ar) (g (s (mp r) ?_))
   obtain ⟨bv,bw,L⟩:=bs L
   have hc:=(sp_r03_fail fu) (a.pr [0] [1,2,3,4] [1] r)  bw
   refine sc (ec cal68 r) hc ?_
   rintro _ cj ⟨rfl,X⟩
   replace a:=a.cl [0] [1,2,3,4] r X r
   try dsimp only [pick,nth,ca,na] at a
   refine n (q (g (s (xLoadS [Z j p m,Z c o d] u26_ r ti26 r r (Cells.part (a.bk 3 r).cells (o2:=0) r)) (sTs (tb a 4 [Z j p m,Z c o d] r ti26 r r r r r (show _=#[Z j p m,Z c o d] from r)) ?_))))
   intro ck a
   try dsimp only [List.set] at a
   refine n (wRt ?_)
   replace a:=a.frz 2 4 r r
   try dsimp only [List.eraseIdx] at a
   replace a:=a.frz 1 4 r r
   try dsimp only [List.eraseIdx] at a
   obtain rfl:=sm L
   refine resV1 r (rdA r u26_ r ti26 r (a.bk 2 r)) ?_
   exact pok (⟨j,m,c,d,r,(a.ad [0] [1,0,2])⟩)
  replace ar:=nt ar
  refine wIfF (cb ar) (wk (q (g (s (xLoadS [Z j p m,Z c o d] u26_ r ti26 r r (Cells.part (a.bk 3 r).cells (o2:=0) r)) (sTs (tb a 4 [Z j p m,Z c o d] r ti26 r r r r r (show _=#[Z j p m,Z c o d] from r)) ?_)))))
  intro cm a
  try dsimp only [List.set] at a
  refine n (wRt ?_)
  replace a:=a.frz 2 3 r r
  try dsimp only [List.eraseIdx] at a
  replace a:=a.frz 1 3 r r
  try dsimp only [List.eraseIdx] at a
  obtain rfl:=sm L
  refine resV1 r (rdA r u26_ r ti26 r (a.bk 2 r)) ?_
  exact pok (⟨j,m,c,d,r,(a.ad [0] [1,0,3])⟩)
 rw [decide_eq_false aH]
 refine sNo r (sNo r (sNo r (s (xPkFB r r) (n (wIfF r (wk (q (g (s (xLoadS [Z j p m,Z c o d] u26_ r ti26 r r (Cells.part (a.bk 2 r).cells (o2:=0) r)) (sTs (tb a 3 [Z j p m,Z c o d] r ti26 r r r r r (show _=#[Z j p m,Z c o d] from r)) ?_))))))))))
 intro cn a
 try dsimp only [List.set] at a
 refine n (wRt ?_)
 replace a:=a.frz 1 2 r r
 try dsimp only [List.eraseIdx] at a
 replace a:=a.frz 0 2 r r
 try dsimp only [List.eraseIdx] at a
 obtain rfl:=sm L
 refine resV1 r (rdA r u26_ r ti26 r (a.bk 1 r)) ?_
 exact pok (⟨j,m,c,d,r,(a.ad [2] [1,0,2])⟩)
def Ct_r03_Parse (m:BA→Option (GProgram × Int × Int)):Prop:=∀ {f:World} {k:Nat→Prop} {h:BA}  {R:GProgram × Int × Int},Pre f k [] []→m h=some R→
 Calls Try.prog 32 #[T h] f (Ret fun v w=>pel R fun e R=>pel R fun i j=>∃ (a:OA)(b:Nat)(c:OA)(d:Nat),v=.tuple #[.agg #[Z a e.Records b,Z c e.Funcs d],V i,V j]∧Bx f w k (Gof []) [] [.l a b e.Records,.l c d e.Funcs])
def m_r03_Parse (fu:Nat)(h:BA):Option (GProgram × Int × Int):=
 (m_r02_Scan fu h).bind fun i=>
 pel i fun c i=>pel i fun d b=>
 if b≠0 then
  some ((⟨([]:List Gr),([]:List Gn)⟩:GProgram),d,b)
 else
  (m_r03_program fu (⟨c,0,0,0⟩:GState)).bind fun i=>
  pel i fun f a=>
  if a.e≠0 then
   some ((⟨([]:List Gr),([]:List Gn)⟩:GProgram),a.line,a.e)
  else
   some (f,0,0)
theorem sp_r03_Parse (fu:Nat):Ct_r03_Parse (m_r03_Parse fu):=by
 intro E a3 F R z j
 unfold m_r03_Parse at j
 have a:=z.bx
 clear z
 generalize Q:Gof _=G at a ⊢
 refine cf Try.func32 r ?_
 refine wCut [(0,T F)] ⟨r,y⟩ fun a4=>?_
 refine q (g (sTo (aNewB a (mAlloc ti26)) ?_))
 rintro _ S ⟨U,rfl,a⟩
 refine s (xi r) (s (xi r) (n (q (g (s (xMvT r) ?_)))))
 obtain ⟨⟨A,B,C⟩,H,j⟩:=bs j
 replace j:=pi j
 replace j:=pi j
 have hc:=(sp_r02_Scan fu) (a.pr [] [0] [] r)  H
 refine sc (ec cal44 r) hc ?_
 rintro _ W ⟨p,t,u,rfl,v⟩
 have w:=a.chg.size
 replace a:=a.cl [] [0] r v r
 try dsimp only [pick,nth,ca,na] at a
 replace a:=a.reb 0 E.heap.size r w
 try dsimp only [List.set] at a
 refine s xMove (s (xExtract r r) (s (xExtract r r) (s (xExtract r r) (s (xAsS r) (s (xi r) (s (xi r) (n (q (q (g (s (mi r) (s (xNeqD r r) (n ?_)))))))))))))
 rcases iv j with ⟨x,j⟩|⟨x,j⟩
 ·refine wIfT (bt x) (q (g (s bd26_ (s (mi r) (s (mi r) (sTs (tb a 1 [sn,sn] r ti26 r r r r r (show _=#[sn,sn] from r)) ?_))))))
  intro X a
  try dsimp only [List.set] at a
  refine s (xi r) (s (xi r) (n (wRt ?_)))
  replace a:=a.dadd (d:=.l none 0 ([]:List Gr)) ln_
  replace a:=a.dadd (d:=.l none 0 ([]:List Gn)) ln_
  obtain rfl:=sm j
  refine resV3 r (rdA r u26_ r ti26 r (a.bk 1 r)) (rdT r) (rdT r) ?_
  exact pok (pok (⟨none,0,none,0,r,(a.ad [] [1,0])⟩))
 refine wIfF (bf x) (wk (q (g (s (xMvS r) (s (bd102_0 r) (sTo (aNewB a (mBox r)) ?_))))))
 rintro _ Y ⟨b7,rfl,a⟩
 refine s (xAsP r) (n (q (g (s (mp r) ?_))))
 replace a:=a.frz 1 0 r r
 try dsimp only [List.eraseIdx] at a
 obtain ⟨⟨h,D⟩,I,j⟩:=bs j
 replace j:=pi j
 have hc:=(sp_r03_program fu) (a.pr [0] [1] [0] r)  I
 refine sc (ec cal45 r) hc ?_
 rintro _ w9 ⟨b,c,e,f,rfl,v⟩
 replace a:=a.cl [0] [1] r v r
 try dsimp only [pick,nth,ca,na] at a
 refine sTo (aNewB a (mAlloc ti26)) ?_
 rintro _ J ⟨K,rfl,a⟩
 refine sTs (tb a 0 [Z b h.Records c,Z e h.Funcs f] r ti26 r r r r r (show _=#[Z b h.Records c,Z e h.Funcs f] from r)) ?_
 intro L a
 try dsimp only [List.set] at a
 refine n (q (q (g (s (mp r) (s (xn r) (s (f102_3 r) (s (l37 r (a.bk 1 r) r) (s (xNeqD r r) (n ?_)))))))))
 rcases iv j with ⟨o,j⟩|⟨o,j⟩
 ·refine wIfT (bt o) (q (wDr1 a [1] [] [] (by kernel_rfl) ?_))
  replace a:=a.drew
  have m:=(a.ad [1] [])
  refine pF 0 r (bd26_) m (pF 1 r (mp r) m (pF 2 r (xn r) m (pF 3 r (f102_2 r) m (uF 4 r (fun hS=>l3 r (hS.bk 0 r) r) m (pF 5 r (mp r) m (pF 6 r (xn r) m (pF 7 r (f102_3 r) m (uF 8 r (fun hS=>l37 r (hS.bk 0 r) r) m ?_))))))))
  refine hO 9 (os r r (tb a 2 [sn,sn] r ti26 r r r r r (show _=#[sn,sn] from r)) ?_)
  intro M a
  try dsimp only [List.set] at a
  have m:=(a.ad [1] [])
  refine ⟨(sF m),?_⟩
  refine pF 10 r (xi r) m (pF 11 r (xi r) m (hD (wRt ?_)))
  replace a:=a.dadd (d:=.l none 0 ([]:List Gr)) ln_
  replace a:=a.dadd (d:=.l none 0 ([]:List Gn)) ln_
  obtain rfl:=sm j
  refine resV3 r (rdA r u26_ r ti26 r (a.bk 2 r)) (rdT r) (rdT r) ?_
  exact pok (pok (⟨none,0,none,0,r,(a.ad [] [1,0])⟩))
 refine wIfF (bf o) (wk (q (g (s (xLoadS [Z b h.Records c,Z e h.Funcs f] u26_ r ti26 r r (Cells.part (a.bk 0 r).cells (o2:=0) r)) (sTs (tb a 2 [Z b h.Records c,Z e h.Funcs f] r ti26 r r r r r (show _=#[Z b h.Records c,Z e h.Funcs f] from r)) ?_)))))
 intro N a
 try dsimp only [List.set] at a
 refine s (xi r) (s (xi r) (n (wRt ?_)))
 obtain rfl:=sm j
 refine resV3 r (rdA r u26_ r ti26 r (a.bk 2 r)) (rdT r) (rdT r) ?_
 exact pok (pok (⟨b,c,e,f,r,(a.ad [] [0,1])⟩))
end
end Go.Proofs.Ytfglbdkfnphjgaa
