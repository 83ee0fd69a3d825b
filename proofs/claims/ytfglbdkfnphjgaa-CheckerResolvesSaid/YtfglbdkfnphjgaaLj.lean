/- Contracts, printed by gen3.py. -/
import Derived.Test.YtfglbdkfnphjgaaZt
import Derived.Test.YtfglbdkfnphjgaaLa
set_option linter.unusedVariables false
set_option maxHeartbeats 12800000
set_option linter.unusedSimpArgs false
set_option maxRecDepth 4000
namespace Go.Proofs.Ytfglbdkfnphjgaa
open Go.RowKit Go.Fw
noncomputable section
def Ct_checker_Visible (m:GSource→Int→Int→Option ((List Int))):Prop:=∀ {t:World} {A:Nat→Prop} {p:GSource} {x:Int} {z:Int} {a:Option Addr} {b:Nat} {c:Option Addr} {d:Nat} {e:Option Addr} {f:Nat} {h:Option Addr} {i:Nat} {u:(List Int)},Pre t A [] [.l a b p.Program.Records,.l c d p.Program.Funcs,.l e f p.Vars,.l h i p.Stmts]→m p x z=some u→
 Calls Try.prog 31 #[.agg #[Z a p.Program.Records b,Z c p.Program.Funcs d,Z e p.Vars f,Z h p.Stmts i],V x,V z] t (Ret fun v w=>∃ (j:OA)(k:Nat)(o:LV),v=Z j u k∧Bx t w A (Gof []) [O t.heap.size j k 3 Int o] [.els o u])
def m_checker_Visible_L0 (fu:Nat)(b:Int):List Gv→Nat→(List Int)→Option (Ld (List Int) ((List Int)))
 | [],_,a=>some (.go a)
 | f :: d,c,a=>
 if f.From≤b then
  if b≤f.To then
   (app a ([(c:Int)]:List Int)).bind fun e=>
   m_checker_Visible_L0 fu b d (c+1) e
  else
   m_checker_Visible_L0 fu b d (c+1) a
 else
  m_checker_Visible_L0 fu b d (c+1) a
def m_checker_Visible (fu:Nat)(c:GSource) (b:Int)(d:Int):Option ((List Int)):=
 if b < 0 then
  some ([]:List Int)
 else
  if (c.Vars.length:Int)≤b then
   some ([]:List Int)
  else
   (ix c.Vars b).bind fun e=>
   (m_checker_Visible_L0 fu d e 0 ([]:List Int)).bind fun f=>f.el (fun a=>
   some a
   ) (fun o=>some o)
theorem sp_checker_Visible (fu:Nat):Ct_checker_Visible (m_checker_Visible fu):=by
 intro S au U x1 W A B C D E F H I r0 hP p
 unfold m_checker_Visible at p
 have e:=hP.bx
 clear hP
 generalize hG:Gof _=G at e ⊢
 refine cf Try.func31 r ?_
 refine wCut [(0,.agg #[Z A U.Program.Records B,Z C U.Program.Funcs D,Z E U.Vars F,Z H U.Stmts I]),(1,V x1),(2,V W)] ⟨r,r,r,y⟩ fun av=>?_
 refine q (g (sTo (aNewB e (mBox r)) ?_))
 rintro _ w1 ⟨b1,rfl,e⟩
 refine s (xAsS r) (n (q (q (g (s (mi r) (s (xLss r r) (s (xMvB r) ?_)))))))
 rcases iv p with ⟨X,p⟩|⟨X,p⟩
 ·rw [decide_eq_true X]
  refine sNo r (sNo r (sNo r (sNo r (sNo r (s (xPkTB r r) (n (wIfT r (q (g (s (xAsS r) (n (wRt ?_))))))))))))
  replace e:=e.owL Int 3
  obtain rfl:=sm p
  refine resV1 r (rdT r) ?_
  exact ⟨none,0,[],r,(e.ad [0] [0])⟩
 rw [decide_eq_false X]
 refine sGo r (s (mi r) (sGo r (s (f30_2 r) (sGo r (s (l27 r (e.bk 0 r) r) (sGo r (s (xLnR u27_ r) (sGo r (s (xGeq r r) (s (xPkFB r r) (n ?_)))))))))))
 rcases iv p with ⟨Y,p⟩|⟨Y,p⟩
 ·refine wIfT (bt Y) (q (g (s (xAsS r) (n (wRt ?_)))))
  replace e:=e.owL Int 3
  obtain rfl:=sm p
  refine resV1 r (rdT r) ?_
  exact ⟨none,0,[],r,(e.ad [0] [0])⟩
 refine wIfF (bf Y) (wk (q (g (s (xAsS r) (n (q (q (g (s (f30_2 r) (s (l27 r (e.bk 0 r) r) (s (mi r) ?_)))))))))))
 obtain ⟨u,z,p⟩:=bs p
 obtain ⟨k6,a0,z⟩:=ix_inv z
 obtain ⟨ab,a1,e⟩:=e.nm 2 rfl z
 obtain ⟨v,x,rfl,N⟩:=a1
 replace e:=e.dadd (d:=.l v x u) N
 refine s (xIdR u27_ ti60 r r a0 (e.dl 4 r) z) (s (xLoad u60_ r r ((e.dc 1 r) 0 _ r)) (s (xLnR u60_ r) (s (mi r) (n ?_))))
 replace e:=e.owL Int 3
 have ac:=(e.dl 1 r).bd
 obtain ⟨Y8,m,p⟩:=bs p
 refine wJd (fun f w=>∃ (j:List Int) (a:OA)(b:Nat)(c:LV),Has f [(7,Z a j b)]∧Bx S w au G [O S.heap.size a b 3 Int c] [.els c j,.l v x u]∧Ld.go j=Y8) (fun J8 a2=>?_) ?_
 ·refine wBk (wLoopGd (fun aw f w=>∃ (t:Nat)(j:List Int) (a:OA)(b:Nat)(c:LV),aw=u.length - t∧t≤u.length∧Has f [(25,V (t:Int)),(2,V W),(7,Z a j b),(23,Z v u x),(24,V (u.length:Int))]∧Bx S w au G [O S.heap.size a b 3 Int c] [.els c j,.l v x u]∧m_checker_Visible_L0 fu W (u.drop t) t j=some Y8) (u.length) ⟨0,([]:List Int),none,0,[],r,Nat.zero_le _,⟨r,r,r,r,r,y⟩,(e.ad [0] [0,1]),m⟩ ?_)
  clear e m
  rintro aw f w ⟨t,j,a,b,c,rfl,ae,hf,e,m⟩ K8 J
  obtain ⟨av,rfl⟩:=has_updL _ _ hf
  clear hf
  rcases Nat.lt_or_ge t u.length with Q | Q
  ·obtain ⟨o,K⟩:=get_ex (l:=u) Q
   rw [drop_id K,m_checker_Visible_L0] at m
   refine q (g (s (xLssT r r (by omega)) (n (q (wIfT r (wk (q (wBk (q (g (s (mi r) (s (xIdR u60_ ti59 r r r (e.dl 1 r) K) (s (xLoadS [T o.Name,V o.Kind,V o.Record,V o.Words,.bool o.Param,V o.From,V o.To] u59_ r ti59 r r (elF (ds:=[T o.Name,V o.Kind,V o.Record,V o.Words,.bool o.Param,V o.From,V o.To]) (e.dl 1 r) K (fun _ h=>h))) ?_)))))))))))))
   refine sTo (aNewB e (mAlloc ti59)) ?_
   rintro _ af ⟨ag,rfl,e⟩
   refine s (xi r) (sTs (tb e 0 [T o.Name,V o.Kind,V o.Record,V o.Words,.bool o.Param,V o.From,V o.To] r ti59 r r r r r (show _=#[T o.Name,V o.Kind,V o.Record,V o.Words,.bool o.Param,V o.From,V o.To] from r)) ?_)
   intro ah e
   try dsimp only [List.set] at e
   refine n (q (g (s (f59_5 r) (s (l3 r (e.bk 0 r) r) (s (mi r) (s (xLeq r r) (s (xMvB r) ?_)))))))
   rcases iv m with ⟨L,m⟩|⟨L,m⟩
   ·rw [decide_eq_true L]
    refine sGo r (s (mi r) (sGo r (s (f59_6 r) (sGo r (s (l3 r (e.bk 0 r) r) (sGo r (s (xLeq r r) (s (xPkTB r r) (n ?_)))))))))
    rcases iv m with ⟨M,m⟩|⟨M,m⟩
    ·refine wIfT (bt M) (g (s (xMvS r) (s (mi r) (sTo (aRowB e [[V (t:Int)]] ([(t:Int)]:List Int) (bs22_1_a r) r r (by decide) ⟨r,y⟩) ?_))))
     rintro _ ai ⟨aj,rfl,e⟩
     obtain ⟨a3,R,m⟩:=bs m
     refine sTo (aAppB e 2 1 r r u22_ ti3 r (by decide) (by decide) (Nat.le_refl _) r r (e.ysO 0 0 r r) R) ?_
     rintro _ ak ⟨a4,a5,a6,rfl,e⟩
     refine s (xAsS r) (n (g (s (xAdd64 r r (by omega) (by omega)) (s (mi r) (n ?_)))))
     exact J (u.length - (t+1)) _ _ (by omega) ⟨t+1,a3,a4,a5,a6,r,by omega,⟨r,r,r,r,r,y⟩,(e.ad [2] [1,2]),m⟩
    refine wIfF (bf M) (wk (g (s (xAdd64 r r (by omega) (by omega)) (s (mi r) (n ?_)))))
    exact J (u.length - (t+1)) _ _ (by omega) ⟨t+1,j,a,b,c,r,by omega,⟨r,r,r,r,r,y⟩,(e.arr [1] r),m⟩
   rw [decide_eq_false L]
   refine sNo r (sNo r (sNo r (sNo r (s (xPkFB r r) (n (wIfF r (wk (g (s (xAdd64 r r (by omega) (by omega)) (s (mi r) (n ?_)))))))))))
   exact J (u.length - (t+1)) _ _ (by omega) ⟨t+1,j,a,b,c,r,by omega,⟨r,r,r,r,r,y⟩,(e.arr [1] r),m⟩
  obtain rfl:t=u.length:=by omega
  rw [drop_end,m_checker_Visible_L0] at m
  refine q (g (s (xLssF r r (by omega)) (n (q (wIfF r (wEx ?_))))))
  exact a2 _ _ ⟨j,a,b,c,⟨r,y⟩,e,sm m⟩
 clear e
 rintro f w ⟨j,a,b,c,hf,e,a7⟩
 obtain ⟨av,rfl⟩:=has_updL _ _ hf
 clear hf
 subst a7
 replace p:=gi p
 refine q (g (s (xMvS r) (s (xAsS r) (n (wRt ?_)))))
 obtain rfl:=sm p
 refine resV1 r (rdT r) ?_
 exact ⟨a,b,c,r,(e.dp [0])⟩
def Ct_checker_Find (m:GSource→BA→Option (Int × Bool)):Prop:=∀ {k:World} {u:Nat→Prop} {j:GSource} {o:BA} {a:Option Addr} {b:Nat} {c:Option Addr} {d:Nat} {e:Option Addr} {f:Nat} {h:Option Addr} {i:Nat} {R:Int × Bool},Pre k u [] [.l a b j.Program.Records,.l c d j.Program.Funcs,.l e f j.Vars,.l h i j.Stmts]→m j o=some R→
 Calls Try.prog 29 #[.agg #[Z a j.Program.Records b,Z c j.Program.Funcs d,Z e j.Vars f,Z h j.Stmts i],T o] k (Ret fun v w=>pel R fun p t=>v=.tuple #[V p,.bool t]∧Bx k w u (Gof []) [] [])
def m_checker_Find_L0 (fu:Nat)(a:BA):List Gn→Nat→Option (Ld (Unit) (Int × Bool))
 | [],_=>some (.go ())
 | c :: d,b=>
 if c.Name=a then
  some (.out ((b:Int),true))
 else
  m_checker_Find_L0 fu a d (b+1)
def m_checker_Find (fu:Nat)(a:GSource) (b:BA):Option (Int × Bool):=
 (m_checker_Find_L0 fu b a.Program.Funcs 0).bind fun c=>c.el (fun _=>
 some (0,false)
 ) (fun o=>some o)
theorem sp_checker_Find (fu:Nat):Ct_checker_Find (m_checker_Find fu):=by
 intro S a9 h J x z c e A B C D R U v
 unfold m_checker_Find at v
 have a:=U.bx
 clear U
 generalize hG:Gof _=G at a ⊢
 refine cf Try.func29 r ?_
 refine wCut [(0,.agg #[Z x h.Program.Records z,Z c h.Program.Funcs e,Z A h.Vars B,Z C h.Stmts D]),(1,T J)] ⟨r,r,y⟩ fun aa=>?_
 refine q (g (sTo (aNewB a (mBox r)) ?_))
 rintro _ w1 ⟨b1,rfl,a⟩
 refine s (xi r) (s (xAsB r) (n (q (q (g (s (f30_0 r) (s (f26_1 r) (s (l24 r (a.bk 0 r) r) (s (xLnR u24_ r) (s (mi r) (n ?_)))))))))))
 have X:=(a.dl 1 r).bd
 obtain ⟨W,b,v⟩:=bs v
 refine wJd (fun f w=>Has f []∧Bx S w a9 G [] [.l c e h.Program.Funcs]∧Ld.go ()=W) (fun J2 K=>?_) ?_
 ·refine wBk (wLoopGd (fun ab f w=>∃ (u:Nat),ab=h.Program.Funcs.length - u∧u≤h.Program.Funcs.length∧Has f [(12,V (u:Int)),(1,T J),(10,Z c h.Program.Funcs e),(11,V (h.Program.Funcs.length:Int))]∧Bx S w a9 G [] [.l c e h.Program.Funcs]∧m_checker_Find_L0 fu J (h.Program.Funcs.drop u) u=some W) (h.Program.Funcs.length) ⟨0,r,Nat.zero_le _,⟨r,r,r,r,y⟩,(a.ad [] [1]),b⟩ ?_)
  clear a b
  rintro ab f w ⟨u,rfl,Y,hf,a,b⟩ K2 L
  obtain ⟨aa,rfl⟩:=has_updL _ _ hf
  clear hf
  rcases Nat.lt_or_ge u h.Program.Funcs.length with F | F
  ·obtain ⟨j,E⟩:=get_ex (l:=h.Program.Funcs) F
   rw [drop_id E,m_checker_Find_L0] at b
   obtain ⟨a0,M,a⟩:=a.nm 0 rfl E
   obtain ⟨m,o,p,t,rfl,H,I⟩:=GFunc.out M
   replace a:=a.dadd (d:=.l m o j.Params) H
   replace a:=a.dadd (d:=.l p t j.Body) I
   refine q (g (s (xLssT r r (by omega)) (n (q (wIfT r (wk (q (wBk (q (g (s (mi r) (s (xIdR u24_ ti82 r r r (a.dl 3 r) E) (s (xLoadS [T j.Name,V j.Line,Z m j.Params o,Z p j.Body t] u82_ r ti82 r r (a.dc 2 r)) ?_)))))))))))))
   refine sTo (aNewB a (mAlloc ti82)) ?_
   rintro _ w4 ⟨b4,rfl,a⟩
   refine s (xi r) (sTs (tb a 0 [T j.Name,V j.Line,Z m j.Params o,Z p j.Body t] r ti82 r r r r r (show _=#[T j.Name,V j.Line,Z m j.Params o,Z p j.Body t] from r)) ?_)
   intro w5 a
   try dsimp only [List.set] at a
   refine n (q (g (s (f82_0 r) (s (l9 r (a.bk 0 r) r) (s (xMvT r) (s (xEqlT' r r) (n ?_)))))))
   rcases iv b with ⟨N,b⟩|⟨N,b⟩
   ·refine wIfT (bt N) (q (g (s (mi r) (s (xi r) (s (xAsB r) (n (wRt ?_)))))))
    obtain rfl:=sm b
    replace v:=oi v
    obtain rfl:=sm v
    refine resV2 r (rdT r) (rdT r) ?_
    exact pok (⟨r,(a.ad [] [])⟩)
   refine wIfF (bf N) (wk (g (s (xAdd64 r r (by omega) (by omega)) (s (mi r) (n ?_)))))
   exact L (h.Program.Funcs.length - (u+1)) _ _ (by omega) ⟨u+1,r,by omega,⟨r,r,r,r,y⟩,(a.ad [] [3]),b⟩
  obtain rfl:u=h.Program.Funcs.length:=by omega
  rw [drop_end,m_checker_Find_L0] at b
  refine q (g (s (xLssF r r (by omega)) (n (q (wIfF r (wEx ?_))))))
  exact K _ _ ⟨y,a,sm b⟩
 clear a
 rintro f w ⟨hf,a,Q⟩
 obtain ⟨aa,rfl⟩:=has_updL _ _ hf
 clear hf
 subst Q
 replace v:=gi v
 refine q (g (s (xi r) (s (xAsB r) (n (wRt ?_)))))
 obtain rfl:=sm v
 refine resV2 r (rdT r) (rdT r) ?_
 exact pok (⟨r,(a.dp [])⟩)
def Ct_checker_repeated (m:(List BA)→Option (Bool)):Prop:=∀ {c:World} {f:Nat→Prop} {d:(List BA)} {a:Option Addr} {b:Nat} {e:Bool},Pre c f [] [.l a b d]→m d=some e→
 Calls Try.prog 69 #[Z a d b] c (Ret fun v w=>v=.bool e∧Bx c w f (Gof []) [] [])
def m_checker_repeated_L0 (fu:Nat):List BA→Nat→(List (BA × Bool))→Option (Ld (List (BA × Bool)) (Bool))
 | [],_,a=>some (.go a)
 | b :: c,d,a=>
 if ((mget a b).getD false)=true then
  some (.out true)
 else
  m_checker_repeated_L0 fu c (d+1) (mput a b true)
def m_checker_repeated (fu:Nat)(b:(List BA)):Option (Bool):=
 (m_checker_repeated_L0 fu b 0 ([]:List (BA × Bool))).bind fun c=>c.el (fun a=>
 some false
 ) (fun o=>some o)
theorem sp_checker_repeated (fu:Nat):Ct_checker_repeated (m_checker_repeated fu):=by
 intro D R i c d J E m
 unfold m_checker_repeated at m
 have e:=E.bx
 clear E
 generalize K:Gof _=G at e ⊢
 refine cf Try.func69 r ?_
 refine wCut [(0,Z c i d)] ⟨r,y⟩ fun S=>?_
 refine q (g (s (xAsB r) (n (q (g (sTo (aMapB e (κ:=BA) (ν:=Bool) ekT evB u174_) ?_))))))
 rintro _ L ⟨x,rfl,e⟩
 refine s (xAsM r) (n (q (q (g (s (xMvS r) (s (xLnR u70_ r) (s (mi r) (n ?_))))))))
 have H:=(e.dl 0 r).bd
 obtain ⟨F,b,m⟩:=bs m
 refine wJd (fun f w=>∃ (a:List (BA × Bool)),Has f []∧Bx D w R G [.map ekT evB x a] [.l c d i]∧Ld.go a=F) (fun M A=>?_) ?_
 ·refine wBk (wLoopGd (fun U f w=>∃ (j:Nat)(a:List (BA × Bool)),U=i.length - j∧j≤i.length∧Has f [(9,V (j:Int)),(3,.map (some x)),(7,Z c i d),(8,V (i.length:Int))]∧Bx D w R G [.map ekT evB x a] [.l c d i]∧m_checker_repeated_L0 fu (i.drop j) j a=some F) (i.length) ⟨0,([]:List (BA × Bool)),r,Nat.zero_le _,⟨r,r,r,r,y⟩,e,b⟩ ?_)
  clear e b
  rintro U f w ⟨j,a,rfl,I,hf,e,b⟩ N B
  obtain ⟨S,rfl⟩:=has_updL _ _ hf
  clear hf
  rcases Nat.lt_or_ge j i.length with p | p
  ·obtain ⟨v,o⟩:=get_ex (l:=i) p
   rw [drop_id o,m_checker_repeated_L0] at b
   refine q (g (s (xLssT r r (by omega)) (n (q (wIfT r (wk (q (wBk (q (g (s (xIdR u70_ ti9 r r r (e.dl 0 r) o) (s (xLoad u9_ r r ((elF (ds:=[T v]) (e.dl 0 r) o (fun _ h=>h)) 0 _ r)) (s (xAsT r) ?_)))))))))))))
   refine n (q (q (g (s (xMvM r) (s (xMvT r) (s (xLook1 (ek:=ekT) (ev:=evB) (l:=a) (k:=v) (z:=false) u174_ (fk_txt u9_) (zv_of ti4) (e.mp 0 r) r r) (n ?_)))))))
   rcases iv b with ⟨t,b⟩|⟨t,b⟩
   ·refine wIfT (cb t) (q (g (s (xAsB r) (n (wRt ?_)))))
    obtain rfl:=sm b
    replace m:=oi m
    obtain rfl:=sm m
    refine resV1 r (rdT r) ?_
    exact ⟨r,(e.ad [] [])⟩
   replace t:=nt t
   refine wIfF (cb t) (wk (g (s (xMvM r) (s (xMvT r) (sTs (tUpdB e 0 (ek:=ekT) (ev:=evB) (l:=a) (k:=v) (u:=true) r u174_ (fk_txt u9_) r r r) ?_)))))
   intro Q e
   try dsimp only [List.set] at e
   refine n (g (s (xAdd64 r r (by omega) (by omega)) (s (mi r) (n ?_))))
   exact B (i.length - (j+1)) _ _ (by omega) ⟨j+1,(mput a v true),r,by omega,⟨r,r,r,r,y⟩,e,b⟩
  obtain rfl:j=i.length:=by omega
  rw [drop_end,m_checker_repeated_L0] at b
  refine q (g (s (xLssF r r (by omega)) (n (q (wIfF r (wEx ?_))))))
  exact A _ _ ⟨a,y,e,sm b⟩
 clear e
 rintro f w ⟨a,hf,e,C⟩
 obtain ⟨S,rfl⟩:=has_updL _ _ hf
 clear hf
 subst C
 replace m:=gi m
 refine q (g (s (xAsB r) (n (wRt ?_))))
 obtain rfl:=sm m
 refine resV1 r (rdT r) ?_
 exact ⟨r,(e.ad [] [])⟩
def Ct_slices_Index (m:(List BA)→BA→Option (Int)):Prop:=∀ {c:World} {h:Nat→Prop} {d:(List BA)} {e:BA} {a:Option Addr} {b:Nat} {f:Int},Pre c h [] [.l a b d]→m d e=some f→
 Calls Try.prog 142 #[Z a d b,T e] c (Ret fun v w=>v=V f∧Bx c w h (Gof []) [] [])
def m_slices_Index_L0 (fu:Nat)(a:BA):List BA→Nat→Option (Ld (Unit) (Int))
 | [],_=>some (.go ())
 | c :: d,b=>
 if a=c then
  some (.out (b:Int))
 else
  m_slices_Index_L0 fu a d (b+1)
def m_slices_Index (fu:Nat)(a:(List BA)) (b:BA):Option (Int):=
 (m_slices_Index_L0 fu b a 0).bind fun c=>c.el (fun _=>
 some (-1)
 ) (fun o=>some o)
theorem sp_slices_Index (fu:Nat):Ct_slices_Index (m_slices_Index fu):=by
 intro x J d o b c E z j
 unfold m_slices_Index at j
 have e:=z.bx
 clear z
 generalize F:Gof _=G at e ⊢
 refine cf Try.func142 r ?_
 refine wCut [(0,Z b d c),(1,T o)] ⟨r,r,y⟩ fun K=>?_
 refine q (g (s (xi r) (n (q (q (g (s (xMvS r) (s (xLnR u70_ r) (s (mi r) (n ?_))))))))))
 have B:=(e.dl 0 r).bd
 obtain ⟨A,a,j⟩:=bs j
 refine wJd (fun f w=>Has f []∧Bx x w J G [] [.l b c d]∧Ld.go ()=A) (fun H p=>?_) ?_
 ·refine wBk (wLoopGd (fun L f w=>∃ (i:Nat),L=d.length - i∧i≤d.length∧Has f [(8,V (i:Int)),(0,Z b d c),(1,T o),(7,V (d.length:Int))]∧Bx x w J G [] [.l b c d]∧m_slices_Index_L0 fu o (d.drop i) i=some A) (d.length) ⟨0,r,Nat.zero_le _,⟨r,r,r,r,y⟩,e,a⟩ ?_)
  clear e a
  rintro L f w ⟨i,rfl,C,hf,e,a⟩ I t
  obtain ⟨K,rfl⟩:=has_updL _ _ hf
  clear hf
  rcases Nat.lt_or_ge i d.length with m | m
  ·obtain ⟨D,k⟩:=get_ex (l:=d) m
   rw [drop_id k,m_slices_Index_L0] at a
   refine q (g (s (xLssT r r (by omega)) (n (q (wIfT r (wk (q (wBk (q (g (s (mi r) (s (xi r) (n ?_)))))))))))))
   refine q (g (s (xMvT r) (s (xMvS r) (s (mi r) (s (xIdR u70_ ti9 r r r (e.dl 0 r) k) (s (xLoad u9_ r r ((elF (ds:=[T D]) (e.dl 0 r) k (fun _ h=>h)) 0 _ r)) (s (xEqlT' r r) (n ?_))))))))
   rcases iv a with ⟨u,a⟩|⟨u,a⟩
   ·refine wIfT (bt u) (q (g (s (mi r) (s (xi r) (n (wRt ?_))))))
    obtain rfl:=sm a
    replace j:=oi j
    obtain rfl:=sm j
    refine resV1 r (rdT r) ?_
    exact ⟨r,(e.dp [])⟩
   refine wIfF (bf u) (wk (g (s (xAdd64 r r (by omega) (by omega)) (s (mi r) (n ?_)))))
   exact t (d.length - (i+1)) _ _ (by omega) ⟨i+1,r,by omega,⟨r,r,r,r,y⟩,e,a⟩
  obtain rfl:i=d.length:=by omega
  rw [drop_end,m_slices_Index_L0] at a
  refine q (g (s (xLssF r r (by omega)) (n (q (wIfF r (wEx ?_))))))
  exact p _ _ ⟨y,e,sm a⟩
 clear e
 rintro f w ⟨hf,e,v⟩
 obtain ⟨K,rfl⟩:=has_updL _ _ hf
 clear hf
 subst v
 replace j:=gi j
 refine q (g (s (xi r) (n (wRt ?_))))
 obtain rfl:=sm j
 refine resV1 r (rdT r) ?_
 exact ⟨r,(e.dp [])⟩
def Ct_slices_Clone (m:(List BA)→Option ((List BA))):Prop:=∀ {f:World} {j:Nat→Prop} {h:(List BA)} {a:Option Addr} {b:Nat} {i:(List BA)},Pre f j [] [.l a b h]→m h=some i→
 Calls Try.prog 70 #[Z a h b] f (Ret fun v w=>∃ (c:OA)(d:Nat)(e:LV),v=Z c i d∧Bx f w j (Gof []) [O f.heap.size c d 9 BA e] [.els e i])
def m_slices_Clone (fu:Nat)(a:(List BA)):Option ((List BA)):=
 (app ([]:List BA) a).bind fun b=>
 some b
theorem sp_slices_Clone (fu:Nat):Ct_slices_Clone (m_slices_Clone fu):=by
 intro o x j a c p h d
 unfold m_slices_Clone at d
 have b:=h.bx
 clear h
 generalize t:Gof _=G at b ⊢
 refine cf Try.func70 r ?_
 refine wCut [(0,Z a j c)] ⟨r,y⟩ fun z=>?_
 refine q (g (s (xAsS r) (n (q (q (g (s (xMvS r) (s (xEqNil u70_ r r) (n ?_)))))))))
 rcases Classical.em (a=none) with f | f
 ·refine wIfT (bt f) (q (g (s (xAsS r) (n (wRt ?_)))))
  replace b:=b.owL BA 9
  have hz:=(b.dl 1 r).nil_of f
  subst hz
  obtain ⟨i,e,d⟩:=bs d
  obtain rfl:=sm d
  obtain rfl:i=[]:=(app_inv e).2.symm
  refine resV1 r (rdT r) ?_
  exact ⟨none,0,[],r,(b.dp [0])⟩
 refine wIfF (bf f) (wk (q (g (sTo (aRowB b [] ([]:List BA) (bs70_0_a) r r (by decide) y) ?_))))
 rintro _ u ⟨v,rfl,b⟩
 refine s (xMvS r) ?_
 obtain ⟨i,e,d⟩:=bs d
 refine sTo (aAppB b 0 0 r r u70_ ti9 r (by decide) (by decide) (Nat.le_refl _) r r (b.ysD 1 r) e) ?_
 rintro _ w ⟨k,l,m,rfl,b⟩
 refine s (xAsS r) (n (wRt ?_))
 obtain rfl:=sm d
 refine resV1 r (rdT r) ?_
 exact ⟨k,l,m,r,(b.dp [0])⟩
def Ct_checker_find (m:Gc→BA→Option (Int × Bool)):Prop:=∀ {P:World} {X:Nat→Prop} {a:Gc} {S:BA} {Q:Nat} {b:Nat} {c:Nat} {d:Option Addr} {e:Nat} {A:List (List Value)} {H:Nat} {f:Option Addr} {h:Nat} {B:List (List Value)} {I:Nat} {i:Option Addr} {j:Nat} {C:List (List Value)} {J:Nat} {k:Option Addr} {l:Nat} {D:List (List Value)} {K:Nat} {o:Option Addr} {p:Nat} {E:List (List Value)} {L:Nat} {t:Option Addr} {u:Nat} {F:List (List Value)} {M:Nat} {x:Option Addr} {z:Nat} {G:List (List Value)} {N:Nat} {R:Int × Bool},Pre P X [.box Q 107 #[.map (some b),.map (some c),Z d a.source.Program.Records e,Z f a.source.Program.Funcs h,Z i a.source.Vars j,Z k a.source.Stmts l,Z o a.params p,Z t a.vars u,Z x a.scope z,V a.current,V a.line],.map ekT evI b a.records,.map ekT evI c a.funcs,O H d e 127 Gr A,O I f h 82 Gn B,O J i j 60 (List Gv) C,O K k l 65 Gi D,O L o p 3 Int E,O M t u 59 Gv F,O N x z 3 Int G] [.els A a.source.Program.Records,.els B a.source.Program.Funcs,.els C a.source.Vars,.els D a.source.Stmts,.els E a.params,.els F a.vars,.els G a.scope]→H≤P.heap.size→I≤P.heap.size→J≤P.heap.size→K≤P.heap.size→L≤P.heap.size→M≤P.heap.size→N≤P.heap.size→m a S=some R→
 Calls Try.prog 140 #[Pt Q,T S] P (Ret fun v w=>pel R fun U W=>v=.tuple #[V U,.bool W]∧Bx P w X (Gof [.box Q 107 #[.map (some b),.map (some c),Z d a.source.Program.Records e,Z f a.source.Program.Funcs h,Z i a.source.Vars j,Z k a.source.Stmts l,Z o a.params p,Z t a.vars u,Z x a.scope z,V a.current,V a.line],.map ekT evI b a.records,.map ekT evI c a.funcs,O H d e 127 Gr A,O I f h 82 Gn B,O J i j 60 (List Gv) C,O K k l 65 Gi D,O L o p 3 Int E,O M t u 59 Gv F,O N x z 3 Int G]) [.box Q 107 #[.map (some b),.map (some c),Z d a.source.Program.Records e,Z f a.source.Program.Funcs h,Z i a.source.Vars j,Z k a.source.Stmts l,Z o a.params p,Z t a.vars u,Z x a.scope z,V a.current,V a.line],.map ekT evI b a.records,.map ekT evI c a.funcs,O H d e 127 Gr A,O I f h 82 Gn B,O J i j 60 (List Gv) C,O K k l 65 Gi D,O L o p 3 Int E,O M t u 59 Gv F,O N x z 3 Int G] [.els A a.source.Program.Records,.els B a.source.Program.Funcs,.els C a.source.Vars,.els D a.source.Stmts,.els E a.params,.els F a.vars,.els G a.scope])
def m_checker_find_L0 (fu:Nat)(a:Gc) (b:BA):List Int→Nat→Option (Ld (Unit) (Int × Bool))
 | [],_=>some (.go ())
 | c :: d,e=>
 (ix a.vars c).bind fun f=>
 if f.Name=b then
  some (.out (c,true))
 else
  m_checker_find_L0 fu a b d (e+1)
def m_checker_find (fu:Nat)(a:Gc) (b:BA):Option (Int × Bool):=
 (m_checker_find_L0 fu a b a.scope 0).bind fun c=>c.el (fun _=>
 some (0,false)
 ) (fun o=>some o)
theorem sp_checker_find (fu:Nat):Ct_checker_find (m_checker_find fu):=by
 intro w0 ax a x1 a0 d e j m E N o p F Q t u H S v x I U z A J W B C K X b c L Y R hP a7 a8 a9 aa ab ac ae hM
 unfold m_checker_find at hM
 have M:=hP.bx
 clear hP
 generalize hG:Gof _=G at M ⊢
 refine cf Try.func140 r ?_
 refine wCut [(0,Pt a0),(1,T x1)] ⟨r,r,y⟩ fun ay=>?_
 refine q (g (s (xi r) (s (xAsB r) (n (q (q (g (s (mp r) (s (xn r) (s (f107_8 r) (s (l22 r (M.bk 0 r) r) (s (xLnR u22_ r) (s (mi r) ?_)))))))))))))
 refine n ?_
 have ao:=(M.vw 9 6 r r).bd
 obtain ⟨Y1,D,hM⟩:=bs hM
 refine wJd (fun f w=>Has f []∧Bx w0 w ax G [.box a0 107 #[.map (some d),.map (some e),Z j a.source.Program.Records m,Z o a.source.Program.Funcs p,Z t a.source.Vars u,Z v a.source.Stmts x,Z z a.params A,Z B a.vars C,Z b a.scope c,V a.current,V a.line],.map ekT evI d a.records,.map ekT evI e a.funcs,O N j m 127 Gr E,O Q o p 82 Gn F,O S t u 60 (List Gv) H,O U v x 65 Gi I,O W z A 3 Int J,O X B C 59 Gv K,O Y b c 3 Int L] [.els E a.source.Program.Records,.els F a.source.Program.Funcs,.els H a.source.Vars,.els I a.source.Stmts,.els J a.params,.els K a.vars,.els L a.scope]∧Ld.go ()=Y1) (fun J1 ag=>?_) ?_
 ·refine wBk (wLoopGd (fun az f w=>∃ (k1:Nat),az=a.scope.length - k1∧k1≤a.scope.length∧Has f [(13,V (k1:Int)),(0,Pt a0),(1,T x1),(11,Z b a.scope c),(12,V (a.scope.length:Int))]∧Bx w0 w ax G [.box a0 107 #[.map (some d),.map (some e),Z j a.source.Program.Records m,Z o a.source.Program.Funcs p,Z t a.source.Vars u,Z v a.source.Stmts x,Z z a.params A,Z B a.vars C,Z b a.scope c,V a.current,V a.line],.map ekT evI d a.records,.map ekT evI e a.funcs,O N j m 127 Gr E,O Q o p 82 Gn F,O S t u 60 (List Gv) H,O U v x 65 Gi I,O W z A 3 Int J,O X B C 59 Gv K,O Y b c 3 Int L] [.els E a.source.Program.Records,.els F a.source.Program.Funcs,.els H a.source.Vars,.els I a.source.Stmts,.els J a.params,.els K a.vars,.els L a.scope]∧m_checker_find_L0 fu a x1 (a.scope.drop k1) k1=some Y1) (a.scope.length) ⟨0,r,Nat.zero_le _,⟨r,r,r,r,r,y⟩,M,D⟩ ?_)
  clear M D
  rintro az f w ⟨k1,rfl,ap,hf,M,D⟩ K1 ah
  obtain ⟨ay,rfl⟩:=has_updL _ _ hf
  clear hf
  rcases Nat.lt_or_ge k1 a.scope.length with a6 | a6
  ·obtain ⟨u1,a4⟩:=get_ex (l:=a.scope) a6
   rw [drop_id a4,m_checker_find_L0] at D
   refine q (g (s (xLssT r r (by omega)) (n (q (wIfT r (wk (q (wBk (q (g (s (xIdR u22_ ti3 r r r (M.vw 9 6 r r) a4) (s (xLoad u3_ r r ((elF (ds:=[V u1]) (M.vw 9 6 r r) a4 (fun _ h=>h)) 0 _ r)) (s (xi r) ?_)))))))))))))
   refine n (q (g (s (mp r) (s (xn r) (s (f107_7 r) (s (l60 r (M.bk 0 r) r) (s (mi r) ?_)))))))
   obtain ⟨e2,a3,D⟩:=bs D
   obtain ⟨k2,ai,a3⟩:=ix_inv a3
   refine s (xIdR u60_ ti59 r r ai (M.vw 8 5 r r) a3) (s (f59_0 r) (s (xLoad u9_ r r ((elF (ds:=[T e2.Name,V e2.Kind,V e2.Record,V e2.Words,.bool e2.Param,V e2.From,V e2.To]) (M.vw 8 5 r r) a3 (fun _ h=>h)) 0 _ r)) (s (xMvT r) (s (xEqlT' r r) (n ?_)))))
   rcases iv D with ⟨h3,D⟩|⟨h3,D⟩
   ·refine wIfT (bt h3) (q (g (s (mi r) (s (xi r) (s (xAsB r) (n (wRt ?_)))))))
    obtain rfl:=sm D
    replace hM:=oi hM
    obtain rfl:=sm hM
    refine resV2 r (rdT r) (rdT r) ?_
    exact pok (⟨r,M⟩)
   refine wIfF (bf h3) (wk (g (s (xAdd64 r r (by omega) (by omega)) (s (mi r) (n ?_)))))
   exact ah (a.scope.length - (k1+1)) _ _ (by omega) ⟨k1+1,r,by omega,⟨r,r,r,r,r,y⟩,M,D⟩
  obtain rfl:k1=a.scope.length:=by omega
  rw [drop_end,m_checker_find_L0] at D
  refine q (g (s (xLssF r r (by omega)) (n (q (wIfF r (wEx ?_))))))
  exact ag _ _ ⟨y,M,sm D⟩
 clear M
 rintro f w ⟨hf,M,ak⟩
 obtain ⟨ay,rfl⟩:=has_updL _ _ hf
 clear hf
 subst ak
 replace hM:=gi hM
 refine q (g (s (xi r) (s (xAsB r) (n (wRt ?_)))))
 obtain rfl:=sm hM
 refine resV2 r (rdT r) (rdT r) ?_
 exact pok (⟨r,M⟩)
def Ct_checker_add (m:Gc→Gv→Option (Int × Gc)):Prop:=∀ {w0:World} {a4:Nat→Prop} {b:Gc} {x1:Gv} {a1:Nat} {c:Nat} {d:Nat} {e:Option Addr} {f:Nat} {u:List (List Value)} {C:Nat} {h:Option Addr} {i:Nat} {x:List (List Value)} {D:Nat} {j:Option Addr} {k:Nat} {z:List (List Value)} {E:Nat} {l:Option Addr} {o:Nat} {A:List (List Value)} {F:Nat} {p:Option Addr} {t:Nat} {B:List (List Value)} {G:Nat} {H:Option Addr} {I:Nat} {N:List (List Value)} {J:Nat} {K:Option Addr} {L:Nat} {P:List (List Value)} {M:Nat} {R:Int × Gc},Pre w0 a4 [.box a1 107 #[.map (some c),.map (some d),Z e b.source.Program.Records f,Z h b.source.Program.Funcs i,Z j b.source.Vars k,Z l b.source.Stmts o,Z p b.params t,Z H b.vars I,Z K b.scope L,V b.current,V b.line],.map ekT evI c b.records,.map ekT evI d b.funcs,O C e f 127 Gr u,O D h i 82 Gn x,O E j k 60 (List Gv) z,O F l o 65 Gi A,O G p t 3 Int B,O J H I 59 Gv N,O M K L 3 Int P] [.els u b.source.Program.Records,.els x b.source.Program.Funcs,.els z b.source.Vars,.els A b.source.Stmts,.els B b.params,.els N b.vars,.els P b.scope]→C≤w0.heap.size→D≤w0.heap.size→E≤w0.heap.size→F≤w0.heap.size→G≤w0.heap.size→J≤w0.heap.size→M≤w0.heap.size→m b x1=some R→
 Calls Try.prog 95 #[Pt a1,.agg #[T x1.Name,V x1.Kind,V x1.Record,V x1.Words,.bool x1.Param,V x1.From,V x1.To]] w0 (Ret fun v w=>pel R fun r0 a=>∃ (Q:OA)(S:Nat)(U:LV)(W:OA)(X:Nat)(Y:LV),v=V r0∧Bx w0 w a4 (Gof [.box a1 107 #[.map (some c),.map (some d),Z e b.source.Program.Records f,Z h b.source.Program.Funcs i,Z j b.source.Vars k,Z l b.source.Stmts o,Z p b.params t,Z H b.vars I,Z K b.scope L,V b.current,V b.line],.map ekT evI c b.records,.map ekT evI d b.funcs,O C e f 127 Gr u,O D h i 82 Gn x,O E j k 60 (List Gv) z,O F l o 65 Gi A,O G p t 3 Int B,O J H I 59 Gv N,O M K L 3 Int P]) [.box a1 107 #[.map (some c),.map (some d),Z e a.source.Program.Records f,Z h a.source.Program.Funcs i,Z j a.source.Vars k,Z l a.source.Stmts o,Z p a.params t,Z Q a.vars S,Z W a.scope X,V a.current,V a.line],.map ekT evI c a.records,.map ekT evI d a.funcs,O C e f 127 Gr u,O D h i 82 Gn x,O E j k 60 (List Gv) z,O F l o 65 Gi A,O G p t 3 Int B,O J Q S 59 Gv U,O M W X 3 Int Y] [.els u a.source.Program.Records,.els x a.source.Program.Funcs,.els z a.source.Vars,.els A a.source.Stmts,.els B a.params,.els U a.vars,.els Y a.scope])
def m_checker_add (fu:Nat)(a:Gc) (b:Gv):Option (Int × Gc):=
 (app a.vars ([(⟨b.Name,b.Kind,b.Record,b.Words,b.Param,(a.source.Stmts.length:Int),b.To⟩:Gv)]:List Gv)).bind fun c=>
 (app a.scope ([(wr ((c.length:Int) - 1))]:List Int)).bind fun d=>
 some ((wr ((c.length:Int) - 1)),(⟨a.records,a.funcs,a.source,a.params,c,d,a.current,a.line⟩:Gc))
theorem sp_checker_add (fu:Nat):Ct_checker_add (m_checker_add fu):=by
 intro w0 ay c d a1 f h j l F H m o I J p t K L u v M N w x Q S B C U W z A X Y R hP a3 a4 a5 a6 a7 D E hM
 unfold m_checker_add at hM
 have a:=hP.bx
 clear hP
 generalize hG:Gof _=G at a ⊢
 refine cf Try.func95 r ?_
 refine wCut [(0,Pt a1),(1,.agg #[T d.Name,V d.Kind,V d.Record,V d.Words,.bool d.Param,V d.From,V d.To])] ⟨r,r,y⟩ fun az=>?_
 refine q (g (sTo (aNewB a (mBox r)) ?_))
 rintro _ w1 ⟨b1,rfl,a⟩
 refine s (xi r) (n (q (g (s (mp r) (s (xn r) (s (f107_2 r) (s (f30_3 r) (s (l28 r (a.bk 1 r) r) (s (xLnR u28_ r) (s (f59_5 r) (sTs (tb a 0 [V (c.source.Stmts.length:Int)] r ti3 r r r r r (show _=#[T d.Name,V d.Kind,V d.Record,V d.Words,.bool d.Param,V (c.source.Stmts.length:Int),V d.To] from r)) ?_)))))))))))
 intro w2 a
 try dsimp only [List.set] at a
 refine n (q (wDr a [0] [] [0,1] [] [10] (by kernel_rfl) ?_))
 replace a:=a.drew
 have b:=(a.ad [0] [])
 have e:=(a.ad [0,1] [])
 refine pL 0 r (mp r) b e (pL 1 r (mp r) b e (pL 2 r (xn r) b e (pL 3 r (f107_7 r) b e (tS 1 4 r (fun _ hS=>l60 r (hS.bk 1 r) r) (sl_ b e) (tU 5 r (fun _ hS=>xLoadS [T d.Name,V d.Kind,V d.Record,V d.Words,.bool d.Param,V (c.source.Stmts.length:Int),V d.To] u59_ r ti59 r r (Cells.part (hS.bk 0 r).cells (o2:=0) r)) (sl_ b e) ?_)))))
 refine hO 6 (oo r r (aRowB a [[T d.Name,V d.Kind,V d.Record,V d.Words,.bool d.Param,V (c.source.Stmts.length:Int),V d.To]] ([(⟨d.Name,d.Kind,d.Record,d.Words,d.Param,(c.source.Stmts.length:Int),d.To⟩:Gv)]:List Gv) (bs60_1_a r) r r (by decide) ⟨r,y⟩) ?_)
 rintro _ w3 ⟨b3,rfl,a⟩
 have b:=(a.ad [1] [])
 have e:=(a.ad [1,2] [])
 refine ⟨(sl_ b e),?_⟩
 obtain ⟨r4,aa,hM⟩:=bs hM
 refine hO 7 (oo r r (aAppB a 10 6 r r u60_ ti59 r (by decide) (by decide) D r r (a.ysO 0 0 r r) aa) ?_)
 rintro _ w4 ⟨A4,C4,Q4,rfl,a⟩
 have b:=(a.ad [1] [])
 have e:=(a.ad [1,2] [])
 refine ⟨(sl_ b e),?_⟩
 refine pL 8 r (xn r) b e (pL 9 r (f107_7 r) b e ?_)
 refine hO 10 (os r r (tb a 2 [Z A4 r4 C4] r ti60 r r r r r (show _=#[.map (some f),.map (some h),Z j c.source.Program.Records l,Z m c.source.Program.Funcs o,Z p c.source.Vars t,Z u c.source.Stmts v,Z w c.params x,Z A4 r4 C4,Z z c.scope A,V c.current,V c.line] from r)) ?_)
 intro w6 a
 try dsimp only [List.set] at a
 have b:=(a.ad [1] [])
 refine ⟨(sy 10 b),?_⟩
 refine hD (q (wDr a [] [] [2] [] [15] (by kernel_rfl) ?_))
 replace a:=a.drew
 have b:=(a.ad [] [])
 have e:=(a.ad [2] [])
 refine pL 0 r (mp r) b e (pL 1 r (mp r) b e (pL 2 r (xn r) b e (pL 3 r (f107_8 r) b e (tS 1 4 r (fun _ hS=>l22 r (hS.bk 0 r) r) (sl_ b e) (pL 5 r (mp r) b e (pL 6 r (xn r) b e (pL 7 r (f107_7 r) b e (tS 1 8 r (fun _ hS=>l60 r (hS.bk 0 r) r) (sl_ b e) (pL 9 r (xLnR u60_ r) b e (pL 10 r (xSubW r r) b e ?_))))))))))
 refine hO 11 (oo r r (aRowB a [[V (wr ((r4.length:Int) - 1))]] ([(wr ((r4.length:Int) - 1))]:List Int) (bs22_1_a r) r r (by decide) ⟨r,y⟩) ?_)
 rintro _ w7 ⟨b7,rfl,a⟩
 have b:=(a.ad [] [])
 have e:=(a.ad [3] [])
 refine ⟨(sl_ b e),?_⟩
 obtain ⟨r8,ab,hM⟩:=bs hM
 refine hO 12 (oo r r (aAppB a 12 8 r r u22_ ti3 r (by decide) (by decide) E r r (a.ysO 0 0 r r) ab) ?_)
 rintro _ w8 ⟨A8,C8,Q8,rfl,a⟩
 have b:=(a.ad [] [])
 have e:=(a.ad [3] [])
 refine ⟨(sl_ b e),?_⟩
 refine pL 13 r (xn r) b e (pL 14 r (f107_8 r) b e ?_)
 refine hO 15 (os r r (tb a 3 [Z A8 r8 C8] r ti22 r r r r r (show _=#[.map (some f),.map (some h),Z j c.source.Program.Records l,Z m c.source.Program.Funcs o,Z p c.source.Vars t,Z u c.source.Stmts v,Z w c.params x,Z A4 r4 C4,Z A8 r8 C8,V c.current,V c.line] from r)) ?_)
 intro aj a
 try dsimp only [List.set] at a
 have b:=(a.ad [] [])
 refine ⟨(sy 15 b),?_⟩
 refine hD (q (g (s (mp r) (s (xn r) (s (f107_7 r) (s (l60 r (a.bk 3 r) r) (s (xLnR u60_ r) (s (xSubW r r) (s (xi r) (n (wRt ?_)))))))))))
 obtain rfl:=sm hM
 refine resV1 r (rdT r) ?_
 exact pok (⟨A4,C4,Q4,A8,C8,Q8,r,(a.ad [3,4,5,6,7,8,9,10,11,12] [2,3,4,5,6,7,8])⟩)
def Ct_checker_leave (m:Gc→Int→Option (Gc)):Prop:=∀ {Y:World} {a2:Nat→Prop} {b:Gc} {x1:Int} {a0:Nat} {c:Nat} {d:Nat} {e:Option Addr} {f:Nat} {u:List (List Value)} {C:Nat} {h:Option Addr} {i:Nat} {x:List (List Value)} {D:Nat} {j:Option Addr} {k:Nat} {z:List (List Value)} {E:Nat} {l:Option Addr} {o:Nat} {A:List (List Value)} {F:Nat} {p:Option Addr} {t:Nat} {B:List (List Value)} {G:Nat} {H:Option Addr} {I:Nat} {N:List (List Value)} {J:Nat} {K:Option Addr} {L:Nat} {P:List (List Value)} {M:Nat} {a:Gc},Pre Y a2 [.box a0 107 #[.map (some c),.map (some d),Z e b.source.Program.Records f,Z h b.source.Program.Funcs i,Z j b.source.Vars k,Z l b.source.Stmts o,Z p b.params t,Z H b.vars I,Z K b.scope L,V b.current,V b.line],.map ekT evI c b.records,.map ekT evI d b.funcs,O C e f 127 Gr u,O D h i 82 Gn x,O E j k 60 (List Gv) z,O F l o 65 Gi A,O G p t 3 Int B,O J H I 59 Gv N,O M K L 3 Int P] [.els u b.source.Program.Records,.els x b.source.Program.Funcs,.els z b.source.Vars,.els A b.source.Stmts,.els B b.params,.els N b.vars,.els P b.scope]→C≤Y.heap.size→D≤Y.heap.size→E≤Y.heap.size→F≤Y.heap.size→G≤Y.heap.size→J≤Y.heap.size→M≤Y.heap.size→m b x1=some a→
 Calls Try.prog 97 #[Pt a0,V x1] Y (Ret fun v w=>∃ (Q:OA)(R:Nat)(S:LV)(U:OA)(W:Nat)(X:LV),v=.tuple #[]∧Bx Y w a2 (Gof [.box a0 107 #[.map (some c),.map (some d),Z e b.source.Program.Records f,Z h b.source.Program.Funcs i,Z j b.source.Vars k,Z l b.source.Stmts o,Z p b.params t,Z H b.vars I,Z K b.scope L,V b.current,V b.line],.map ekT evI c b.records,.map ekT evI d b.funcs,O C e f 127 Gr u,O D h i 82 Gn x,O E j k 60 (List Gv) z,O F l o 65 Gi A,O G p t 3 Int B,O J H I 59 Gv N,O M K L 3 Int P]) [.box a0 107 #[.map (some c),.map (some d),Z e a.source.Program.Records f,Z h a.source.Program.Funcs i,Z j a.source.Vars k,Z l a.source.Stmts o,Z p a.params t,Z Q a.vars R,Z U a.scope W,V a.current,V a.line],.map ekT evI c a.records,.map ekT evI d a.funcs,O C e f 127 Gr u,O D h i 82 Gn x,O E j k 60 (List Gv) z,O F l o 65 Gi A,O G p t 3 Int B,O J Q R 59 Gv S,O M U W 3 Int X] [.els u a.source.Program.Records,.els x a.source.Program.Funcs,.els z a.source.Vars,.els A a.source.Stmts,.els B a.params,.els S a.vars,.els X a.scope])
def m_checker_leave_L0 (fu:Nat)(c:Gc):List Int→Nat→(List Gv)→Option (Ld (List Gv) (Gc))
 | [],_,a=>some (.go a)
 | d :: e,f,a=>
 (ix a d).bind fun b=>
 (st a d (⟨b.Name,b.Kind,b.Record,b.Words,b.Param,b.From,(wr ((c.source.Stmts.length:Int) - 1))⟩:Gv)).bind fun h=>
 m_checker_leave_L0 fu c e (f+1) h
def m_checker_leave (fu:Nat)(a:Gc) (c:Int):Option (Gc):=
 (sl a.scope c (a.scope.length:Int)).bind fun d=>
 (m_checker_leave_L0 fu a d 0 a.vars).bind fun f=>f.el (fun b=>
 (sl a.scope 0 c).bind fun e=>
 some (⟨a.records,a.funcs,a.source,a.params,b,e,a.current,a.line⟩:Gc)
 ) (fun o=>some o)
theorem sp_checker_leave (fu:Nat):Ct_checker_leave (m_checker_leave fu):=by
 intro w0 bj c x1 a8 p t u v L X x B M Y D E N a0 F H R a1 I J S a2 a3 a4 ab a5 a b K a6 b0 hP ax ay az aA aB aC aD hM
 unfold m_checker_leave at hM
 have o:=hP.bx
 clear hP
 generalize hG:Gof _=G at o ⊢
 refine cf Try.func97 r ?_
 refine wCut [(0,Pt a8),(1,V x1)] ⟨r,r,y⟩ fun bl=>?_
 refine q (q (g (s (mp r) (s (xn r) (s (f107_8 r) (s (l22 r (o.bk 0 r) r) (s (mi r) ?_)))))))
 obtain ⟨l1,aG,hM⟩:=bs hM
 obtain ⟨i1,j1,aH,b2,ac,am,ah⟩:=sl_inv aG
 have ap:l1.length=j1 - i1:=by rw [← ah,List.length_take,List.length_drop];omega
 obtain ⟨A1,ai⟩:∃ A,(if b=i1 then a else a.map (·.add (i1 * sz Int)))=A:=⟨_,rfl⟩
 obtain ⟨C1,aj⟩:∃ C,(b - i1)=C:=⟨_,rfl⟩
 have aK:Value.slice (if b=i1 then a else a.map (·.add (i1 * sz Int))) (c.scope.length - i1) (b - i1)=Value.slice A1 l1.length C1:=by rw [ap,← ai,← aj];simp;try omega
 refine s (show Yl _ _ _ _ _ _ _ _ _ (.slice A1 l1.length C1) from aK ▸ xSlcL i1 u22_ ti3 r r aH (by omega)) (s (xLnR u22_ r) (s (mi r) (n ?_)))
 have b3:=(LRep.partE (o.vw 9 6 r r) ac am ah ai aj).bd
 obtain ⟨Y2,U,hM⟩:=bs hM
 refine wJd (fun f w=>∃ (m:List Gv) (d:OA)(e:Nat)(j:LV),Has f [(0,Pt a8),(1,V x1)]∧Bx w0 w bj G [.box a8 107 #[.map (some p),.map (some t),Z u c.source.Program.Records v,Z x c.source.Program.Funcs B,Z D c.source.Vars E,Z F c.source.Stmts H,Z I c.params J,Z d m e,Z a c.scope b,V c.current,V c.line],.map ekT evI p c.records,.map ekT evI t c.funcs,O X u v 127 Gr L,O Y x B 82 Gn M,O a0 D E 60 (List Gv) N,O a1 F H 65 Gi R,O a2 I J 3 Int S,O a5 d e 59 Gv j,O a6 a b 3 Int K] [.els L c.source.Program.Records,.els M c.source.Program.Funcs,.els N c.source.Vars,.els R c.source.Stmts,.els S c.params,.els j m,.els K c.scope]∧Ld.go m=Y2) (fun J2 aL=>?_) ?_
 ·refine wBk (wLoopGd (fun bm f w=>∃ (k2:Nat)(m:List Gv) (d:OA)(e:Nat)(j:LV),bm=l1.length - k2∧k2≤l1.length∧Has f [(13,V (k2:Int)),(0,Pt a8),(1,V x1),(11,Z A1 l1 C1),(12,V (l1.length:Int))]∧Bx w0 w bj G [.box a8 107 #[.map (some p),.map (some t),Z u c.source.Program.Records v,Z x c.source.Program.Funcs B,Z D c.source.Vars E,Z F c.source.Stmts H,Z I c.params J,Z d m e,Z a c.scope b,V c.current,V c.line],.map ekT evI p c.records,.map ekT evI t c.funcs,O X u v 127 Gr L,O Y x B 82 Gn M,O a0 D E 60 (List Gv) N,O a1 F H 65 Gi R,O a2 I J 3 Int S,O a5 d e 59 Gv j,O a6 a b 3 Int K] [.els L c.source.Program.Records,.els M c.source.Program.Funcs,.els N c.source.Vars,.els R c.source.Stmts,.els S c.params,.els j m,.els K c.scope]∧m_checker_leave_L0 fu c (l1.drop k2) k2 m=some Y2) (l1.length) ⟨0,c.vars,a3,a4,ab,r,Nat.zero_le _,⟨r,r,r,r,r,y⟩,o,U⟩ ?_)
  clear o U
  rintro bm f w ⟨k2,m,d,e,j,rfl,b4,hf,o,U⟩ K2 aM
  obtain ⟨bl,rfl⟩:=has_updL _ _ hf
  clear hf
  rcases Nat.lt_or_ge k2 l1.length with aq | aq
  ·obtain ⟨u2,an⟩:=get_ex (l:=l1) aq
   rw [drop_id an,m_checker_leave_L0] at U
   refine q (g (s (xLssT r r (by omega)) (n (q (wIfT r (wk (q (wBk (q (g (s (xIdR u22_ ti3 r r r (LRep.partE (o.vw 9 6 r r) ac am ah ai aj) an) (s (xLoad u3_ r r ((elF (ds:=[V u2]) (LRep.partE (o.vw 9 6 r r) ac am ah ai aj) an (fun _ h=>h)) 0 _ r)) (s (xi r) ?_)))))))))))))
   refine n (wDr o [] [] [0] [] [14] (by kernel_rfl) ?_)
   replace o:=o.drew
   have W:=(o.ad [] [])
   have hu:=(o.ad [0] [])
   refine pL 0 r (mp r) W hu (pL 1 r (xn r) W hu (pL 2 r (f107_7 r) W hu (tS 1 3 r (fun _ hS=>l60 r (hS.bk 0 r) r) (sl_ W hu) (pL 4 r (mi r) W hu (pL 5 r (mp r) W hu (pL 6 r (xn r) W hu (pL 7 r (f107_2 r) W hu (pL 8 r (f30_3 r) W hu (tS 1 9 r (fun _ hS=>l28 r (hS.bk 0 r) r) (sl_ W hu) (pL 10 r (xLnR u28_ r) W hu (pL 11 r (xSubW r r) W hu ?_)))))))))))
   obtain ⟨e3,ak,U⟩:=bs U
   obtain ⟨k3,aN,ak⟩:=ix_inv ak
   refine pL 12 r (xIdR u60_ ti59 r r aN (o.vw 8 5 r r) ak) W hu (pL 13 r (f59_6 r) W hu ?_)
   obtain ⟨r4,al,U⟩:=bs U
   obtain ⟨z4,b6,_,al⟩:=st_inv al
   obtain rfl:k3=z4:=by omega
   obtain ⟨d5,aO,ao⟩:=(o.de 5 rfl).get ak
   replace ao:d5=[T e3.Name,V e3.Kind,V e3.Record,V e3.Words,.bool e3.Param,V e3.From,V e3.To]:=ao
   subst ao
   refine hO 14 (os r r (tStO o 8 5 k3 6 [V (wr ((c.source.Stmts.length:Int) - 1))] r r aO ti3 r r r r r (show _=[T e3.Name,V e3.Kind,V e3.Record,V e3.Words,.bool e3.Param,V e3.From,V (wr ((c.source.Stmts.length:Int) - 1))] from r) r al) ?_)
   rintro w4 ⟨Q4,o⟩
   try dsimp only [List.set] at o
   have ar:m.length=r4.length:=by rw [← al,List.length_set]
   try dsimp only [Z] at o
   try rw [ar] at o
   try dsimp only [Z]
   try rw [ar]
   have W:=(o.ad [] [])
   refine ⟨(sy 14 W),?_⟩
   refine hD (g (s (xAdd64 r r (by omega) (by omega)) (s (mi r) (n ?_))))
   exact aM (l1.length - (k2+1)) _ _ (by omega) ⟨k2+1,r4,d,e,Q4,r,by omega,⟨r,r,r,r,r,y⟩,o,U⟩
  obtain rfl:k2=l1.length:=by omega
  rw [drop_end,m_checker_leave_L0] at U
  refine q (g (s (xLssF r r (by omega)) (n (q (wIfF r (wEx ?_))))))
  exact aL _ _ ⟨m,d,e,j,⟨r,r,y⟩,o,sm U⟩
 clear o
 rintro f w ⟨m,d,e,j,hf,o,aP⟩
 obtain ⟨bl,rfl⟩:=has_updL _ _ hf
 clear hf
 subst aP
 replace hM:=gi hM
 refine g (s (mp r) (s (mp r) (s (xn r) (s (f107_8 r) (s (l22 r (o.bk 0 r) r) (s (mi r) ?_))))))
 obtain ⟨l6,aQ,hM⟩:=bs hM
 obtain ⟨i6,j6,ba,aS,aZ,au,av⟩:=sl_inv aQ
 obtain rfl:i6=0:=by omega
 have aw:l6.length=j6:=by rw [← av,List.length_take,List.length_drop];omega
 refine s (show Yl _ _ _ _ _ _ _ _ _ (.slice a l6.length b) from (congrArg (fun z=>Value.slice a z b) aw).symm ▸ xSlcH j6 u22_ ti3 r r aS (Nat.le_trans au ((o.vw 9 6 r r)).cap)) (s (xn r) (s (f107_8 r) ?_))
 replace o:=o.shr 9 6 r r au av
 try dsimp only [List.set] at o
 obtain ⟨Q7,aT⟩:∃ Q,K.take j6=Q:=⟨_,rfl⟩
 rw [aT] at o
 refine sTs (tb o 0 [Z a l6 b] r ti22 r r r r r (show _=#[.map (some p),.map (some t),Z u c.source.Program.Records v,Z x c.source.Program.Funcs B,Z D c.source.Vars E,Z F c.source.Stmts H,Z I c.params J,Z d m e,Z a l6 b,V c.current,V c.line] from r)) ?_
 intro w8 o
 try dsimp only [List.set] at o
 refine n ?_
 obtain rfl:=sm hM
 refine res0 (P:=Try.prog) (fn:=Try.f97) r ?_
 exact ⟨d,e,j,a,b,Q7,r,o⟩
def Ct_checker_declare (m:Gc→Gv→Option (Int × Int × Gc)):Prop:=∀ {w0:World} {a5:Nat→Prop} {b:Gc} {x1:Gv} {a1:Nat} {c:Nat} {d:Nat} {e:Option Addr} {f:Nat} {u:List (List Value)} {C:Nat} {h:Option Addr} {i:Nat} {x:List (List Value)} {D:Nat} {j:Option Addr} {k:Nat} {z:List (List Value)} {E:Nat} {l:Option Addr} {o:Nat} {A:List (List Value)} {F:Nat} {p:Option Addr} {t:Nat} {B:List (List Value)} {G:Nat} {H:Option Addr} {I:Nat} {N:List (List Value)} {J:Nat} {K:Option Addr} {L:Nat} {P:List (List Value)} {M:Nat} {R:Int × Int × Gc},Pre w0 a5 [.box a1 107 #[.map (some c),.map (some d),Z e b.source.Program.Records f,Z h b.source.Program.Funcs i,Z j b.source.Vars k,Z l b.source.Stmts o,Z p b.params t,Z H b.vars I,Z K b.scope L,V b.current,V b.line],.map ekT evI c b.records,.map ekT evI d b.funcs,O C e f 127 Gr u,O D h i 82 Gn x,O E j k 60 (List Gv) z,O F l o 65 Gi A,O G p t 3 Int B,O J H I 59 Gv N,O M K L 3 Int P] [.els u b.source.Program.Records,.els x b.source.Program.Funcs,.els z b.source.Vars,.els A b.source.Stmts,.els B b.params,.els N b.vars,.els P b.scope]→C≤w0.heap.size→D≤w0.heap.size→E≤w0.heap.size→F≤w0.heap.size→G≤w0.heap.size→J≤w0.heap.size→M≤w0.heap.size→m b x1=some R→
 Calls Try.prog 137 #[Pt a1,.agg #[T x1.Name,V x1.Kind,V x1.Record,V x1.Words,.bool x1.Param,V x1.From,V x1.To]] w0 (Ret fun v w=>pel R fun r0 R=>pel R fun r1 a=>∃ (Q:OA)(S:Nat)(U:LV)(W:OA)(X:Nat)(Y:LV),v=.tuple #[V r0,V r1]∧Bx w0 w a5 (Gof [.box a1 107 #[.map (some c),.map (some d),Z e b.source.Program.Records f,Z h b.source.Program.Funcs i,Z j b.source.Vars k,Z l b.source.Stmts o,Z p b.params t,Z H b.vars I,Z K b.scope L,V b.current,V b.line],.map ekT evI c b.records,.map ekT evI d b.funcs,O C e f 127 Gr u,O D h i 82 Gn x,O E j k 60 (List Gv) z,O F l o 65 Gi A,O G p t 3 Int B,O J H I 59 Gv N,O M K L 3 Int P]) [.box a1 107 #[.map (some c),.map (some d),Z e a.source.Program.Records f,Z h a.source.Program.Funcs i,Z j a.source.Vars k,Z l a.source.Stmts o,Z p a.params t,Z Q a.vars S,Z W a.scope X,V a.current,V a.line],.map ekT evI c a.records,.map ekT evI d a.funcs,O C e f 127 Gr u,O D h i 82 Gn x,O E j k 60 (List Gv) z,O F l o 65 Gi A,O G p t 3 Int B,O J Q S 59 Gv U,O M W X 3 Int Y] [.els u a.source.Program.Records,.els x a.source.Program.Funcs,.els z a.source.Vars,.els A a.source.Stmts,.els B a.params,.els U a.vars,.els Y a.scope])
def m_checker_declare (fu:Nat)(a:Gc) (e:Gv):Option (Int × Int × Gc):=
 (m_checker_find fu a e.Name).bind fun h=>
 pel h fun f b=>
 if b=true then
  some (0,9,a)
 else
  if 24≤(a.vars.length:Int) then
   some (0,5,a)
  else
   (m_checker_add fu a e).bind fun h=>
   pel h fun c d=>
   some (c,0,d)
theorem sp_checker_declare (fu:Nat):Ct_checker_declare (m_checker_declare fu):=by
 intro w0 av E l aa F H I J X Y K L a0 a1 M N a2 a3 Q S a4 a5 U W a6 a7 b c h a8 d e j a9 R hP m o p t u v w f
 unfold m_checker_declare at f
 have a:=hP.bx
 clear hP
 generalize hG:Gof _=G at a ⊢
 refine cf Try.func137 r ?_
 refine wCut [(0,Pt aa),(1,.agg #[T l.Name,V l.Kind,V l.Record,V l.Words,.bool l.Param,V l.From,V l.To])] ⟨r,r,y⟩ fun aw=>?_
 refine q (g (sTo (aNewB a (mBox r)) ?_))
 rintro _ w1 ⟨b1,rfl,a⟩
 refine s (xi r) (s (xi r) (n (q (q (g (s (mp r) (s (f59_0 r) (s (l9 r (a.bk 0 r) r) ?_))))))))
 obtain ⟨⟨ag,ah⟩,h2,f⟩:=bs f
 replace f:=pi f
 have hc:=(sp_checker_find fu) (a.pr [1,2,3,4,5,6,7,8,9,10] [0] [0,1,2,3,4,5,6] r) (a.le m) (a.le o) (a.le p) (a.le t) (a.le u) (a.le v) (a.le w) h2
 refine sc (ec cal140 r) hc ?_
 rintro _ w2 ⟨rfl,hK⟩
 replace a:=a.cl [1,2,3,4,5,6,7,8,9,10] [0] r hK r
 try dsimp only [pick,nth,ca,na] at a
 refine s xMove (s (xExtract r r) (s (xExtract r r) (s (xi r) (s (xAsB r) (n (q (g (s (xMvB r) (n ?_)))))))))
 rcases iv f with ⟨h3,f⟩|⟨h3,f⟩
 ·refine wIfT (cb h3) (q (g (s (xi r) (s (xi r) (n (wRt ?_))))))
  obtain rfl:=sm f
  refine resV2 r (rdT r) (rdT r) ?_
  exact pok (pok (⟨b,c,h,d,e,j,r,(a.ad [0,1,2,3,4,5,6,7,8,9] [0,1,2,3,4,5,6])⟩))
 replace h3:=nt h3
 refine wIfF (cb h3) (wk (q (q (g (s (mp r) (s (xn r) (s (f107_7 r) (s (l60 r (a.bk 0 r) r) (s (xLnR u60_ r) (s (xGeq r r) (n ?_)))))))))))
 rcases iv f with ⟨h4,f⟩|⟨h4,f⟩
 ·refine wIfT (bt h4) (q (g (s (xi r) (s (xi r) (n (wRt ?_))))))
  obtain rfl:=sm f
  refine resV2 r (rdT r) (rdT r) ?_
  exact pok (pok (⟨b,c,h,d,e,j,r,(a.ad [0,1,2,3,4,5,6,7,8,9] [0,1,2,3,4,5,6])⟩))
 refine wIfF (bf h4) (wk (q (g (s (mp r) (s (xLoadS [T l.Name,V l.Kind,V l.Record,V l.Words,.bool l.Param,V l.From,V l.To] u59_ r ti59 r r (Cells.part (a.bk 10 r).cells (o2:=0) r)) ?_)))))
 obtain ⟨⟨ai,aj⟩,h5,f⟩:=bs f
 replace f:=pi f
 have hc:=(sp_checker_add fu) (a.pr [0,1,2,3,4,5,6,7,8,9] [10] [0,1,2,3,4,5,6] r) (a.le m) (a.le o) (a.le p) (a.le t) (a.le u) (a.le v) (a.le w) h5
 refine sc (ec cal95 r) hc ?_
 rintro _ w5 ⟨x,z,A,B,C,D,rfl,hK⟩
 replace a:=a.cl [0,1,2,3,4,5,6,7,8,9] [10] r hK r
 try dsimp only [pick,nth,ca,na] at a
 refine s (xi r) (s (xi r) (n (wRt ?_)))
 obtain rfl:=sm f
 refine resV2 r (rdT r) (rdT r) ?_
 exact pok (pok (⟨x,z,A,B,C,D,r,(a.ad [0,1,2,3,4,5,6,7,8,9] [0,1,2,3,4,5,6])⟩))
def Ct_checker_variable (m:Gc→Gs→Option (Int × Int × Gc)):Prop:=∀ {w0:World} {af:Nat→Prop} {b:Gc} {P:Gs} {ab:Nat} {c:Nat} {d:Nat} {e:Option Addr} {f:Nat} {x:List (List Value)} {D:Nat} {h:Option Addr} {i:Nat} {z:List (List Value)} {E:Nat} {j:Option Addr} {k:Nat} {A:List (List Value)} {F:Nat} {o:Option Addr} {p:Nat} {B:List (List Value)} {G:Nat} {t:Option Addr} {u:Nat} {C:List (List Value)} {H:Nat} {I:Option Addr} {J:Nat} {Q:List (List Value)} {K:Nat} {L:Option Addr} {M:Nat} {S:List (List Value)} {N:Nat} {a2:Option Addr} {a3:Nat} {a4:Option Addr} {a5:Nat} {a6:Option Addr} {a7:Nat} {a8:Option Addr} {a9:Nat} {R:Int × Int × Gc},Pre w0 af [.box ab 107 #[.map (some c),.map (some d),Z e b.source.Program.Records f,Z h b.source.Program.Funcs i,Z j b.source.Vars k,Z o b.source.Stmts p,Z t b.params u,Z I b.vars J,Z L b.scope M,V b.current,V b.line],.map ekT evI c b.records,.map ekT evI d b.funcs,O D e f 127 Gr x,O E h i 82 Gn z,O F j k 60 (List Gv) A,O G o p 65 Gi B,O H t u 3 Int C,O K I J 59 Gv Q,O N L M 3 Int S] [.els x b.source.Program.Records,.els z b.source.Program.Funcs,.els A b.source.Vars,.els B b.source.Stmts,.els C b.params,.els Q b.vars,.els S b.scope,.l a2 a3 P.Target,.l a4 a5 P.Args,.l a6 a7 P.Body,.l a8 a9 P.Else]→D≤w0.heap.size→E≤w0.heap.size→F≤w0.heap.size→G≤w0.heap.size→H≤w0.heap.size→K≤w0.heap.size→N≤w0.heap.size→m b P=some R→
 Calls Try.prog 129 #[Pt ab,.agg #[V P.Kind,V P.Line,V P.Id,T P.Name,T P.Type_,V P.Len,V P.Var,Z a2 P.Target a3,T P.Func,V P.Callee,Z a4 P.Args a5,Z a6 P.Body a7,Z a8 P.Else a9]] w0 (Ret fun v w=>pel R fun r0 R=>pel R fun r1 a=>∃ (U:OA)(W:Nat)(X:LV)(Y:OA)(a0:Nat)(a1:LV),v=.tuple #[V r0,V r1]∧Bx w0 w af (Gof [.box ab 107 #[.map (some c),.map (some d),Z e b.source.Program.Records f,Z h b.source.Program.Funcs i,Z j b.source.Vars k,Z o b.source.Stmts p,Z t b.params u,Z I b.vars J,Z L b.scope M,V b.current,V b.line],.map ekT evI c b.records,.map ekT evI d b.funcs,O D e f 127 Gr x,O E h i 82 Gn z,O F j k 60 (List Gv) A,O G o p 65 Gi B,O H t u 3 Int C,O K I J 59 Gv Q,O N L M 3 Int S]) [.box ab 107 #[.map (some c),.map (some d),Z e a.source.Program.Records f,Z h a.source.Program.Funcs i,Z j a.source.Vars k,Z o a.source.Stmts p,Z t a.params u,Z U a.vars W,Z Y a.scope a0,V a.current,V a.line],.map ekT evI c a.records,.map ekT evI d a.funcs,O D e f 127 Gr x,O E h i 82 Gn z,O F j k 60 (List Gv) A,O G o p 65 Gi B,O H t u 3 Int C,O K U W 59 Gv X,O N Y a0 3 Int a1] [.els x a.source.Program.Records,.els z a.source.Program.Funcs,.els A a.source.Vars,.els B a.source.Stmts,.els C a.params,.els X a.vars,.els a1 a.scope])
def m_checker_variable_J0 (fu:Nat)(b:Gc) (a:Gs):Option (Ld (Int × Int × Int) (Int × Int × Gc)):=
 if ¬ a.Type_=(⟨#[]⟩:BA) then
  if (!((mget b.records a.Type_).isSome))=true then
   some (.out (0,8,b))
  else
   (ix b.source.Program.Records ((mget b.records a.Type_).getD 0)).bind fun c=>
   some (.go (2,((mget b.records a.Type_).getD 0),(c.Fields.length:Int)))
 else
  if 0 < a.Len then
   some (.go (3,(-1),a.Len))
  else
   some (.go (1,(-1),1))
def m_checker_variable (fu:Nat)(h:Gc) (i:Gs):Option (Int × Int × Gc):=
 (m_checker_variable_J0 fu h i).bind fun j=>j.el (fun j=>
 pel j fun d j=>pel j fun e f=>
 (m_checker_declare fu h (⟨i.Name,d,e,f,false,0,0⟩:Gv)).bind fun j=>
 pel j fun a j=>pel j fun b c=>
 some (a,b,c)
 ) (fun o=>some o)
theorem sp_checker_variable (fu:Nat):Ct_checker_variable (m_checker_variable fu):=by
 intro w0 b9 c h ae t u v x M a6 A B N a7 C D Q a8 E F S a9 H I U aa j m J ab o p K ac an ao ap aq ar au av aw R hP af ag ah ai aj ak al L
 unfold m_checker_variable at L
 have a:=hP.bx
 clear hP
 generalize hG:Gof _=G at a ⊢
 refine cf Try.func129 r ?_
 refine wCut [(0,Pt ae),(1,.agg #[V h.Kind,V h.Line,V h.Id,T h.Name,T h.Type_,V h.Len,V h.Var,Z an h.Target ao,T h.Func,V h.Callee,Z ap h.Args aq,Z ar h.Body au,Z av h.Else aw])] ⟨r,r,y⟩ fun ba=>?_
 refine q (g (sTo (aNewB a (mBox r)) ?_))
 rintro _ w1 ⟨b1,rfl,a⟩
 refine s (xi r) (s (xi r) (n (q (g (s (f111_3 r) (s (l9 r (a.bk 0 r) r) (s (bd59_0_1_2_3 r r r r) (sTo (aNewB a (mAlloc ti59)) ?_))))))))
 rintro _ w2 ⟨b2,rfl,a⟩
 refine sTs (tb a 0 [T h.Name,V 1,V (-1),V 1,.bool false,V 0,V 0] r ti59 r r r r r (show _=#[T h.Name,V 1,V (-1),V 1,.bool false,V 0,V 0] from r)) ?_
 intro w3 a
 try dsimp only [List.set] at a
 refine n (q ?_)
 obtain ⟨Y4,e,L⟩:=bs L
 refine wJd (fun f w=>∃ (a3:Int)(a4:Int)(a5:Int),Has f [(0,Pt ae),(6,Pt b2)]∧Bx w0 w b9 G [.box b2 59 #[T h.Name,V a3,V a4,V a5,.bool false,V 0,V 0],.box ae 107 #[.map (some t),.map (some u),Z v c.source.Program.Records x,Z A c.source.Program.Funcs B,Z C c.source.Vars D,Z E c.source.Stmts F,Z H c.params I,Z j c.vars m,Z o c.scope p,V c.current,V c.line],.map ekT evI t c.records,.map ekT evI u c.funcs,O a6 v x 127 Gr M,O a7 A B 82 Gn N,O a8 C D 60 (List Gv) Q,O a9 E F 65 Gi S,O aa H I 3 Int U,O ab j m 59 Gv J,O ac o p 3 Int K] [.els M c.source.Program.Records,.els N c.source.Program.Funcs,.els Q c.source.Vars,.els S c.source.Stmts,.els U c.params,.els J c.vars,.els K c.scope]∧Ld.go (a3,a4,a5)=Y4) (fun J4 ax=>?_) ?_
 ·unfold m_checker_variable_J0 at e
  refine q (g (s (f111_4 r) (s (l9 r (a.bk 1 r) r) (s (xNeqT' r r) (n ?_)))))
  rcases iv e with ⟨h5,e⟩|⟨h5,e⟩
  ·refine wIfT (bt h5) (q (wDr1 a [1,2,3] [] [] (by kernel_rfl) ?_))
   replace a:=a.drew
   have b:=(a.ad [1,2,3] [])
   refine pF 0 r (mp r) b (pF 1 r (xn r) b (pF 2 r (f107_0 r) b (uF 3 r (fun hS=>l105 r (hS.bk 1 r) r) b (pF 4 r (f111_4 r) b (uF 5 r (fun hS=>l9 r (hS.bk 0 r) r) b (uF 6 r (fun hS=>xLook (ek:=ekT) (ev:=evI) (l:=c.records) (k:=h.Type_) (z:=0) u105_ (fk_txt u9_) (zv_of ti3) (hS.mp 2 r) r r) b (pF 7 r (xMove) b (pF 8 r (xExtract r r) b (pF 9 r (xExtract r r) b (pF 10 r (xi r) b (pF 11 r (xAsB r) b (hD (q ?_)))))))))))))
   refine q (g (s (xMvB r) (s (xNot r) (n ?_))))
   rcases iv e with ⟨h6,e⟩|⟨h6,e⟩
   ·refine wIfT (cb h6) (q (g (s (xi r) (s (xi r) (n (wRt ?_))))))
    obtain rfl:=sm e
    replace L:=oi L
    obtain rfl:=sm L
    refine resV2 r (rdT r) (rdT r) ?_
    exact pok (pok (⟨j,m,J,o,p,K,r,(a.ad [2,3,4,5,6,7,8,9,10,11] [0,1,2,3,4,5,6])⟩))
   replace h6:=nt h6
   refine wIfF (cb h6) (wk ?_)
   obtain ⟨e7,am,e⟩:=bs e
   obtain ⟨k7,aF,am⟩:=ix_inv am
   obtain ⟨aR,aG,aH⟩:=(a.de 0 rfl).get am
   obtain ⟨aA,aB,rfl,aC⟩:=GRecord.out aH
   replace a:=a.dadd (d:=.l aA aB e7.Fields) aC
   refine wDr1 a [2,5] [0,1] [] (by kernel_rfl) ?_
   replace a:=a.drew
   have b:=(a.ad [2,5] [0,1])
   refine pF 0 r (mi r) b (pF 1 r (mp r) b (pF 2 r (xn r) b (pF 3 r (f107_2 r) b (pF 4 r (f30_0 r) b (pF 5 r (f26_0 r) b (uF 6 r (fun hS=>l23 r (hS.bk 0 r) r) b (pF 7 r (mi r) b (pF 8 r (xIdR u23_ ti127 r r aF (a.vw 5 1 r r) am) b (pF 9 r (f127_1 r) b (uF 10 r (fun hS=>xLoad u70_ r r ((hS.oc 1 1 r r aG) 1 _ r)) b (pF 11 r (xLnR u70_ r) b (pF 12 r (f59_1 r) b ?_))))))))))))
   refine hO 13 (os r r (tb a 0 [V 2] r ti3 r r r r r (show _=#[T h.Name,V 2,V (-1),V 1,.bool false,V 0,V 0] from r)) ?_)
   intro w9 a
   try dsimp only [List.set] at a
   have b:=(a.ad [2,5] [0,1])
   refine ⟨(sF b),?_⟩
   refine pF 14 r (f59_2 r) b ?_
   refine hO 15 (os r r (tb a 0 [V ((mget c.records h.Type_).getD 0)] r ti3 r r r r r (show _=#[T h.Name,V 2,V ((mget c.records h.Type_).getD 0),V 1,.bool false,V 0,V 0] from r)) ?_)
   intro aS a
   try dsimp only [List.set] at a
   have b:=(a.ad [2,5] [0,1])
   refine ⟨(sF b),?_⟩
   refine pF 16 r (f59_3 r) b ?_
   refine hO 17 (os r r (tb a 0 [V (e7.Fields.length:Int)] r ti3 r r r r r (show _=#[T h.Name,V 2,V ((mget c.records h.Type_).getD 0),V (e7.Fields.length:Int),.bool false,V 0,V 0] from r)) ?_)
   intro aT a
   try dsimp only [List.set] at a
   have b:=(a.ad [2,5] [0,1])
   refine ⟨(sF b),?_⟩
   refine hD ?_
   exact ax _ _ ⟨2,((mget c.records h.Type_).getD 0),(e7.Fields.length:Int),⟨r,r,y⟩,(a.ad [0,2,3,4,5,6,7,8,9,10,11] [1,2,3,4,5,6,7]),sm e⟩
  refine wIfF (bf h5) (q (g (s (f111_5 r) (s (l3 r (a.bk 1 r) r) (s (xGtr r r) (n ?_))))))
  rcases iv e with ⟨ay,e⟩|⟨ay,e⟩
  ·refine wIfT (bt ay) (wDr1 a [1] [] [] (by kernel_rfl) ?_)
   replace a:=a.drew
   have b:=(a.ad [1] [])
   refine pF 0 r (f111_5 r) b (uF 1 r (fun hS=>l3 r (hS.bk 0 r) r) b (pF 2 r (f59_1 r) b ?_))
   refine hO 3 (os r r (tb a 0 [V 3] r ti3 r r r r r (show _=#[T h.Name,V 3,V (-1),V 1,.bool false,V 0,V 0] from r)) ?_)
   intro aU a
   try dsimp only [List.set] at a
   have b:=(a.ad [1] [])
   refine ⟨(sF b),?_⟩
   refine pF 4 r (f59_3 r) b ?_
   refine hO 5 (os r r (tb a 0 [V h.Len] r ti3 r r r r r (show _=#[T h.Name,V 3,V (-1),V h.Len,.bool false,V 0,V 0] from r)) ?_)
   intro aV a
   try dsimp only [List.set] at a
   have b:=(a.ad [1] [])
   refine ⟨(sF b),?_⟩
   refine hD ?_
   exact ax _ _ ⟨3,(-1),h.Len,⟨r,r,y⟩,(a.ad [0,2,3,4,5,6,7,8,9,10,11] [0,1,2,3,4,5,6]),sm e⟩
  refine wIfF (bf ay) (wk ?_)
  exact ax _ _ ⟨1,(-1),1,⟨r,r,y⟩,(a.ad [0,2,3,4,5,6,7,8,9,10,11] [0,1,2,3,4,5,6]),sm e⟩
 clear a
 rintro f w ⟨a3,a4,a5,hf,a,aI⟩
 obtain ⟨ba,rfl⟩:=has_updL _ _ hf
 clear hf
 subst aI
 replace L:=gi L
 replace L:=pi L
 replace L:=pi L
 refine q (g (s (mp r) (s (xLoadS [T h.Name,V a3,V a4,V a5,.bool false,V 0,V 0] u59_ r ti59 r r (Cells.part (a.bk 0 r).cells (o2:=0) r)) ?_)))
 obtain ⟨⟨aJ,aK,aL⟩,aM,L⟩:=bs L
 replace L:=pi L
 replace L:=pi L
 have hc:=(sp_checker_declare fu) (a.pr [1,2,3,4,5,6,7,8,9,10] [0] [0,1,2,3,4,5,6] r) (a.le af) (a.le ag) (a.le ah) (a.le ai) (a.le aj) (a.le ak) (a.le al) aM
 refine sc (ec cal137 r) hc ?_
 rintro _ aW ⟨W,X,Y,a0,a1,a2,rfl,hK⟩
 replace a:=a.cl [1,2,3,4,5,6,7,8,9,10] [0] r hK r
 try dsimp only [pick,nth,ca,na] at a
 refine s (xExtract r r) (s (xExtract r r) (s (xi r) (s (xi r) (n (wRt ?_)))))
 obtain rfl:=sm L
 refine resV2 r (rdT r) (rdT r) ?_
 exact pok (pok (⟨W,X,Y,a0,a1,a2,r,(a.ad [0,1,2,3,4,5,6,7,8,9] [0,1,2,3,4,5,6])⟩))
abbrev T_checker_expressions:=GChecker→(List GExpr)→Option ((List GExpr) × Int × GChecker)
abbrev T_checker_expression:=GChecker→GExpr→Option (GExpr × Int × GChecker)
def Ct_checker_expressions (m:Gc→(List Ge)→Option ((List Ge) × Int × Gc)):Prop:=∀ {S:World} {a5:Nat→Prop} {b:Gc} {x1:(List Ge)} {a1:Nat} {c:Nat} {d:Nat} {e:Option Addr} {f:Nat} {C:List (List Value)} {J:Nat} {h:Option Addr} {i:Nat} {D:List (List Value)} {K:Nat} {j:Option Addr} {k:Nat} {E:List (List Value)} {L:Nat} {o:Option Addr} {p:Nat} {F:List (List Value)} {M:Nat} {t:Option Addr} {u:Nat} {G:List (List Value)} {N:Nat} {x:Option Addr} {z:Nat} {H:List (List Value)} {P:Nat} {A:Option Addr} {B:Nat} {I:List (List Value)} {Q:Nat} {U:Option Addr} {W:Nat} {R:(List Ge) × Int × Gc},Pre S a5 [.box a1 107 #[.map (some c),.map (some d),Z e b.source.Program.Records f,Z h b.source.Program.Funcs i,Z j b.source.Vars k,Z o b.source.Stmts p,Z t b.params u,Z x b.vars z,Z A b.scope B,V b.current,V b.line],.map ekT evI c b.records,.map ekT evI d b.funcs,O J e f 127 Gr C,O K h i 82 Gn D,O L j k 60 (List Gv) E,O M o p 65 Gi F,O N t u 3 Int G,O P x z 59 Gv H,O Q A B 3 Int I] [.els C b.source.Program.Records,.els D b.source.Program.Funcs,.els E b.source.Vars,.els F b.source.Stmts,.els G b.params,.els H b.vars,.els I b.scope,.l U W x1]→J≤S.heap.size→K≤S.heap.size→L≤S.heap.size→M≤S.heap.size→N≤S.heap.size→P≤S.heap.size→Q≤S.heap.size→m b x1=some R→
 Calls Try.prog 138 #[Pt a1,Z U x1 W] S (Ret fun v w=>pel R fun r0 R=>pel R fun r1 a=>∃ (X:OA)(Y:Nat)(a0:LV),v=.tuple #[Z X r0 Y,V r1]∧Bx S w a5 (Gof [.box a1 107 #[.map (some c),.map (some d),Z e b.source.Program.Records f,Z h b.source.Program.Funcs i,Z j b.source.Vars k,Z o b.source.Stmts p,Z t b.params u,Z x b.vars z,Z A b.scope B,V b.current,V b.line],.map ekT evI c b.records,.map ekT evI d b.funcs,O J e f 127 Gr C,O K h i 82 Gn D,O L j k 60 (List Gv) E,O M o p 65 Gi F,O N t u 3 Int G,O P x z 59 Gv H,O Q A B 3 Int I]) [O S.heap.size X Y 138 Ge a0,.box a1 107 #[.map (some c),.map (some d),Z e a.source.Program.Records f,Z h a.source.Program.Funcs i,Z j a.source.Vars k,Z o a.source.Stmts p,Z t a.params u,Z x a.vars z,Z A a.scope B,V a.current,V a.line],.map ekT evI c a.records,.map ekT evI d a.funcs,O J e f 127 Gr C,O K h i 82 Gn D,O L j k 60 (List Gv) E,O M o p 65 Gi F,O N t u 3 Int G,O P x z 59 Gv H,O Q A B 3 Int I] [.els a0 r0,.els C a.source.Program.Records,.els D a.source.Program.Funcs,.els E a.source.Vars,.els F a.source.Stmts,.els G a.params,.els H a.vars,.els I a.scope])
def Ct_checker_expression (m:Gc→Ge→Option (Ge × Int × Gc)):Prop:=∀ {Y:World} {a4:Nat→Prop} {b:Gc} {x1:Ge} {a0:Nat} {c:Nat} {d:Nat} {e:Option Addr} {f:Nat} {C:List (List Value)} {J:Nat} {h:Option Addr} {i:Nat} {D:List (List Value)} {K:Nat} {j:Option Addr} {k:Nat} {E:List (List Value)} {L:Nat} {o:Option Addr} {p:Nat} {F:List (List Value)} {M:Nat} {t:Option Addr} {u:Nat} {G:List (List Value)} {N:Nat} {x:Option Addr} {z:Nat} {H:List (List Value)} {P:Nat} {A:Option Addr} {B:Nat} {I:List (List Value)} {Q:Nat} {S:Option Addr} {U:Nat} {R:Ge × Int × Gc},Pre Y a4 [.box a0 107 #[.map (some c),.map (some d),Z e b.source.Program.Records f,Z h b.source.Program.Funcs i,Z j b.source.Vars k,Z o b.source.Stmts p,Z t b.params u,Z x b.vars z,Z A b.scope B,V b.current,V b.line],.map ekT evI c b.records,.map ekT evI d b.funcs,O J e f 127 Gr C,O K h i 82 Gn D,O L j k 60 (List Gv) E,O M o p 65 Gi F,O N t u 3 Int G,O P x z 59 Gv H,O Q A B 3 Int I] [.els C b.source.Program.Records,.els D b.source.Program.Funcs,.els E b.source.Vars,.els F b.source.Stmts,.els G b.params,.els H b.vars,.els I b.scope,.l S U x1.Args]→J≤Y.heap.size→K≤Y.heap.size→L≤Y.heap.size→M≤Y.heap.size→N≤Y.heap.size→P≤Y.heap.size→Q≤Y.heap.size→m b x1=some R→
 Calls Try.prog 141 #[Pt a0,.agg #[V x1.Op,V x1.Number,V x1.Var,T x1.Name,T x1.Field,Z S x1.Args U]] Y (Ret fun v w=>pel R fun r0 R=>pel R fun r1 a=>∃ (W:OA)(X:Nat),v=.tuple #[.agg #[V r0.Op,V r0.Number,V r0.Var,T r0.Name,T r0.Field,Z W r0.Args X],V r1]∧Bx Y w a4 (Gof [.box a0 107 #[.map (some c),.map (some d),Z e b.source.Program.Records f,Z h b.source.Program.Funcs i,Z j b.source.Vars k,Z o b.source.Stmts p,Z t b.params u,Z x b.vars z,Z A b.scope B,V b.current,V b.line],.map ekT evI c b.records,.map ekT evI d b.funcs,O J e f 127 Gr C,O K h i 82 Gn D,O L j k 60 (List Gv) E,O M o p 65 Gi F,O N t u 3 Int G,O P x z 59 Gv H,O Q A B 3 Int I]) [.box a0 107 #[.map (some c),.map (some d),Z e a.source.Program.Records f,Z h a.source.Program.Funcs i,Z j a.source.Vars k,Z o a.source.Stmts p,Z t a.params u,Z x a.vars z,Z A a.scope B,V a.current,V a.line],.map ekT evI c a.records,.map ekT evI d a.funcs,O J e f 127 Gr C,O K h i 82 Gn D,O L j k 60 (List Gv) E,O M o p 65 Gi F,O N t u 3 Int G,O P x z 59 Gv H,O Q A B 3 Int I] [.l W X r0.Args,.els C a.source.Program.Records,.els D a.source.Program.Funcs,.els E a.source.Vars,.els F a.source.Stmts,.els G a.params,.els H a.vars,.els I a.scope])
def F_checker_expressions_L0 (fu:Nat)(r_checker_expressions:T_checker_expressions) (r_checker_expression:T_checker_expression):List Ge→Nat→(List Ge)→Int→Int→(List (BA × Int))→(List (BA × Int))→(List Gr)→(List Gn)→(List (List Gv))→(List Gi)→(List Int)→(List Gv)→(List Int)→Option (Ld (List Ge × Int × Int × List (BA × Int) × List (BA × Int) × List Gr × List Gn × List (List Gv) × List Gi × List Int × List Gv × List Int) ((List Ge) × Int × Gc))
 | [],_,e,f,h,i,j,k,l,m,o,b,c,d=>some (.go (e,f,h,i,j,k,l,m,o,b,c,d))
 | v :: w,x,e,f,h,i,j,k,l,m,o,b,c,d=>
 (r_checker_expression (⟨i,j,(⟨(⟨k,l⟩:GProgram),m,o⟩:GSource),b,c,d,f,h⟩:Gc) v).bind fun z=>
 pel z fun t z=>pel z fun p a=>
 if p≠0 then
  some (.out (([]:List Ge),p,a))
 else
  (app e ([t]:List Ge)).bind fun u=>
  F_checker_expressions_L0 fu r_checker_expressions r_checker_expression w (x+1) u a.current a.line a.records a.funcs a.source.Program.Records a.source.Program.Funcs a.source.Vars a.source.Stmts a.params a.vars a.scope
def F_checker_expressions (fu:Nat)(r_checker_expressions:T_checker_expressions) (r_checker_expression:T_checker_expression) (a:Gc) (t:(List Ge)):Option ((List Ge) × Int × Gc):=
 (F_checker_expressions_L0 fu r_checker_expressions r_checker_expression t 0 ([]:List Ge) a.current a.line a.records a.funcs a.source.Program.Records a.source.Program.Funcs a.source.Vars a.source.Stmts a.params a.vars a.scope).bind fun u=>u.el (fun u=>
 pel u fun e u=>pel u fun f u=>pel u fun h u=>pel u fun i u=>pel u fun j u=>pel u fun k u=>pel u fun l u=>pel u fun m u=>pel u fun p u=>pel u fun b u=>pel u fun c d=>
 some (e,0,(⟨i,j,(⟨(⟨k,l⟩:GProgram),m,p⟩:GSource),b,c,d,f,h⟩:Gc))
 ) (fun o=>some o)
def F_checker_expression_J0 (fu:Nat)(r_checker_expressions:T_checker_expressions) (r_checker_expression:T_checker_expression) (a:Ge):Option (Ld (Int) (Ge × Int × Gc)):=
 if a.Op=1 then
  some (.go 1)
 else
  if a.Op=2 then
   some (.go 2)
  else
   if a.Op=3 then
    some (.go 3)
   else
    some (.go 0)
def F_checker_expression_J1 (fu:Nat)(r_checker_expressions:T_checker_expressions) (r_checker_expression:T_checker_expression) (d:Gc) (e:Ge) (a:Int):Option (Ld (Int) (Ge × Int × Gc)):=
 if a≠0 then
  (m_checker_find fu d e.Name).bind fun h=>
  pel h fun b c=>
  if (!c)=true then
   some (.out (e,8,d))
  else
   (ix d.vars b).bind fun f=>
   if f.Kind≠a then
    some (.out (e,10,d))
   else
    some (.go b)
 else
  some (.go e.Var)
def F_checker_expression_J2 (fu:Nat)(r_checker_expressions:T_checker_expressions) (r_checker_expression:T_checker_expression) (d:Gc) (c:Ge) (b:Int):Option (Ld (Int) (Ge × Int × Gc)):=
 if c.Op=2 then
  (ix d.vars b).bind fun e=>
  (ix d.source.Program.Records e.Record).bind fun f=>
  (m_slices_Index fu f.Fields c.Field).bind fun a=>
  if a < 0 then
   some (.out ((⟨c.Op,a,b,c.Name,c.Field,c.Args⟩:Ge),8,d))
  else
   some (.go a)
 else
  some (.go c.Number)
def F_checker_expression (fu:Nat)(r_checker_expressions:T_checker_expressions) (r_checker_expression:T_checker_expression) (i:Gc) (b:Ge):Option (Ge × Int × Gc):=
 (F_checker_expression_J0 fu r_checker_expressions r_checker_expression b).bind fun j=>j.el (fun h=>
 (F_checker_expression_J1 fu r_checker_expressions r_checker_expression i b h).bind fun j=>j.el (fun a=>
 (F_checker_expression_J2 fu r_checker_expressions r_checker_expression i b a).bind fun j=>j.el (fun c=>
 (r_checker_expressions i b.Args).bind fun j=>
 pel j fun d j=>pel j fun e f=>
 some ((⟨b.Op,c,a,b.Name,b.Field,d⟩:Ge),e,f)
 ) (fun o=>some o)
 ) (fun o=>some o)
 ) (fun o=>some o)
def tab_checker_expressions:Nat→(Gc→(List Ge)→Option ((List Ge) × Int × Gc)) × (Gc→Ge→Option (Ge × Int × Gc))
 | 0=>((fun _ _=>none),(fun _ _=>none))
 | fu+1=>(F_checker_expressions fu ((tab_checker_expressions fu).1) ((tab_checker_expressions fu).2),F_checker_expression fu ((tab_checker_expressions fu).1) ((tab_checker_expressions fu).2))
def m_checker_expressions (fu:Nat):=(tab_checker_expressions fu).1
def m_checker_expression (fu:Nat):=(tab_checker_expressions fu).2
theorem wk_checker_expressions (fu:Nat)(r_checker_expressions:T_checker_expressions) (r_checker_expression:T_checker_expression) (H_checker_expressions:Ct_checker_expressions r_checker_expressions) (H_checker_expression:Ct_checker_expression r_checker_expression):Ct_checker_expressions (F_checker_expressions fu r_checker_expressions r_checker_expression):=by
 intro w0 bb x0 x1 ap C D E F a4 ah H I a5 ai J K a6 aj L M a7 ak N Q a8 al S U a9 am W X aa an ac ae R hP ar au av aw ax ay az B
 unfold F_checker_expressions at B
 have b:=hP.bx
 clear hP
 generalize hG:Gof _=G at b ⊢
 refine cf Try.func138 r ?_
 refine wCut [(0,Pt ap),(1,Z ac x1 ae)] ⟨r,r,y⟩ fun bc=>?_
 refine q (g (s (xAsS r) (s (xi r) (n (q (g (s (xAsS r) (n (q (q (g (s (xMvS r) (s (xLnR u109_ r) ?_)))))))))))))
 refine s (mi r) (n ?_)
 replace b:=b.owL Ge 138
 have aR:=(b.dl 8 r).bd
 obtain ⟨Y1,i,B⟩:=bs B
 refine wJd (fun f w=>∃ (u:List Ge) (j:OA)(k:Nat)(m:LV)(Y:Int)(a0:Int)(a1:List (BA × Int)) (a2:List (BA × Int)) (v:List Gr) (x:List Gn) (z:List (List Gv)) (A:List Gi) (c:List Int) (e:List Gv) (h:List Int),Has f [(6,Z j u k)]∧Bx w0 w bb G [O w0.heap.size j k 138 Ge m,.box ap 107 #[.map (some C),.map (some D),Z E v F,Z H x I,Z J z K,Z L A M,Z N c Q,Z S e U,Z W h X,V Y,V a0],.map ekT evI C a1,.map ekT evI D a2,O ah E F 127 Gr a4,O ai H I 82 Gn a5,O aj J K 60 (List Gv) a6,O ak L M 65 Gi a7,O al N Q 3 Int a8,O am S U 59 Gv a9,O an W X 3 Int aa] [.els m u,.els a4 v,.els a5 x,.els a6 z,.els a7 A,.els a8 c,.els a9 e,.els aa h,.l ac ae x1]∧Ld.go (u,Y,a0,a1,a2,v,x,z,A,c,e,h)=Y1) (fun J1 aF=>?_) ?_
 ·refine wBk (wLoopGd (fun bg f w=>∃ (k1:Nat)(u:List Ge) (j:OA)(k:Nat)(m:LV)(Y:Int)(a0:Int)(a1:List (BA × Int)) (a2:List (BA × Int)) (v:List Gr) (x:List Gn) (z:List (List Gv)) (A:List Gi) (c:List Int) (e:List Gv) (h:List Int),bg=x1.length - k1∧k1≤x1.length∧Has f [(13,V (k1:Int)),(0,Pt ap),(6,Z j u k),(11,Z ac x1 ae),(12,V (x1.length:Int))]∧Bx w0 w bb G [O w0.heap.size j k 138 Ge m,.box ap 107 #[.map (some C),.map (some D),Z E v F,Z H x I,Z J z K,Z L A M,Z N c Q,Z S e U,Z W h X,V Y,V a0],.map ekT evI C a1,.map ekT evI D a2,O ah E F 127 Gr a4,O ai H I 82 Gn a5,O aj J K 60 (List Gv) a6,O ak L M 65 Gi a7,O al N Q 3 Int a8,O am S U 59 Gv a9,O an W X 3 Int aa] [.els m u,.els a4 v,.els a5 x,.els a6 z,.els a7 A,.els a8 c,.els a9 e,.els aa h,.l ac ae x1]∧F_checker_expressions_L0 fu r_checker_expressions r_checker_expression (x1.drop k1) k1 u Y a0 a1 a2 v x z A c e h=some Y1) (x1.length) ⟨0,([]:List Ge),none,0,[],x0.current,x0.line,x0.records,x0.funcs,x0.source.Program.Records,x0.source.Program.Funcs,x0.source.Vars,x0.source.Stmts,x0.params,x0.vars,x0.scope,r,Nat.zero_le _,⟨r,r,r,r,r,y⟩,b,i⟩ ?_)
  clear b i
  rintro bg f w ⟨k1,u,j,k,m,Y,a0,a1,a2,v,x,z,A,c,e,h,rfl,aS,hf,b,i⟩ K1 aG
  obtain ⟨bc,rfl⟩:=has_updL _ _ hf
  clear hf
  rcases Nat.lt_or_ge k1 x1.length with aB | aB
  ·obtain ⟨u1,aA⟩:=get_ex (l:=x1) aB
   rw [drop_id aA,F_checker_expressions_L0] at i
   obtain ⟨aT,aH,b⟩:=b.nm 8 rfl aA
   obtain ⟨af,ag,rfl,aC⟩:=GExpr.out aH
   replace b:=b.dadd (d:=.l af ag u1.Args) aC
   refine q (g (s (xLssT r r (by omega)) (n (q (wIfT r (wk (q (wBk (q (g (s (xIdR u109_ ti138 r r r (b.dl 10 r) aA) (s (xLoadS [V u1.Op,V u1.Number,V u1.Var,T u1.Name,T u1.Field,Z af u1.Args ag] u138_ r ti138 r r (b.dc 1 r)) (sTo (aNewB b (mAlloc ti138)) ?_)))))))))))))
   rintro _ w4 ⟨b4,rfl,b⟩
   refine sTs (tb b 0 [V u1.Op,V u1.Number,V u1.Var,T u1.Name,T u1.Field,Z af u1.Args ag] r ti138 r r r r r (show _=#[V u1.Op,V u1.Number,V u1.Var,T u1.Name,T u1.Field,Z af u1.Args ag] from r)) ?_
   intro w5 b
   try dsimp only [List.set] at b
   refine n (q (g (s (mp r) (s (xLoadS [V u1.Op,V u1.Number,V u1.Var,T u1.Name,T u1.Field,Z af u1.Args ag] u138_ r ti138 r r (Cells.part (b.bk 0 r).cells (o2:=0) r)) ?_))))
   obtain ⟨⟨a,aQ,o⟩,h6,i⟩:=bs i
   replace i:=pi i
   replace i:=pi i
   have hc:=H_checker_expression (b.pr [2,3,4,5,6,7,8,9,10,11] [0,1] [3,4,5,6,7,8,9,0] r) (b.le ar) (b.le au) (b.le av) (b.le aw) (b.le ax) (b.le ay) (b.le az) h6
   refine sc (ec cal141 r) hc ?_
   rintro _ w6 ⟨p,t,rfl,hK⟩
   replace b:=b.cl [2,3,4,5,6,7,8,9,10,11] [0,1] r hK r
   try dsimp only [pick,nth,ca,na] at b
   refine s xMove (s (xExtract r r) (s (xExtract r r) (sTo (aNewB b (mAlloc ti138)) ?_)))
   rintro _ w7 ⟨b7,rfl,b⟩
   refine sTs (tb b 0 [V a.Op,V a.Number,V a.Var,T a.Name,T a.Field,Z p a.Args t] r ti138 r r r r r (show _=#[V a.Op,V a.Number,V a.Var,T a.Name,T a.Field,Z p a.Args t] from r)) ?_
   intro w8 b
   try dsimp only [List.set] at b
   refine s (xi r) (n (q (q (g (s (mi r) (s (xNeqD r r) (n ?_)))))))
   rcases iv i with ⟨h9,i⟩|⟨h9,i⟩
   ·refine wIfT (bt h9) (q (g (s (mi r) (s (xAsS r) (s (xi r) (n (wRt ?_)))))))
    replace b:=b.owL Ge 138
    obtain rfl:=sm i
    replace B:=oi B
    obtain rfl:=sm B
    refine resV2 r (rdT r) (rdT r) ?_
    exact pok (pok (⟨none,0,[],r,(b.ad [0,2,3,4,5,6,7,8,9,10,11] [0,2,3,4,5,6,7,8])⟩))
   refine wIfF (bf h9) (wk (g (s (xMvS r) (s (xLoadS [V a.Op,V a.Number,V a.Var,T a.Name,T a.Field,Z p a.Args t] u138_ r ti138 r r (Cells.part (b.bk 0 r).cells (o2:=0) r)) (sTo (aRowB b [[V a.Op,V a.Number,V a.Var,T a.Name,T a.Field,Z p a.Args t]] ([a]:List Ge) (bs109_1_a r) r r (by decide) ⟨(GExpr.inn ⟨p,t,r,(b.dl 0 r)⟩),y⟩) ?_)))))
   rintro _ aX ⟨aY,rfl,b⟩
   obtain ⟨aJ,aD,i⟩:=bs i
   refine sTo (aAppB b 13 11 r r u109_ ti138 r (by decide) (by decide) (Nat.le_refl _) r r (b.ysO 0 0 r r) aD) ?_
   rintro _ aZ ⟨aK,aL,aM,rfl,b⟩
   refine s (xAsS r) (n (g (s (xAdd64 r r (by omega) (by omega)) (s (mi r) (n ?_)))))
   exact aG (x1.length - (k1+1)) _ _ (by omega) ⟨k1+1,aJ,aK,aL,aM,o.current,o.line,o.records,o.funcs,o.source.Program.Records,o.source.Program.Funcs,o.source.Vars,o.source.Stmts,o.params,o.vars,o.scope,r,by omega,⟨r,r,r,r,r,y⟩,(b.ad [13,2,3,4,5,6,7,8,9,10,11] [11,2,3,4,5,6,7,8,19]),i⟩
  obtain rfl:k1=x1.length:=by omega
  rw [drop_end,F_checker_expressions_L0] at i
  refine q (g (s (xLssF r r (by omega)) (n (q (wIfF r (wEx ?_))))))
  exact aF _ _ ⟨u,j,k,m,Y,a0,a1,a2,v,x,z,A,c,e,h,⟨r,y⟩,b,sm i⟩
 clear b
 rintro f w ⟨u,j,k,m,Y,a0,a1,a2,v,x,z,A,c,e,h,hf,b,aN⟩
 obtain ⟨bc,rfl⟩:=has_updL _ _ hf
 clear hf
 subst aN
 replace B:=gi B
 replace B:=pi B
 replace B:=pi B
 replace B:=pi B
 replace B:=pi B
 replace B:=pi B
 replace B:=pi B
 replace B:=pi B
 replace B:=pi B
 replace B:=pi B
 replace B:=pi B
 replace B:=pi B
 refine q (g (s (xMvS r) (s (xAsS r) (s (xi r) (n (wRt ?_))))))
 obtain rfl:=sm B
 refine resV2 r (rdT r) (rdT r) ?_
 exact pok (pok (⟨j,k,m,r,(b.dp [0,1,2,3,4,5,6,7])⟩))
theorem wk_checker_expression (fu:Nat)(r_checker_expressions:T_checker_expressions) (r_checker_expression:T_checker_expression) (H_checker_expressions:Ct_checker_expressions r_checker_expressions) (H_checker_expression:Ct_checker_expression r_checker_expression):Ct_checker_expression (F_checker_expression fu r_checker_expressions r_checker_expression):=by
 intro w0 bE j b ag v x z A Q a8 B C S a9 D E U aa F H W ab I J X ac K L Y ae M N a0 af c e R hP aj ak al am an ao ap hM
 unfold F_checker_expression at hM
 have a:=hP.bx
 clear hP
 generalize hG:Gof _=G at a ⊢
 refine cf Try.func141 r ?_
 refine wCut [(0,Pt ag),(1,.agg #[V b.Op,V b.Number,V b.Var,T b.Name,T b.Field,Z c b.Args e])] ⟨r,r,y⟩ fun bF=>?_
 refine q (g (sTo (aNewB a (mBox r)) ?_))
 rintro _ w1 ⟨b1,rfl,a⟩
 refine sTo (aNewB a (mAlloc ti138)) ?_
 rintro _ w2 ⟨b2,rfl,a⟩
 refine s (xi r) (n (q (g (s (xi r) (n (q (q (g (s (f138_0 r) (s (l3 r (a.bk 1 r) r) (n ?_)))))))))))
 obtain ⟨Y3,a3,hM⟩:=bs hM
 refine wJd (fun f w=>∃ (av:Int),Has f [(0,Pt ag),(3,Pt b1),(4,Pt b2),(6,V av)]∧Bx w0 w bE G [.box b2 138 #[V 0,V 0,V 0,T be,T be,sn],.box b1 138 #[V b.Op,V b.Number,V b.Var,T b.Name,T b.Field,Z c b.Args e],.box ag 107 #[.map (some v),.map (some x),Z z j.source.Program.Records A,Z B j.source.Program.Funcs C,Z D j.source.Vars E,Z F j.source.Stmts H,Z I j.params J,Z K j.vars L,Z M j.scope N,V j.current,V j.line],.map ekT evI v j.records,.map ekT evI x j.funcs,O a8 z A 127 Gr Q,O a9 B C 82 Gn S,O aa D E 60 (List Gv) U,O ab F H 65 Gi W,O ac I J 3 Int X,O ae K L 59 Gv Y,O af M N 3 Int a0] [.els Q j.source.Program.Records,.els S j.source.Program.Funcs,.els U j.source.Vars,.els W j.source.Stmts,.els X j.params,.els Y j.vars,.els a0 j.scope,.l c e b.Args]∧Ld.go av=Y3) (fun J3 ay=>?_) ?_
 ·unfold F_checker_expression_J0 at a3
  refine wBk (q (g (s (xEqlD r r) (s (xAsB r) (n ?_)))))
  rcases iv a3 with ⟨h4,a3⟩|⟨h4,a3⟩
  ·refine wIfT (bt h4) (g (s (xi r) (n ?_)))
   exact ay _ _ ⟨1,⟨r,r,r,r,y⟩,a,sm a3⟩
  refine wIfF (bf h4) (q (g (s (xEqlD r r) (s (xAsB r) (n ?_)))))
  rcases iv a3 with ⟨h5,a3⟩|⟨h5,a3⟩
  ·refine wIfT (bt h5) (g (s (xi r) (n ?_)))
   exact ay _ _ ⟨2,⟨r,r,r,r,y⟩,a,sm a3⟩
  refine wIfF (bf h5) (q (g (s (xEqlD r r) (s (xAsB r) (n ?_)))))
  rcases iv a3 with ⟨h6,a3⟩|⟨h6,a3⟩
  ·refine wIfT (bt h6) (g (s (xi r) (n ?_)))
   exact ay _ _ ⟨3,⟨r,r,r,r,y⟩,a,sm a3⟩
  refine wIfF (bf h6) (wk ?_)
  exact ay _ _ ⟨0,⟨r,r,r,r,y⟩,a,sm a3⟩
 clear a
 rintro f w ⟨av,hf,a,aV⟩
 obtain ⟨bF,rfl⟩:=has_updL _ _ hf
 clear hf
 subst aV
 replace hM:=gi hM
 refine q ?_
 obtain ⟨Y7,t,hM⟩:=bs hM
 refine wJd (fun f w=>∃ (u:Int),Has f [(0,Pt ag),(3,Pt b1),(4,Pt b2)]∧Bx w0 w bE G [.box b2 138 #[V 0,V 0,V 0,T be,T be,sn],.box b1 138 #[V b.Op,V b.Number,V u,T b.Name,T b.Field,Z c b.Args e],.box ag 107 #[.map (some v),.map (some x),Z z j.source.Program.Records A,Z B j.source.Program.Funcs C,Z D j.source.Vars E,Z F j.source.Stmts H,Z I j.params J,Z K j.vars L,Z M j.scope N,V j.current,V j.line],.map ekT evI v j.records,.map ekT evI x j.funcs,O a8 z A 127 Gr Q,O a9 B C 82 Gn S,O aa D E 60 (List Gv) U,O ab F H 65 Gi W,O ac I J 3 Int X,O ae K L 59 Gv Y,O af M N 3 Int a0] [.els Q j.source.Program.Records,.els S j.source.Program.Funcs,.els U j.source.Vars,.els W j.source.Stmts,.els X j.params,.els Y j.vars,.els a0 j.scope,.l c e b.Args]∧Ld.go u=Y7) (fun J7 aJ=>?_) ?_
 ·unfold F_checker_expression_J1 at t
  refine q (g (s (mi r) (s (xNeqD r r) (n ?_))))
  rcases iv t with ⟨h8,t⟩|⟨h8,t⟩
  ·refine wIfT (bt h8) (q (g (s (mp r) (s (f138_3 r) (s (l9 r (a.bk 1 r) r) ?_)))))
   obtain ⟨⟨aw,b9⟩,h9,t⟩:=bs t
   replace t:=pi t
   have hc:=(sp_checker_find fu) (a.pr [2,3,4,5,6,7,8,9,10,11] [0,1] [0,1,2,3,4,5,6] r) (a.le aj) (a.le ak) (a.le al) (a.le am) (a.le an) (a.le ao) (a.le ap) h9
   refine sc (ec cal140 r) hc ?_
   rintro _ w9 ⟨rfl,hK⟩
   replace a:=a.cl [2,3,4,5,6,7,8,9,10,11] [0,1] r hK r
   try dsimp only [pick,nth,ca,na] at a
   refine s xMove (s (xExtract r r) (s (xExtract r r) (s (xi r) (s (xAsB r) (n (q (q (g (s (xMvB r) (s (xNot r) (n ?_)))))))))))
   rcases iv t with ⟨ax,t⟩|⟨ax,t⟩
   ·refine wIfT (cb ax) (q (g (s (xLoadS [V b.Op,V b.Number,V b.Var,T b.Name,T b.Field,Z c b.Args e] u138_ r ti138 r r (Cells.part (a.bk 11 r).cells (o2:=0) r)) (sTs (tb a 10 [V b.Op,V b.Number,V b.Var,T b.Name,T b.Field,Z c b.Args e] r ti138 r r r r r (show _=#[V b.Op,V b.Number,V b.Var,T b.Name,T b.Field,Z c b.Args e] from r)) ?_))))
    intro bg a
    try dsimp only [List.set] at a
    refine s (xi r) (n (wRt ?_))
    obtain rfl:=sm t
    replace hM:=oi hM
    obtain rfl:=sm hM
    refine resV2 r (rdA r u138_ r ti138 r (a.bk 10 r)) (rdT r) ?_
    exact pok (pok (⟨c,e,r,(a.ad [0,1,2,3,4,5,6,7,8,9] [14,0,1,2,3,4,5,6])⟩))
   replace ax:=nt ax
   refine wIfF (cb ax) (wk (q (q (g (s (mp r) (s (xn r) (s (f107_7 r) (s (l60 r (a.bk 0 r) r) (s (mi r) ?_)))))))))
   obtain ⟨ah,aq,t⟩:=bs t
   obtain ⟨bh,aL,aq⟩:=ix_inv aq
   refine s (xIdR u60_ ti59 r r aL (a.vw 8 5 r r) aq) (s (f59_1 r) (s (xLoad u3_ r r ((elF (ds:=[T ah.Name,V ah.Kind,V ah.Record,V ah.Words,.bool ah.Param,V ah.From,V ah.To]) (a.vw 8 5 r r) aq (fun _ h=>h)) 1 _ r)) (s (mi r) (s (xNeqD r r) (n ?_)))))
   rcases iv t with ⟨aA,t⟩|⟨aA,t⟩
   ·refine wIfT (bt aA) (q (g (s (xLoadS [V b.Op,V b.Number,V b.Var,T b.Name,T b.Field,Z c b.Args e] u138_ r ti138 r r (Cells.part (a.bk 11 r).cells (o2:=0) r)) (sTs (tb a 10 [V b.Op,V b.Number,V b.Var,T b.Name,T b.Field,Z c b.Args e] r ti138 r r r r r (show _=#[V b.Op,V b.Number,V b.Var,T b.Name,T b.Field,Z c b.Args e] from r)) ?_))))
    intro bi a
    try dsimp only [List.set] at a
    refine s (xi r) (n (wRt ?_))
    obtain rfl:=sm t
    replace hM:=oi hM
    obtain rfl:=sm hM
    refine resV2 r (rdA r u138_ r ti138 r (a.bk 10 r)) (rdT r) ?_
    exact pok (pok (⟨c,e,r,(a.ad [0,1,2,3,4,5,6,7,8,9] [14,0,1,2,3,4,5,6])⟩))
   refine wIfF (bf aA) (wk (g (s (mi r) (s (f138_2 r) (sTs (tb a 11 [V aw] r ti3 r r r r r (show _=#[V b.Op,V b.Number,V aw,T b.Name,T b.Field,Z c b.Args e] from r)) ?_)))))
   intro bj a
   try dsimp only [List.set] at a
   refine n ?_
   exact aJ _ _ ⟨aw,⟨r,r,r,y⟩,(a.ad [10,11,0,1,2,3,4,5,6,7,8,9] [0,1,2,3,4,5,6,14]),sm t⟩
  refine wIfF (bf h8) (wk ?_)
  exact aJ _ _ ⟨b.Var,⟨r,r,r,y⟩,a,sm t⟩
 clear a
 rintro f w ⟨u,hf,a,aY⟩
 obtain ⟨bF,rfl⟩:=has_updL _ _ hf
 clear hf
 subst aY
 replace hM:=gi hM
 refine q ?_
 obtain ⟨aZ,m,hM⟩:=bs hM
 refine wJd (fun f w=>∃ (a1:Int),Has f [(0,Pt ag),(3,Pt b1),(4,Pt b2)]∧Bx w0 w bE G [.box b2 138 #[V 0,V 0,V 0,T be,T be,sn],.box b1 138 #[V b.Op,V a1,V u,T b.Name,T b.Field,Z c b.Args e],.box ag 107 #[.map (some v),.map (some x),Z z j.source.Program.Records A,Z B j.source.Program.Funcs C,Z D j.source.Vars E,Z F j.source.Stmts H,Z I j.params J,Z K j.vars L,Z M j.scope N,V j.current,V j.line],.map ekT evI v j.records,.map ekT evI x j.funcs,O a8 z A 127 Gr Q,O a9 B C 82 Gn S,O aa D E 60 (List Gv) U,O ab F H 65 Gi W,O ac I J 3 Int X,O ae K L 59 Gv Y,O af M N 3 Int a0] [.els Q j.source.Program.Records,.els S j.source.Program.Funcs,.els U j.source.Vars,.els W j.source.Stmts,.els X j.params,.els Y j.vars,.els a0 j.scope,.l c e b.Args]∧Ld.go a1=aZ) (fun bl az=>?_) ?_
 ·unfold F_checker_expression_J2 at m
  refine q (g (s (f138_0 r) (s (l3 r (a.bk 1 r) r) (s (xEqlD r r) (n ?_)))))
  rcases iv m with ⟨aB,m⟩|⟨aB,m⟩
  ·refine wIfT (bt aB) (q ?_)
   obtain ⟨ai,ar,m⟩:=bs m
   obtain ⟨bm,aM,ar⟩:=ix_inv ar
   obtain ⟨b0,au,m⟩:=bs m
   obtain ⟨bn,aN,au⟩:=ix_inv au
   obtain ⟨ba,aO,aP⟩:=(a.de 0 rfl).get au
   obtain ⟨aC,aD,rfl,aE⟩:=GRecord.out aP
   replace a:=a.dadd (d:=.l aC aD b0.Fields) aE
   refine wDr a [2,5,10] [0,1,6] [1,2,5,10] [0,1,6] [22] (by kernel_rfl) ?_
   replace a:=a.drew
   have hs:=(a.ad [2,5,10] [0,1,6])
   have hu:=(a.ad [1,2,5,10] [0,1,6])
   refine pL 0 r (mp r) hs hu (pL 1 r (xn r) hs hu (pL 2 r (f107_2 r) hs hu (pL 3 r (f30_0 r) hs hu (pL 4 r (f26_0 r) hs hu (tU 5 r (fun _ hS=>l23 r (hS.bk 0 r) r) (sl_ hs hu) (pL 6 r (mp r) hs hu (pL 7 r (xn r) hs hu (pL 8 r (f107_7 r) hs hu (tU 9 r (fun _ hS=>l60 r (hS.bk 0 r) r) (sl_ hs hu) (pL 10 r (f138_2 r) hs hu (tS 1 11 r (fun _ hS=>l3 r (hS.bk 0 r) r) (sl_ hs hu) (pL 12 r (xIdR u60_ ti59 r r aM (a.vw 10 6 r r) ar) hs hu (pL 13 r (f59_2 r) hs hu ?_)))))))))))))
   refine tU 14 r (fun _ hS=>xLoad u3_ r r ((elF (ds:=[T ai.Name,V ai.Kind,V ai.Record,V ai.Words,.bool ai.Param,V ai.From,V ai.To]) (hS.vw 2 2 r r) ar (fun _ h=>h)) 2 _ r)) (sl_ hs hu) (pL 15 r (xIdR u23_ ti127 r r aN (a.vw 5 1 r r) au) hs hu (pL 16 r (f127_1 r) hs hu (tU 17 r (fun _ hS=>xLoad u70_ r r ((hS.oc 1 1 r r aO) 1 _ r)) (sl_ hs hu) (pL 18 r (f138_4 r) hs hu (tS 1 19 r (fun _ hS=>l9 r (hS.bk 0 r) r) (sl_ hs hu) ?_)))))
   obtain ⟨a4,b3,m⟩:=bs m
   have hc:=(sp_slices_Index fu) (a.pr [] [0,1,2,3,4,5,6,7,8,9,10,11] [0] r)  b3
   refine hO 20 (oc r r (ec cal142 r) hc ?_)
   rintro _ bo ⟨rfl,hK⟩
   replace a:=a.cl [] [0,1,2,3,4,5,6,7,8,9,10,11] r hK r
   try dsimp only [pick,nth,ca,na] at a
   have hs:=(a.ad [2,5,10] [0,1,6])
   have hu:=(a.ad [1,2,5,10] [0,1,6])
   refine ⟨(sl_ hs hu),?_⟩
   refine pL 21 r (f138_1 r) hs hu ?_
   refine hO 22 (os r r (tb a 1 [V a4] r ti3 r r r r r (show _=#[V b.Op,V a4,V u,T b.Name,T b.Field,Z c b.Args e] from r)) ?_)
   intro bp a
   try dsimp only [List.set] at a
   have hs:=(a.ad [2,5,10] [0,1,6])
   refine ⟨(sy 22 hs),?_⟩
   refine hD (q (g (s (f138_1 r) (s (l3 r (a.bk 1 r) r) (s (xLss r r) (n ?_))))))
   rcases iv m with ⟨aF,m⟩|⟨aF,m⟩
   ·refine wIfT (bt aF) (q (g (s (xLoadS [V b.Op,V a4,V u,T b.Name,T b.Field,Z c b.Args e] u138_ r ti138 r r (Cells.part (a.bk 1 r).cells (o2:=0) r)) (sTs (tb a 0 [V b.Op,V a4,V u,T b.Name,T b.Field,Z c b.Args e] r ti138 r r r r r (show _=#[V b.Op,V a4,V u,T b.Name,T b.Field,Z c b.Args e] from r)) ?_))))
    intro bq a
    try dsimp only [List.set] at a
    refine s (xi r) (n (wRt ?_))
    obtain rfl:=sm m
    replace hM:=oi hM
    obtain rfl:=sm hM
    refine resV2 r (rdA r u138_ r ti138 r (a.bk 0 r)) (rdT r) ?_
    exact pok (pok (⟨c,e,r,(a.ad [2,3,4,5,6,7,8,9,10,11] [8,1,2,3,4,5,6,7])⟩))
   refine wIfF (bf aF) (wk ?_)
   exact az _ _ ⟨a4,⟨r,r,r,y⟩,(a.dp [1,2,3,4,5,6,7,8]),sm m⟩
  refine wIfF (bf aB) (wk ?_)
  exact az _ _ ⟨b.Number,⟨r,r,r,y⟩,a,sm m⟩
 clear a
 rintro f w ⟨a1,hf,a,aQ⟩
 obtain ⟨bF,rfl⟩:=has_updL _ _ hf
 clear hf
 subst aQ
 replace hM:=gi hM
 refine q (g (s (xi r) (n (q (g (s (mp r) (s (f138_5 r) (s (l109 r (a.bk 1 r) r) ?_))))))))
 obtain ⟨⟨a7,b4,b5⟩,b6,hM⟩:=bs hM
 replace hM:=pi hM
 replace hM:=pi hM
 have hc:=H_checker_expressions (a.pr [2,3,4,5,6,7,8,9,10,11] [0,1] [0,1,2,3,4,5,6,7] r) (a.le aj) (a.le ak) (a.le al) (a.le am) (a.le an) (a.le ao) (a.le ap) b6
 refine sc (ec cal138 r) hc ?_
 rintro _ br ⟨o,p,aI,rfl,hK⟩
 have b7:=a.chg.size
 replace a:=a.cl [2,3,4,5,6,7,8,9,10,11] [0,1] r hK r
 try dsimp only [pick,nth,ca,na] at a
 replace a:=a.reb 0 w0.heap.size r b7
 try dsimp only [List.set] at a
 refine s xMove (s (xExtract r r) (s (xExtract r r) (s (f138_5 r) (sTs (tb a 12 [Z o a7 p] r ti109 r r r r r (show _=#[V b.Op,V a1,V u,T b.Name,T b.Field,Z o a7 p] from r)) ?_))))
 intro bu a
 try dsimp only [List.set] at a
 refine s (xi r) (n (q (g (s (xLoadS [V b.Op,V a1,V u,T b.Name,T b.Field,Z o a7 p] u138_ r ti138 r r (Cells.part (a.bk 12 r).cells (o2:=0) r)) (s (mi r) (sTs (tb a 11 [V b.Op,V a1,V u,T b.Name,T b.Field,Z o a7 p] r ti138 r r r r r (show _=#[V b.Op,V a1,V u,T b.Name,T b.Field,Z o a7 p] from r)) ?_))))))
 intro bv a
 try dsimp only [List.set] at a
 refine s (xi r) (n (wRt ?_))
 replace a:=a.frz 0 0 r r
 try dsimp only [List.eraseIdx] at a
 obtain rfl:=sm hM
 refine resV2 r (rdA r u138_ r ti138 r (a.bk 10 r)) (rdT r) ?_
 exact pok (pok (⟨o,p,r,(a.ad [0,1,2,3,4,5,6,7,8,9] [0,1,2,3,4,5,6,7])⟩))
theorem sps_checker_expressions (fu:Nat):Ct_checker_expressions (m_checker_expressions fu)∧Ct_checker_expression (m_checker_expression fu):=by
 induction fu with
 | zero=>exact ⟨by intro a b;intros;exact nn (by assumption),by intro a b;intros;exact nn (by assumption)⟩
 | succ fu ih=>exact ⟨wk_checker_expressions fu (m_checker_expressions fu) (m_checker_expression fu) ih.1 ih.2,wk_checker_expression fu (m_checker_expressions fu) (m_checker_expression fu) ih.1 ih.2⟩
theorem sp_checker_expressions (fu:Nat):Ct_checker_expressions (m_checker_expressions fu):=(sps_checker_expressions fu).1
def Ct_checker_call (m:Gc→Gs→Option (Int × Gc × Gs)):Prop:=∀ {w0:World} {ae:Nat→Prop} {d:Gc} {c:Gs} {aa:Nat} {e:Nat} {f:Nat} {h:Option Addr} {i:Nat} {E:List (List Value)} {Q:Nat} {j:Option Addr} {k:Nat} {F:List (List Value)} {S:Nat} {o:Option Addr} {p:Nat} {G:List (List Value)} {U:Nat} {t:Option Addr} {u:Nat} {H:List (List Value)} {W:Nat} {x:Option Addr} {z:Nat} {I:List (List Value)} {X:Nat} {A:Option Addr} {B:Nat} {J:List (List Value)} {Y:Nat} {C:Option Addr} {D:Nat} {K:List (List Value)} {a0:Nat} {ab:Nat} {a1:Option Addr} {a2:Nat} {a3:Option Addr} {a4:Nat} {L:Option Addr} {M:Nat} {N:Option Addr} {P:Nat} {R:Int × Gc × Gs},Pre w0 ae [.box aa 107 #[.map (some e),.map (some f),Z h d.source.Program.Records i,Z j d.source.Program.Funcs k,Z o d.source.Vars p,Z t d.source.Stmts u,Z x d.params z,Z A d.vars B,Z C d.scope D,V d.current,V d.line],.map ekT evI e d.records,.map ekT evI f d.funcs,O Q h i 127 Gr E,O S j k 82 Gn F,O U o p 60 (List Gv) G,O W t u 65 Gi H,O X x z 3 Int I,O Y A B 59 Gv J,O a0 C D 3 Int K,.box ab 111 #[V c.Kind,V c.Line,V c.Id,T c.Name,T c.Type_,V c.Len,V c.Var,Z a1 c.Target a2,T c.Func,V c.Callee,Z a3 c.Args a4,Z L c.Body M,Z N c.Else P]] [.els E d.source.Program.Records,.els F d.source.Program.Funcs,.els G d.source.Vars,.els H d.source.Stmts,.els I d.params,.els J d.vars,.els K d.scope,.l a1 a2 c.Target,.l a3 a4 c.Args,.l L M c.Body,.l N P c.Else]→Q≤w0.heap.size→S≤w0.heap.size→U≤w0.heap.size→W≤w0.heap.size→X≤w0.heap.size→Y≤w0.heap.size→a0≤w0.heap.size→m d c=some R→
 Calls Try.prog 130 #[Pt aa,Pt ab] w0 (Ret fun v w=>pel R fun r0 R=>pel R fun a b=>∃ (a5:OA)(a6:Nat)(a7:OA)(a8:Nat),v=V r0∧Bx w0 w ae (Gof [.box aa 107 #[.map (some e),.map (some f),Z h d.source.Program.Records i,Z j d.source.Program.Funcs k,Z o d.source.Vars p,Z t d.source.Stmts u,Z x d.params z,Z A d.vars B,Z C d.scope D,V d.current,V d.line],.map ekT evI e d.records,.map ekT evI f d.funcs,O Q h i 127 Gr E,O S j k 82 Gn F,O U o p 60 (List Gv) G,O W t u 65 Gi H,O X x z 3 Int I,O Y A B 59 Gv J,O a0 C D 3 Int K,.box ab 111 #[V c.Kind,V c.Line,V c.Id,T c.Name,T c.Type_,V c.Len,V c.Var,Z a1 c.Target a2,T c.Func,V c.Callee,Z a3 c.Args a4,Z L c.Body M,Z N c.Else P]]) [.box aa 107 #[.map (some e),.map (some f),Z h a.source.Program.Records i,Z j a.source.Program.Funcs k,Z o a.source.Vars p,Z t a.source.Stmts u,Z x a.params z,Z A a.vars B,Z C a.scope D,V a.current,V a.line],.map ekT evI e a.records,.map ekT evI f a.funcs,O Q h i 127 Gr E,O S j k 82 Gn F,O U o p 60 (List Gv) G,O W t u 65 Gi H,O X x z 3 Int I,O Y A B 59 Gv J,O a0 C D 3 Int K,.box ab 111 #[V b.Kind,V b.Line,V b.Id,T b.Name,T b.Type_,V b.Len,V b.Var,Z a5 b.Target a6,T b.Func,V b.Callee,Z a7 b.Args a8,Z L b.Body M,Z N b.Else P]] [.els E a.source.Program.Records,.els F a.source.Program.Funcs,.els G a.source.Vars,.els H a.source.Stmts,.els I a.params,.els J a.vars,.els K a.scope,.l a5 a6 b.Target,.l a7 a8 b.Args,.l L M b.Body,.l N P b.Else])
def m_checker_call_L0 (fu:Nat)(a:Gc) (b:Gs):List Ge→Nat→Option (Ld (Unit) (Int × Gc × Gs))
 | [],_=>some (.go ())
 | c :: d,e=>
 if c.Op=2 then
  some (.out (10,a,b))
 else
  if c.Op=3 then
   some (.out (10,a,b))
  else
   m_checker_call_L0 fu a b d (e+1)
def m_checker_call (fu:Nat)(j:Gc) (a:Gs):Option (Int × Gc × Gs):=
 (m_checker_call_L0 fu j a a.Target 0).bind fun k=>k.el (fun _=>
 (m_checker_expressions fu j a.Target).bind fun k=>
 pel k fun c k=>pel k fun d b=>
 if d≠0 then
  some (d,b,(⟨a.Kind,a.Line,a.Id,a.Name,a.Type_,a.Len,a.Var,c,a.Func,a.Callee,a.Args,a.Body,a.Else⟩:Gs))
 else
  if (!((mget b.funcs a.Func).isSome))=true then
   some (8,b,(⟨a.Kind,a.Line,a.Id,a.Name,a.Type_,a.Len,a.Var,c,a.Func,a.Callee,a.Args,a.Body,a.Else⟩:Gs))
  else
   (ix b.params ((mget b.funcs a.Func).getD 0)).bind fun i=>
   if (a.Args.length:Int)≠i then
    some (11,b,(⟨a.Kind,a.Line,a.Id,a.Name,a.Type_,a.Len,a.Var,c,a.Func,a.Callee,a.Args,a.Body,a.Else⟩:Gs))
   else
    (m_checker_expressions fu b a.Args).bind fun k=>
    pel k fun e k=>pel k fun f h=>
    some (f,h,(⟨a.Kind,a.Line,a.Id,a.Name,a.Type_,a.Len,a.Var,c,a.Func,((mget b.funcs a.Func).getD 0),e,a.Body,a.Else⟩:Gs))
 ) (fun o=>some o)
theorem sp_checker_call (fu:Nat):Ct_checker_call (m_checker_call fu):=by
 intro w0 bj o a ax E F H I a3 ab J K a4 ac L M a5 ae N Q a6 af S U a7 ag W X a8 ah Y a0 a9 ai ay t u j m v x A B R hP aj ak al am an ao ap p
 unfold m_checker_call at p
 have b:=hP.bx
 clear hP
 generalize hG:Gof _=G at b ⊢
 refine cf Try.func130 r ?_
 refine wCut [(0,Pt ax),(1,Pt ay)] ⟨r,r,y⟩ fun bl=>?_
 refine q (g (s (xi r) (n (q (q (g (s (mp r) (s (xn r) (s (f111_7 r) (s (l109 r (b.bk 10 r) r) (s (xLnR u109_ r) (s (mi r) (n ?_)))))))))))))
 have b0:=(b.dl 7 r).bd
 obtain ⟨Y1,C,p⟩:=bs p
 refine wJd (fun f w=>Has f [(0,Pt ax),(1,Pt ay)]∧Bx w0 w bj G [.box ax 107 #[.map (some E),.map (some F),Z H o.source.Program.Records I,Z J o.source.Program.Funcs K,Z L o.source.Vars M,Z N o.source.Stmts Q,Z S o.params U,Z W o.vars X,Z Y o.scope a0,V o.current,V o.line],.map ekT evI E o.records,.map ekT evI F o.funcs,O ab H I 127 Gr a3,O ac J K 82 Gn a4,O ae L M 60 (List Gv) a5,O af N Q 65 Gi a6,O ag S U 3 Int a7,O ah W X 59 Gv a8,O ai Y a0 3 Int a9,.box ay 111 #[V a.Kind,V a.Line,V a.Id,T a.Name,T a.Type_,V a.Len,V a.Var,Z t a.Target u,T a.Func,V a.Callee,Z j a.Args m,Z v a.Body x,Z A a.Else B]] [.els a3 o.source.Program.Records,.els a4 o.source.Program.Funcs,.els a5 o.source.Vars,.els a6 o.source.Stmts,.els a7 o.params,.els a8 o.vars,.els a9 o.scope,.l t u a.Target,.l j m a.Args,.l v x a.Body,.l A B a.Else]∧Ld.go ()=Y1) (fun J1 aL=>?_) ?_
 ·refine wBk (wLoopGd (fun bm f w=>∃ (k1:Nat),bm=a.Target.length - k1∧k1≤a.Target.length∧Has f [(15,V (k1:Int)),(0,Pt ax),(1,Pt ay),(13,Z t a.Target u),(14,V (a.Target.length:Int))]∧Bx w0 w bj G [.box ax 107 #[.map (some E),.map (some F),Z H o.source.Program.Records I,Z J o.source.Program.Funcs K,Z L o.source.Vars M,Z N o.source.Stmts Q,Z S o.params U,Z W o.vars X,Z Y o.scope a0,V o.current,V o.line],.map ekT evI E o.records,.map ekT evI F o.funcs,O ab H I 127 Gr a3,O ac J K 82 Gn a4,O ae L M 60 (List Gv) a5,O af N Q 65 Gi a6,O ag S U 3 Int a7,O ah W X 59 Gv a8,O ai Y a0 3 Int a9,.box ay 111 #[V a.Kind,V a.Line,V a.Id,T a.Name,T a.Type_,V a.Len,V a.Var,Z t a.Target u,T a.Func,V a.Callee,Z j a.Args m,Z v a.Body x,Z A a.Else B]] [.els a3 o.source.Program.Records,.els a4 o.source.Program.Funcs,.els a5 o.source.Vars,.els a6 o.source.Stmts,.els a7 o.params,.els a8 o.vars,.els a9 o.scope,.l t u a.Target,.l j m a.Args,.l v x a.Body,.l A B a.Else]∧m_checker_call_L0 fu o a (a.Target.drop k1) k1=some Y1) (a.Target.length) ⟨0,r,Nat.zero_le _,⟨r,r,r,r,r,y⟩,b,C⟩ ?_)
  clear b C
  rintro bm f w ⟨k1,rfl,b1,hf,b,C⟩ K1 aM
  obtain ⟨bl,rfl⟩:=has_updL _ _ hf
  clear hf
  rcases Nat.lt_or_ge k1 a.Target.length with aG | aG
  ·obtain ⟨u1,aC⟩:=get_ex (l:=a.Target) aG
   rw [drop_id aC,m_checker_call_L0] at C
   obtain ⟨b2,aN,b⟩:=b.nm 7 rfl aC
   obtain ⟨aq,ar,rfl,aH⟩:=GExpr.out aN
   replace b:=b.dadd (d:=.l aq ar u1.Args) aH
   refine q (g (s (xLssT r r (by omega)) (n (q (wIfT r (wk (q (wBk (q (g (s (xIdR u109_ ti138 r r r (b.dl 9 r) aC) (s (xLoadS [V u1.Op,V u1.Number,V u1.Var,T u1.Name,T u1.Field,Z aq u1.Args ar] u138_ r ti138 r r (b.dc 1 r)) (sTo (aNewB b (mAlloc ti138)) ?_)))))))))))))
   rintro _ w3 ⟨b3,rfl,b⟩
   refine sTs (tb b 0 [V u1.Op,V u1.Number,V u1.Var,T u1.Name,T u1.Field,Z aq u1.Args ar] r ti138 r r r r r (show _=#[V u1.Op,V u1.Number,V u1.Var,T u1.Name,T u1.Field,Z aq u1.Args ar] from r)) ?_
   intro w4 b
   try dsimp only [List.set] at b
   refine n (q (g (s (f138_0 r) (s (l3 r (b.bk 0 r) r) (s (xEqlD r r) (s (xMvB r) ?_))))))
   rcases iv C with ⟨h5,C⟩|⟨h5,C⟩
   ·rw [decide_eq_true h5]
    refine sNo r (sNo r (sNo r (s (xPkTB r r) (n (wIfT r (q (g (s (xi r) (n (wRt ?_))))))))))
    obtain rfl:=sm C
    replace p:=oi p
    obtain rfl:=sm p
    refine resV1 r (rdT r) ?_
    exact pok (pok (⟨t,u,j,m,r,(b.ad [1,2,3,4,5,6,7,8,9,10,11] [2,3,4,5,6,7,8,9,10,11,12])⟩))
   rw [decide_eq_false h5]
   refine sGo r (s (f138_0 r) (sGo r (s (l3 r (b.bk 0 r) r) (sGo r (s (xEqlD r r) (s (xPkFB r r) (n ?_)))))))
   rcases iv C with ⟨h6,C⟩|⟨h6,C⟩
   ·refine wIfT (bt h6) (q (g (s (xi r) (n (wRt ?_)))))
    obtain rfl:=sm C
    replace p:=oi p
    obtain rfl:=sm p
    refine resV1 r (rdT r) ?_
    exact pok (pok (⟨t,u,j,m,r,(b.ad [1,2,3,4,5,6,7,8,9,10,11] [2,3,4,5,6,7,8,9,10,11,12])⟩))
   refine wIfF (bf h6) (wk (g (s (xAdd64 r r (by omega) (by omega)) (s (mi r) (n ?_)))))
   exact aM (a.Target.length - (k1+1)) _ _ (by omega) ⟨k1+1,r,by omega,⟨r,r,r,r,r,y⟩,(b.ad [1,2,3,4,5,6,7,8,9,10,11] [2,3,4,5,6,7,8,9,10,11,12]),C⟩
  obtain rfl:k1=a.Target.length:=by omega
  rw [drop_end,m_checker_call_L0] at C
  refine q (g (s (xLssF r r (by omega)) (n (q (wIfF r (wEx ?_))))))
  exact aL _ _ ⟨⟨r,r,y⟩,b,sm C⟩
 clear b
 rintro f w ⟨hf,b,aQ⟩
 obtain ⟨bl,rfl⟩:=has_updL _ _ hf
 clear hf
 subst aQ
 replace p:=gi p
 refine q (g (s (xi r) (n (q (q (g (s (mp r) (s (mp r) (s (mp r) (s (xn r) (s (f111_7 r) (s (l109 r (b.bk 10 r) r) ?_))))))))))))
 obtain ⟨⟨au,aZ,av⟩,h7,p⟩:=bs p
 replace p:=pi p
 replace p:=pi p
 have hc:=(sp_checker_expressions fu) (b.pr [0,1,2,3,4,5,6,7,8,9] [10] [0,1,2,3,4,5,6,7] r) (b.le aj) (b.le ak) (b.le al) (b.le am) (b.le an) (b.le ao) (b.le ap) h7
 refine sc (ec cal138 r) hc ?_
 rintro _ w7 ⟨c,e,aI,rfl,hK⟩
 have aD:=b.chg.size
 replace b:=b.cl [0,1,2,3,4,5,6,7,8,9] [10] r hK r
 try dsimp only [pick,nth,ca,na] at b
 replace b:=b.reb 0 w0.heap.size r aD
 try dsimp only [List.set] at b
 refine s xMove (s (xExtract r r) (s (xExtract r r) (s (xn r) (s (f111_7 r) (sTs (tb b 11 [Z c au e] r ti109 r r r r r (show _=#[V a.Kind,V a.Line,V a.Id,T a.Name,T a.Type_,V a.Len,V a.Var,Z c au e,T a.Func,V a.Callee,Z j a.Args m,Z v a.Body x,Z A a.Else B] from r)) ?_)))))
 intro w8 b
 try dsimp only [List.set] at b
 refine s (xi r) (n (q (g (s (mi r) (s (xNeqD r r) (n ?_))))))
 rcases iv p with ⟨h9,p⟩|⟨h9,p⟩
 ·refine wIfT (bt h9) (q (g (s (mi r) (s (xi r) (n (wRt ?_))))))
  replace b:=b.frz 0 0 r r
  try dsimp only [List.eraseIdx] at b
  obtain rfl:=sm p
  refine resV1 r (rdT r) ?_
  exact pok (pok (⟨c,e,j,m,r,(b.dp [1,2,3,4,5,6,7,0,16,17,18])⟩))
 refine wIfF (bf h9) (wk (q (wDr1 b [1,3,11] [] [] (by kernel_rfl) ?_)))
 replace b:=b.drew
 have D:=(b.ad [1,3,11] [])
 refine pF 0 r (mp r) D (pF 1 r (xn r) D (pF 2 r (f107_1 r) D (uF 3 r (fun hS=>l105 r (hS.bk 0 r) r) D (pF 4 r (mp r) D (pF 5 r (xn r) D (pF 6 r (f111_8 r) D (uF 7 r (fun hS=>l9 r (hS.bk 2 r) r) D (uF 8 r (fun hS=>xLook (ek:=ekT) (ev:=evI) (l:=av.funcs) (k:=a.Func) (z:=0) u105_ (fk_txt u9_) (zv_of ti3) (hS.mp 1 r) r r) D (pF 9 r (xMove) D (pF 10 r (xExtract r r) D (pF 11 r (xExtract r r) D (pF 12 r (xi r) D (pF 13 r (xAsB r) D ?_)))))))))))))
 refine hD (q (q (g (s (xMvB r) (s (xNot r) (n ?_))))))
 rcases iv p with ⟨az,p⟩|⟨az,p⟩
 ·refine wIfT (cb az) (q (g (s (xi r) (n (wRt ?_)))))
  replace b:=b.frz 0 0 r r
  try dsimp only [List.eraseIdx] at b
  obtain rfl:=sm p
  refine resV1 r (rdT r) ?_
  exact pok (pok (⟨c,e,j,m,r,(b.dp [1,2,3,4,5,6,7,0,16,17,18])⟩))
 replace az:=nt az
 refine wIfF (cb az) (wk (q (q (wDr1 b [1,8,11] [5] [] (by kernel_rfl) ?_))))
 replace b:=b.drew
 have D:=(b.ad [1,8,11] [5])
 refine pF 0 r (mp r) D (pF 1 r (xn r) D (pF 2 r (f111_10 r) D (uF 3 r (fun hS=>l109 r (hS.bk 2 r) r) D (pF 4 r (xLnR u109_ r) D (pF 5 r (mp r) D (pF 6 r (xn r) D (pF 7 r (f107_6 r) D (uF 8 r (fun hS=>l22 r (hS.bk 0 r) r) D (pF 9 r (mi r) D ?_)))))))))
 obtain ⟨aT,aw,p⟩:=bs p
 obtain ⟨b5,aJ,aw⟩:=ix_inv aw
 refine pF 10 r (xIdR u22_ ti3 r r aJ (b.vw 8 5 r r) aw) D (tU 11 r (fun _ hS=>xLoad u3_ r r ((elF (ds:=[V aT]) (hS.vw 1 0 r r) aw (fun _ h=>h)) 0 _ r)) (sF D) (pF 12 r (xNeqD r r) D (hD ?_)))
 rcases iv p with ⟨aE,p⟩|⟨aE,p⟩
 ·refine wIfT (bt aE) (q (g (s (xi r) (n (wRt ?_)))))
  replace b:=b.frz 0 0 r r
  try dsimp only [List.eraseIdx] at b
  obtain rfl:=sm p
  refine resV1 r (rdT r) ?_
  exact pok (pok (⟨c,e,j,m,r,(b.dp [1,2,3,4,5,6,7,0,16,17,18])⟩))
 refine wIfF (bf aE) (wk (q (g (s (mp r) (s (mi r) (s (xn r) (s (f111_9 r) (sTs (tb b 11 [V ((mget av.funcs a.Func).getD 0)] r ti3 r r r r r (show _=#[V a.Kind,V a.Line,V a.Id,T a.Name,T a.Type_,V a.Len,V a.Var,Z c au e,T a.Func,V ((mget av.funcs a.Func).getD 0),Z j a.Args m,Z v a.Body x,Z A a.Else B] from r)) ?_))))))))
 intro b6 b
 try dsimp only [List.set] at b
 refine n (q (g (s (mp r) (s (mp r) (s (mp r) (s (xn r) (s (f111_10 r) (s (l109 r (b.bk 11 r) r) ?_))))))))
 obtain ⟨⟨aA,aU,aV⟩,aW,p⟩:=bs p
 replace p:=pi p
 replace p:=pi p
 have hc:=(sp_checker_expressions fu) (b.pr [1,2,3,4,5,6,7,8,9,10] [0,11] [1,2,3,4,5,6,7,16] r) (b.le aj) (b.le ak) (b.le al) (b.le am) (b.le an) (b.le ao) (b.le ap) aW
 refine sc (ec cal138 r) hc ?_
 rintro _ b7 ⟨a1,a2,aF,rfl,hK⟩
 have aD:=b.chg.size
 replace b:=b.cl [1,2,3,4,5,6,7,8,9,10] [0,11] r hK r
 try dsimp only [pick,nth,ca,na] at b
 replace b:=b.reb 0 w0.heap.size r aD
 try dsimp only [List.set] at b
 refine s xMove (s (xExtract r r) (s (xExtract r r) (s (xn r) (s (f111_10 r) (sTs (tb b 12 [Z a1 aA a2] r ti109 r r r r r (show _=#[V a.Kind,V a.Line,V a.Id,T a.Name,T a.Type_,V a.Len,V a.Var,Z c au e,T a.Func,V ((mget av.funcs a.Func).getD 0),Z a1 aA a2,Z v a.Body x,Z A a.Else B] from r)) ?_)))))
 intro b8 b
 try dsimp only [List.set] at b
 refine s (xi r) (n (q (g (s (mi r) (s (xi r) (n (wRt ?_)))))))
 replace b:=b.frz 11 8 r r
 try dsimp only [List.eraseIdx] at b
 replace b:=b.frz 0 1 r r
 try dsimp only [List.eraseIdx] at b
 obtain rfl:=sm p
 refine resV1 r (rdT r) ?_
 exact pok (pok (⟨c,e,a1,a2,r,(b.dp [2,3,4,5,6,7,8,1,0,25,26])⟩))
abbrev T_checker_list:=GChecker→(List GStmt)→Option ((List GStmt) × Int × GChecker)
abbrev T_checker_statement:=GChecker→GStmt→Option (GStmt × Int × GChecker)
abbrev T_checker_parts:=GChecker→GStmt→Option (Int × GChecker × GStmt)
abbrev T_checker_block:=GChecker→(List GStmt)→Option ((List GStmt) × Int × GChecker)
def Ct_checker_list (m:Gc→(List Gs)→Option ((List Gs) × Int × Gc)):Prop:=∀ {w0:World} {af:Nat→Prop} {b:Gc} {x1:(List Gs)} {aa:Nat} {c:Nat} {d:Nat} {e:Option Addr} {f:Nat} {t:List (List Value)} {A:Nat} {h:Option Addr} {i:Nat} {u:List (List Value)} {B:Nat} {j:Option Addr} {k:Nat} {x:List (List Value)} {C:Nat} {D:Option Addr} {E:Nat} {N:List (List Value)} {F:Nat} {o:Option Addr} {p:Nat} {z:List (List Value)} {G:Nat} {H:Option Addr} {I:Nat} {P:List (List Value)} {J:Nat} {K:Option Addr} {L:Nat} {Q:List (List Value)} {M:Nat} {a5:Option Addr} {a6:Nat} {R:(List Gs) × Int × Gc},Pre w0 af [.box aa 107 #[.map (some c),.map (some d),Z e b.source.Program.Records f,Z h b.source.Program.Funcs i,Z j b.source.Vars k,Z D b.source.Stmts E,Z o b.params p,Z H b.vars I,Z K b.scope L,V b.current,V b.line],.map ekT evI c b.records,.map ekT evI d b.funcs,O A e f 127 Gr t,O B h i 82 Gn u,O C j k 60 (List Gv) x,O F D E 65 Gi N,O G o p 3 Int z,O J H I 59 Gv P,O M K L 3 Int Q] [.els t b.source.Program.Records,.els u b.source.Program.Funcs,.els x b.source.Vars,.els N b.source.Stmts,.els z b.params,.els P b.vars,.els Q b.scope,.l a5 a6 x1]→A≤w0.heap.size→B≤w0.heap.size→C≤w0.heap.size→F≤w0.heap.size→G≤w0.heap.size→J≤w0.heap.size→M≤w0.heap.size→m b x1=some R→
 Calls Try.prog 96 #[Pt aa,Z a5 x1 a6] w0 (Ret fun v w=>pel R fun r0 R=>pel R fun r1 a=>∃ (a7:OA)(a8:Nat)(a9:LV)(S:OA)(U:Nat)(W:LV)(X:OA)(Y:Nat)(a0:LV)(a1:OA)(a2:Nat)(a3:LV),v=.tuple #[Z a7 r0 a8,V r1]∧Bx w0 w af (Gof [.box aa 107 #[.map (some c),.map (some d),Z e b.source.Program.Records f,Z h b.source.Program.Funcs i,Z j b.source.Vars k,Z D b.source.Stmts E,Z o b.params p,Z H b.vars I,Z K b.scope L,V b.current,V b.line],.map ekT evI c b.records,.map ekT evI d b.funcs,O A e f 127 Gr t,O B h i 82 Gn u,O C j k 60 (List Gv) x,O F D E 65 Gi N,O G o p 3 Int z,O J H I 59 Gv P,O M K L 3 Int Q]) [O w0.heap.size a7 a8 111 Gs a9,.box aa 107 #[.map (some c),.map (some d),Z e a.source.Program.Records f,Z h a.source.Program.Funcs i,Z j a.source.Vars k,Z S a.source.Stmts U,Z o a.params p,Z X a.vars Y,Z a1 a.scope a2,V a.current,V a.line],.map ekT evI c a.records,.map ekT evI d a.funcs,O A e f 127 Gr t,O B h i 82 Gn u,O C j k 60 (List Gv) x,O F S U 65 Gi W,O G o p 3 Int z,O J X Y 59 Gv a0,O M a1 a2 3 Int a3] [.els a9 r0,.els t a.source.Program.Records,.els u a.source.Program.Funcs,.els x a.source.Vars,.els W a.source.Stmts,.els z a.params,.els a0 a.vars,.els a3 a.scope])
def Ct_checker_statement (m:Gc→Gs→Option (Gs × Int × Gc)):Prop:=∀ {w0:World} {aq:Nat→Prop} {b:Gc} {N:Gs} {ao:Nat} {c:Nat} {d:Nat} {e:Option Addr} {f:Nat} {t:List (List Value)} {A:Nat} {h:Option Addr} {i:Nat} {u:List (List Value)} {B:Nat} {j:Option Addr} {k:Nat} {x:List (List Value)} {C:Nat} {D:Option Addr} {E:Nat} {Q:List (List Value)} {F:Nat} {o:Option Addr} {p:Nat} {z:List (List Value)} {G:Nat} {H:Option Addr} {I:Nat} {S:List (List Value)} {J:Nat} {K:Option Addr} {L:Nat} {U:List (List Value)} {M:Nat} {a6:Option Addr} {a7:Nat} {a8:Option Addr} {a9:Nat} {aa:Option Addr} {ab:Nat} {ac:Option Addr} {ae:Nat} {R:Gs × Int × Gc},Pre w0 aq [.box ao 107 #[.map (some c),.map (some d),Z e b.source.Program.Records f,Z h b.source.Program.Funcs i,Z j b.source.Vars k,Z D b.source.Stmts E,Z o b.params p,Z H b.vars I,Z K b.scope L,V b.current,V b.line],.map ekT evI c b.records,.map ekT evI d b.funcs,O A e f 127 Gr t,O B h i 82 Gn u,O C j k 60 (List Gv) x,O F D E 65 Gi Q,O G o p 3 Int z,O J H I 59 Gv S,O M K L 3 Int U] [.els t b.source.Program.Records,.els u b.source.Program.Funcs,.els x b.source.Vars,.els Q b.source.Stmts,.els z b.params,.els S b.vars,.els U b.scope,.l a6 a7 N.Target,.l a8 a9 N.Args,.l aa ab N.Body,.l ac ae N.Else]→A≤w0.heap.size→B≤w0.heap.size→C≤w0.heap.size→F≤w0.heap.size→G≤w0.heap.size→J≤w0.heap.size→M≤w0.heap.size→m b N=some R→
 Calls Try.prog 115 #[Pt ao,.agg #[V N.Kind,V N.Line,V N.Id,T N.Name,T N.Type_,V N.Len,V N.Var,Z a6 N.Target a7,T N.Func,V N.Callee,Z a8 N.Args a9,Z aa N.Body ab,Z ac N.Else ae]] w0 (Ret fun v w=>pel R fun P R=>pel R fun r1 a=>∃ (af:OA)(ag:Nat)(ah:OA)(ai:Nat)(aj:OA)(ak:Nat)(al:OA)(am:Nat)(W:OA)(X:Nat)(Y:LV)(a0:OA)(a1:Nat)(a2:LV)(a3:OA)(a4:Nat)(a5:LV),v=.tuple #[.agg #[V P.Kind,V P.Line,V P.Id,T P.Name,T P.Type_,V P.Len,V P.Var,Z af P.Target ag,T P.Func,V P.Callee,Z ah P.Args ai,Z aj P.Body ak,Z al P.Else am],V r1]∧Bx w0 w aq (Gof [.box ao 107 #[.map (some c),.map (some d),Z e b.source.Program.Records f,Z h b.source.Program.Funcs i,Z j b.source.Vars k,Z D b.source.Stmts E,Z o b.params p,Z H b.vars I,Z K b.scope L,V b.current,V b.line],.map ekT evI c b.records,.map ekT evI d b.funcs,O A e f 127 Gr t,O B h i 82 Gn u,O C j k 60 (List Gv) x,O F D E 65 Gi Q,O G o p 3 Int z,O J H I 59 Gv S,O M K L 3 Int U]) [.box ao 107 #[.map (some c),.map (some d),Z e a.source.Program.Records f,Z h a.source.Program.Funcs i,Z j a.source.Vars k,Z W a.source.Stmts X,Z o a.params p,Z a0 a.vars a1,Z a3 a.scope a4,V a.current,V a.line],.map ekT evI c a.records,.map ekT evI d a.funcs,O A e f 127 Gr t,O B h i 82 Gn u,O C j k 60 (List Gv) x,O F W X 65 Gi Y,O G o p 3 Int z,O J a0 a1 59 Gv a2,O M a3 a4 3 Int a5] [.l af ag P.Target,.l ah ai P.Args,.l aj ak P.Body,.l al am P.Else,.els t a.source.Program.Records,.els u a.source.Program.Funcs,.els x a.source.Vars,.els Y a.source.Stmts,.els z a.params,.els a2 a.vars,.els a5 a.scope])
def Ct_checker_parts (m:Gc→Gs→Option (Int × Gc × Gs)):Prop:=∀ {w0:World} {ar:Nat→Prop} {d:Gc} {c:Gs} {ao:Nat} {e:Nat} {f:Nat} {h:Option Addr} {i:Nat} {x:List (List Value)} {C:Nat} {j:Option Addr} {k:Nat} {z:List (List Value)} {D:Nat} {o:Option Addr} {p:Nat} {A:List (List Value)} {E:Nat} {F:Option Addr} {G:Nat} {Q:List (List Value)} {H:Nat} {t:Option Addr} {u:Nat} {B:List (List Value)} {I:Nat} {J:Option Addr} {K:Nat} {S:List (List Value)} {L:Nat} {M:Option Addr} {N:Nat} {U:List (List Value)} {P:Nat} {ap:Nat} {W:Option Addr} {X:Nat} {Y:Option Addr} {a0:Nat} {a1:Option Addr} {a2:Nat} {a3:Option Addr} {a4:Nat} {R:Int × Gc × Gs},Pre w0 ar [.box ao 107 #[.map (some e),.map (some f),Z h d.source.Program.Records i,Z j d.source.Program.Funcs k,Z o d.source.Vars p,Z F d.source.Stmts G,Z t d.params u,Z J d.vars K,Z M d.scope N,V d.current,V d.line],.map ekT evI e d.records,.map ekT evI f d.funcs,O C h i 127 Gr x,O D j k 82 Gn z,O E o p 60 (List Gv) A,O H F G 65 Gi Q,O I t u 3 Int B,O L J K 59 Gv S,O P M N 3 Int U,.box ap 111 #[V c.Kind,V c.Line,V c.Id,T c.Name,T c.Type_,V c.Len,V c.Var,Z W c.Target X,T c.Func,V c.Callee,Z Y c.Args a0,Z a1 c.Body a2,Z a3 c.Else a4]] [.els x d.source.Program.Records,.els z d.source.Program.Funcs,.els A d.source.Vars,.els Q d.source.Stmts,.els B d.params,.els S d.vars,.els U d.scope,.l W X c.Target,.l Y a0 c.Args,.l a1 a2 c.Body,.l a3 a4 c.Else]→C≤w0.heap.size→D≤w0.heap.size→E≤w0.heap.size→H≤w0.heap.size→I≤w0.heap.size→L≤w0.heap.size→P≤w0.heap.size→m d c=some R→
 Calls Try.prog 131 #[Pt ao,Pt ap] w0 (Ret fun v w=>pel R fun r0 R=>pel R fun a b=>∃ (a5:OA)(a6:Nat)(a7:LV)(a8:OA)(a9:Nat)(aa:LV)(ab:OA)(ac:Nat)(ae:LV)(af:OA)(ag:Nat)(ah:OA)(ai:Nat)(aj:OA)(ak:Nat)(al:OA)(am:Nat),v=V r0∧Bx w0 w ar (Gof [.box ao 107 #[.map (some e),.map (some f),Z h d.source.Program.Records i,Z j d.source.Program.Funcs k,Z o d.source.Vars p,Z F d.source.Stmts G,Z t d.params u,Z J d.vars K,Z M d.scope N,V d.current,V d.line],.map ekT evI e d.records,.map ekT evI f d.funcs,O C h i 127 Gr x,O D j k 82 Gn z,O E o p 60 (List Gv) A,O H F G 65 Gi Q,O I t u 3 Int B,O L J K 59 Gv S,O P M N 3 Int U,.box ap 111 #[V c.Kind,V c.Line,V c.Id,T c.Name,T c.Type_,V c.Len,V c.Var,Z W c.Target X,T c.Func,V c.Callee,Z Y c.Args a0,Z a1 c.Body a2,Z a3 c.Else a4]]) [.box ao 107 #[.map (some e),.map (some f),Z h a.source.Program.Records i,Z j a.source.Program.Funcs k,Z o a.source.Vars p,Z a5 a.source.Stmts a6,Z t a.params u,Z a8 a.vars a9,Z ab a.scope ac,V a.current,V a.line],.map ekT evI e a.records,.map ekT evI f a.funcs,O C h i 127 Gr x,O D j k 82 Gn z,O E o p 60 (List Gv) A,O H a5 a6 65 Gi a7,O I t u 3 Int B,O L a8 a9 59 Gv aa,O P ab ac 3 Int ae,.box ap 111 #[V b.Kind,V b.Line,V b.Id,T b.Name,T b.Type_,V b.Len,V b.Var,Z af b.Target ag,T b.Func,V b.Callee,Z ah b.Args ai,Z aj b.Body ak,Z al b.Else am]] [.els x a.source.Program.Records,.els z a.source.Program.Funcs,.els A a.source.Vars,.els a7 a.source.Stmts,.els B a.params,.els aa a.vars,.els ae a.scope,.l af ag b.Target,.l ah ai b.Args,.l aj ak b.Body,.l al am b.Else])
def Ct_checker_block (m:Gc→(List Gs)→Option ((List Gs) × Int × Gc)):Prop:=∀ {w0:World} {af:Nat→Prop} {b:Gc} {x1:(List Gs)} {aa:Nat} {c:Nat} {d:Nat} {e:Option Addr} {f:Nat} {t:List (List Value)} {A:Nat} {h:Option Addr} {i:Nat} {u:List (List Value)} {B:Nat} {j:Option Addr} {k:Nat} {x:List (List Value)} {C:Nat} {D:Option Addr} {E:Nat} {N:List (List Value)} {F:Nat} {o:Option Addr} {p:Nat} {z:List (List Value)} {G:Nat} {H:Option Addr} {I:Nat} {P:List (List Value)} {J:Nat} {K:Option Addr} {L:Nat} {Q:List (List Value)} {M:Nat} {a5:Option Addr} {a6:Nat} {R:(List Gs) × Int × Gc},Pre w0 af [.box aa 107 #[.map (some c),.map (some d),Z e b.source.Program.Records f,Z h b.source.Program.Funcs i,Z j b.source.Vars k,Z D b.source.Stmts E,Z o b.params p,Z H b.vars I,Z K b.scope L,V b.current,V b.line],.map ekT evI c b.records,.map ekT evI d b.funcs,O A e f 127 Gr t,O B h i 82 Gn u,O C j k 60 (List Gv) x,O F D E 65 Gi N,O G o p 3 Int z,O J H I 59 Gv P,O M K L 3 Int Q] [.els t b.source.Program.Records,.els u b.source.Program.Funcs,.els x b.source.Vars,.els N b.source.Stmts,.els z b.params,.els P b.vars,.els Q b.scope,.l a5 a6 x1]→A≤w0.heap.size→B≤w0.heap.size→C≤w0.heap.size→F≤w0.heap.size→G≤w0.heap.size→J≤w0.heap.size→M≤w0.heap.size→m b x1=some R→
 Calls Try.prog 139 #[Pt aa,Z a5 x1 a6] w0 (Ret fun v w=>pel R fun r0 R=>pel R fun r1 a=>∃ (a7:OA)(a8:Nat)(a9:LV)(S:OA)(U:Nat)(W:LV)(X:OA)(Y:Nat)(a0:LV)(a1:OA)(a2:Nat)(a3:LV),v=.tuple #[Z a7 r0 a8,V r1]∧Bx w0 w af (Gof [.box aa 107 #[.map (some c),.map (some d),Z e b.source.Program.Records f,Z h b.source.Program.Funcs i,Z j b.source.Vars k,Z D b.source.Stmts E,Z o b.params p,Z H b.vars I,Z K b.scope L,V b.current,V b.line],.map ekT evI c b.records,.map ekT evI d b.funcs,O A e f 127 Gr t,O B h i 82 Gn u,O C j k 60 (List Gv) x,O F D E 65 Gi N,O G o p 3 Int z,O J H I 59 Gv P,O M K L 3 Int Q]) [O w0.heap.size a7 a8 111 Gs a9,.box aa 107 #[.map (some c),.map (some d),Z e a.source.Program.Records f,Z h a.source.Program.Funcs i,Z j a.source.Vars k,Z S a.source.Stmts U,Z o a.params p,Z X a.vars Y,Z a1 a.scope a2,V a.current,V a.line],.map ekT evI c a.records,.map ekT evI d a.funcs,O A e f 127 Gr t,O B h i 82 Gn u,O C j k 60 (List Gv) x,O F S U 65 Gi W,O G o p 3 Int z,O J X Y 59 Gv a0,O M a1 a2 3 Int a3] [.els a9 r0,.els t a.source.Program.Records,.els u a.source.Program.Funcs,.els x a.source.Vars,.els W a.source.Stmts,.els z a.params,.els a0 a.vars,.els a3 a.scope])
def F_checker_list_L0 (fu:Nat)(r_checker_list:T_checker_list) (r_checker_statement:T_checker_statement) (r_checker_parts:T_checker_parts) (r_checker_block:T_checker_block):List Gs→Nat→(List Gs)→Int→Int→(List (BA × Int))→(List (BA × Int))→(List Gr)→(List Gn)→(List (List Gv))→(List Gi)→(List Int)→(List Gv)→(List Int)→Option (Ld (List Gs × Int × Int × List (BA × Int) × List (BA × Int) × List Gr × List Gn × List (List Gv) × List Gi × List Int × List Gv × List Int) ((List Gs) × Int × Gc))
 | [],_,e,f,h,i,j,k,l,m,o,b,c,d=>some (.go (e,f,h,i,j,k,l,m,o,b,c,d))
 | v :: w,x,e,f,h,i,j,k,l,m,o,b,c,d=>
 (r_checker_statement (⟨i,j,(⟨(⟨k,l⟩:GProgram),m,o⟩:GSource),b,c,d,f,h⟩:Gc) v).bind fun z=>
 pel z fun t z=>pel z fun p a=>
 if p≠0 then
  some (.out (([]:List Gs),p,a))
 else
  (app e ([t]:List Gs)).bind fun u=>
  F_checker_list_L0 fu r_checker_list r_checker_statement r_checker_parts r_checker_block w (x+1) u a.current a.line a.records a.funcs a.source.Program.Records a.source.Program.Funcs a.source.Vars a.source.Stmts a.params a.vars a.scope
def F_checker_list (fu:Nat)(r_checker_list:T_checker_list) (r_checker_statement:T_checker_statement) (r_checker_parts:T_checker_parts) (r_checker_block:T_checker_block) (a:Gc) (t:(List Gs)):Option ((List Gs) × Int × Gc):=
 (F_checker_list_L0 fu r_checker_list r_checker_statement r_checker_parts r_checker_block t 0 ([]:List Gs) a.current a.line a.records a.funcs a.source.Program.Records a.source.Program.Funcs a.source.Vars a.source.Stmts a.params a.vars a.scope).bind fun u=>u.el (fun u=>
 pel u fun e u=>pel u fun f u=>pel u fun h u=>pel u fun i u=>pel u fun j u=>pel u fun k u=>pel u fun l u=>pel u fun m u=>pel u fun p u=>pel u fun b u=>pel u fun c d=>
 some (e,0,(⟨i,j,(⟨(⟨k,l⟩:GProgram),m,p⟩:GSource),b,c,d,f,h⟩:Gc))
 ) (fun o=>some o)
def F_checker_statement_J0 (fu:Nat)(r_checker_list:T_checker_list) (r_checker_statement:T_checker_statement) (r_checker_parts:T_checker_parts) (r_checker_block:T_checker_block) (a:Gs):Option (Ld (Bool) (Gs × Int × Gc)):=
 if a.Kind=3 then
  some (.go (decide (a.Kind=3)))
 else
  if a.Kind=6 then
   some (.go (decide (¬ a.Func=(⟨#[]⟩:BA))))
  else
   some (.go false)
def F_checker_statement (fu:Nat)(r_checker_list:T_checker_list) (r_checker_statement:T_checker_statement) (r_checker_parts:T_checker_parts) (r_checker_block:T_checker_block) (b:Gc) (a:Gs):Option (Gs × Int × Gc):=
 if 200≤(b.source.Stmts.length:Int) then
  some ((⟨a.Kind,a.Line,(b.source.Stmts.length:Int),a.Name,a.Type_,a.Len,a.Var,a.Target,a.Func,a.Callee,a.Args,a.Body,a.Else⟩:Gs),5,(⟨b.records,b.funcs,b.source,b.params,b.vars,b.scope,b.current,a.Line⟩:Gc))
 else
  (app b.source.Stmts ([(⟨b.current,a.Kind,a.Line⟩:Gi)]:List Gi)).bind fun p=>
  if a.Kind=1 then
   (m_checker_variable fu (⟨b.records,b.funcs,(⟨b.source.Program,b.source.Vars,p⟩:GSource),b.params,b.vars,b.scope,b.current,a.Line⟩:Gc) (⟨a.Kind,a.Line,(b.source.Stmts.length:Int),a.Name,a.Type_,a.Len,a.Var,([]:List Ge),a.Func,a.Callee,([]:List Ge),([]:List Gs),([]:List Gs)⟩:Gs)).bind fun t=>
   pel t fun c t=>pel t fun d e=>
   some ((⟨a.Kind,a.Line,(b.source.Stmts.length:Int),a.Name,a.Type_,a.Len,c,([]:List Ge),a.Func,a.Callee,([]:List Ge),([]:List Gs),([]:List Gs)⟩:Gs),d,e)
  else
   (F_checker_statement_J0 fu r_checker_list r_checker_statement r_checker_parts r_checker_block a).bind fun t=>t.el (fun f=>
   if f=true then
    (m_checker_call fu (⟨b.records,b.funcs,(⟨b.source.Program,b.source.Vars,p⟩:GSource),b.params,b.vars,b.scope,b.current,a.Line⟩:Gc) (⟨a.Kind,a.Line,(b.source.Stmts.length:Int),a.Name,a.Type_,a.Len,a.Var,a.Target,a.Func,a.Callee,a.Args,([]:List Gs),([]:List Gs)⟩:Gs)).bind fun t=>
    pel t fun h t=>pel t fun i j=>
    some (j,h,i)
   else
    (r_checker_parts (⟨b.records,b.funcs,(⟨b.source.Program,b.source.Vars,p⟩:GSource),b.params,b.vars,b.scope,b.current,a.Line⟩:Gc) (⟨a.Kind,a.Line,(b.source.Stmts.length:Int),a.Name,a.Type_,a.Len,a.Var,a.Target,a.Func,a.Callee,a.Args,a.Body,a.Else⟩:Gs)).bind fun t=>
    pel t fun k t=>pel t fun l m=>
    some (m,k,l)
   ) (fun o=>some o)
def F_checker_parts_J0 (fu:Nat)(r_checker_list:T_checker_list) (r_checker_statement:T_checker_statement) (r_checker_parts:T_checker_parts) (r_checker_block:T_checker_block) (c:Gs) (h:(List Ge)) (i:(List Ge)) (f:(List Gs)) (a:Gc):Option (Ld (Int × Int × List (BA × Int) × List (BA × Int) × List Gr × List Gn × List (List Gv) × List Gi × List Int × List Gv × List Int × Int) (Int × Gc × Gs)):=
 if c.Kind=8 then
  (m_checker_declare fu (⟨a.records,a.funcs,a.source,a.params,a.vars,a.scope,a.current,c.Line⟩:Gc) (⟨c.Name,1,(-1),1,false,0,0⟩:Gv)).bind fun j=>
  pel j fun d j=>pel j fun e b=>
  if e≠0 then
   some (.out (e,b,(⟨c.Kind,c.Line,c.Id,c.Name,c.Type_,c.Len,d,h,c.Func,c.Callee,i,f,c.Else⟩:Gs)))
  else
   some (.go (b.current,b.line,b.records,b.funcs,b.source.Program.Records,b.source.Program.Funcs,b.source.Vars,b.source.Stmts,b.params,b.vars,b.scope,d))
 else
  some (.go (a.current,a.line,a.records,a.funcs,a.source.Program.Records,a.source.Program.Funcs,a.source.Vars,a.source.Stmts,a.params,a.vars,a.scope,c.Var))
def F_checker_parts (fu:Nat)(r_checker_list:T_checker_list) (r_checker_statement:T_checker_statement) (r_checker_parts:T_checker_parts) (r_checker_block:T_checker_block) (H:Gc) (a:Gs):Option (Int × Gc × Gs):=
 (m_checker_expressions fu H a.Target).bind fun I=>
 pel I fun b I=>pel I fun k l=>
 if k≠0 then
  some (k,l,(⟨a.Kind,a.Line,a.Id,a.Name,a.Type_,a.Len,a.Var,b,a.Func,a.Callee,a.Args,a.Body,a.Else⟩:Gs))
 else
  (m_checker_expressions fu l a.Args).bind fun I=>
  pel I fun e I=>pel I fun m p=>
  if m≠0 then
   some (m,p,(⟨a.Kind,a.Line,a.Id,a.Name,a.Type_,a.Len,a.Var,b,a.Func,a.Callee,e,a.Body,a.Else⟩:Gs))
  else
   (r_checker_block p a.Body).bind fun I=>
   pel I fun c I=>pel I fun f d=>
   if f≠0 then
    some (f,d,(⟨a.Kind,a.Line,a.Id,a.Name,a.Type_,a.Len,a.Var,b,a.Func,a.Callee,e,c,a.Else⟩:Gs))
   else
    (F_checker_parts_J0 fu r_checker_list r_checker_statement r_checker_parts r_checker_block a b e c d).bind fun I=>I.el (fun I=>
    pel I fun t I=>pel I fun u I=>pel I fun v I=>pel I fun w I=>pel I fun x I=>pel I fun z I=>pel I fun A I=>pel I fun B I=>pel I fun C I=>pel I fun h I=>pel I fun i j=>
    (r_checker_block (⟨v,w,(⟨(⟨x,z⟩:GProgram),A,B⟩:GSource),C,h,i,t,u⟩:Gc) a.Else).bind fun I=>
    pel I fun D I=>pel I fun E F=>
    (m_checker_leave fu F (d.scope.length:Int)).bind fun G=>
    some (E,G,(⟨a.Kind,a.Line,a.Id,a.Name,a.Type_,a.Len,j,b,a.Func,a.Callee,e,c,D⟩:Gs))
    ) (fun o=>some o)
def F_checker_block (fu:Nat)(r_checker_list:T_checker_list) (r_checker_statement:T_checker_statement) (r_checker_parts:T_checker_parts) (r_checker_block:T_checker_block) (e:Gc) (f:(List Gs)):Option ((List Gs) × Int × Gc):=
 (r_checker_list e f).bind fun h=>
 pel h fun a h=>pel h fun b c=>
 (m_checker_leave fu c (e.scope.length:Int)).bind fun d=>
 some (a,b,d)
def tab_checker_list:Nat→(Gc→(List Gs)→Option ((List Gs) × Int × Gc)) × (Gc→Gs→Option (Gs × Int × Gc)) × (Gc→Gs→Option (Int × Gc × Gs)) × (Gc→(List Gs)→Option ((List Gs) × Int × Gc))
 | 0=>((fun _ _=>none),(fun _ _=>none),(fun _ _=>none),(fun _ _=>none))
 | fu+1=>(F_checker_list fu ((tab_checker_list fu).1) ((tab_checker_list fu).2.1) ((tab_checker_list fu).2.2.1) ((tab_checker_list fu).2.2.2),F_checker_statement fu ((tab_checker_list fu).1) ((tab_checker_list fu).2.1) ((tab_checker_list fu).2.2.1) ((tab_checker_list fu).2.2.2),F_checker_parts fu ((tab_checker_list fu).1) ((tab_checker_list fu).2.1) ((tab_checker_list fu).2.2.1) ((tab_checker_list fu).2.2.2),F_checker_block fu ((tab_checker_list fu).1) ((tab_checker_list fu).2.1) ((tab_checker_list fu).2.2.1) ((tab_checker_list fu).2.2.2))
def m_checker_list (fu:Nat):=(tab_checker_list fu).1
def m_checker_statement (fu:Nat):=(tab_checker_list fu).2.1
def m_checker_parts (fu:Nat):=(tab_checker_list fu).2.2.1
def m_checker_block (fu:Nat):=(tab_checker_list fu).2.2.2
theorem wk_checker_list (fu:Nat)(r_checker_list:T_checker_list) (r_checker_statement:T_checker_statement) (r_checker_parts:T_checker_parts) (r_checker_block:T_checker_block) (H_checker_list:Ct_checker_list r_checker_list) (H_checker_statement:Ct_checker_statement r_checker_statement) (H_checker_parts:Ct_checker_parts r_checker_parts) (H_checker_block:Ct_checker_block r_checker_block):Ct_checker_list (F_checker_list fu r_checker_list r_checker_statement r_checker_parts r_checker_block):=by
 intro w0 bQ x0 x1 aS Y a0 a1 a2 ae aE a3 a4 af aF a5 a6 ag aG aH aI aT aJ a7 a8 ah aK aL aM aU aN aO aP aV aQ au av R hP aX aY aZ b0 b1 b2 b3 X
 unfold F_checker_list at X
 have b:=hP.bx
 clear hP
 generalize hG:Gof _=G at b ⊢
 refine cf Try.func96 r ?_
 refine wCut [(0,Pt aS),(1,Z au x1 av)] ⟨r,r,y⟩ fun bR=>?_
 refine q (g (s (xAsS r) (s (xi r) (n (q (g (s (xAsS r) (n (q (q (g (s (xMvS r) (s (xLnR u80_ r) ?_)))))))))))))
 refine s (mi r) (n ?_)
 replace b:=b.owL Gs 111
 have bw:=(b.dl 8 r).bd
 obtain ⟨Y1,u,X⟩:=bs X
 refine wJd (fun f w=>∃ (N:List Gs) (v:OA)(x:Nat)(z:LV)(a9:Int)(aa:Int)(ab:List (BA × Int)) (ac:List (BA × Int)) (Q:List Gr) (S:List Gn) (U:List (List Gv)) (W:List Gi) (A:OA)(B:Nat)(C:LV)(o:List Int) (p:List Gv) (e:OA)(h:Nat)(i:LV)(t:List Int) (j:OA)(k:Nat)(m:LV),Has f [(6,Z v N x)]∧Bx w0 w bQ G [O w0.heap.size v x 111 Gs z,.box aS 107 #[.map (some Y),.map (some a0),Z a1 Q a2,Z a3 S a4,Z a5 U a6,Z A W B,Z a7 o a8,Z e p h,Z j t k,V a9,V aa],.map ekT evI Y ab,.map ekT evI a0 ac,O aE a1 a2 127 Gr ae,O aF a3 a4 82 Gn af,O aG a5 a6 60 (List Gv) ag,O aJ A B 65 Gi C,O aK a7 a8 3 Int ah,O aN e h 59 Gv i,O aQ j k 3 Int m] [.els z N,.els ae Q,.els af S,.els ag U,.els C W,.els ah o,.els i p,.els m t,.l au av x1]∧Ld.go (N,a9,aa,ab,ac,Q,S,U,W,o,p,t)=Y1) (fun J1 bh=>?_) ?_
 ·refine wBk (wLoopGd (fun bS f w=>∃ (k1:Nat)(N:List Gs) (v:OA)(x:Nat)(z:LV)(a9:Int)(aa:Int)(ab:List (BA × Int)) (ac:List (BA × Int)) (Q:List Gr) (S:List Gn) (U:List (List Gv)) (W:List Gi) (A:OA)(B:Nat)(C:LV)(o:List Int) (p:List Gv) (e:OA)(h:Nat)(i:LV)(t:List Int) (j:OA)(k:Nat)(m:LV),bS=x1.length - k1∧k1≤x1.length∧Has f [(13,V (k1:Int)),(0,Pt aS),(6,Z v N x),(11,Z au x1 av),(12,V (x1.length:Int))]∧Bx w0 w bQ G [O w0.heap.size v x 111 Gs z,.box aS 107 #[.map (some Y),.map (some a0),Z a1 Q a2,Z a3 S a4,Z a5 U a6,Z A W B,Z a7 o a8,Z e p h,Z j t k,V a9,V aa],.map ekT evI Y ab,.map ekT evI a0 ac,O aE a1 a2 127 Gr ae,O aF a3 a4 82 Gn af,O aG a5 a6 60 (List Gv) ag,O aJ A B 65 Gi C,O aK a7 a8 3 Int ah,O aN e h 59 Gv i,O aQ j k 3 Int m] [.els z N,.els ae Q,.els af S,.els ag U,.els C W,.els ah o,.els i p,.els m t,.l au av x1]∧F_checker_list_L0 fu r_checker_list r_checker_statement r_checker_parts r_checker_block (x1.drop k1) k1 N a9 aa ab ac Q S U W o p t=some Y1) (x1.length) ⟨0,([]:List Gs),none,0,[],x0.current,x0.line,x0.records,x0.funcs,x0.source.Program.Records,x0.source.Program.Funcs,x0.source.Vars,x0.source.Stmts,aH,aI,aT,x0.params,x0.vars,aL,aM,aU,x0.scope,aO,aP,aV,r,Nat.zero_le _,⟨r,r,r,r,r,y⟩,b,u⟩ ?_)
  clear b u
  rintro bS f w ⟨k1,N,v,x,z,a9,aa,ab,ac,Q,S,U,W,A,B,C,o,p,e,h,i,t,j,k,m,rfl,bz,hf,b,u⟩ K1 bi
  obtain ⟨bR,rfl⟩:=has_updL _ _ hf
  clear hf
  rcases Nat.lt_or_ge k1 x1.length with b6 | b6
  ·obtain ⟨c,b5⟩:=get_ex (l:=x1) b6
   rw [drop_id b5,F_checker_list_L0] at u
   obtain ⟨bA,bj,b⟩:=b.nm 8 rfl b5
   obtain ⟨aw,ax,ay,az,aA,aB,aC,aD,rfl,b8,b9,ba,bb⟩:=GStmt.out bj
   replace b:=b.dadd (d:=.l aw ax c.Target) b8
   replace b:=b.dadd (d:=.l ay az c.Args) b9
   replace b:=b.dadd (d:=.l aA aB c.Body) ba
   replace b:=b.dadd (d:=.l aC aD c.Else) bb
   refine q (g (s (xLssT r r (by omega)) (n (q (wIfT r (wk (q (wBk (q (g (s (xIdR u80_ ti111 r r r (b.dl 13 r) b5) (s (xLoadS [V c.Kind,V c.Line,V c.Id,T c.Name,T c.Type_,V c.Len,V c.Var,Z aw c.Target ax,T c.Func,V c.Callee,Z ay c.Args az,Z aA c.Body aB,Z aC c.Else aD] u111_ r ti111 r r (b.dc 4 r)) (sTo (aNewB b (mAlloc ti111)) ?_)))))))))))))
   rintro _ w4 ⟨b4,rfl,b⟩
   refine sTs (tb b 0 [V c.Kind,V c.Line,V c.Id,T c.Name,T c.Type_,V c.Len,V c.Var,Z aw c.Target ax,T c.Func,V c.Callee,Z ay c.Args az,Z aA c.Body aB,Z aC c.Else aD] r ti111 r r r r r (show _=#[V c.Kind,V c.Line,V c.Id,T c.Name,T c.Type_,V c.Len,V c.Var,Z aw c.Target ax,T c.Func,V c.Callee,Z ay c.Args az,Z aA c.Body aB,Z aC c.Else aD] from r)) ?_
   intro w5 b
   try dsimp only [List.set] at b
   refine n (q (g (s (mp r) (s (xLoadS [V c.Kind,V c.Line,V c.Id,T c.Name,T c.Type_,V c.Len,V c.Var,Z aw c.Target ax,T c.Func,V c.Callee,Z ay c.Args az,Z aA c.Body aB,Z aC c.Else aD] u111_ r ti111 r r (Cells.part (b.bk 0 r).cells (o2:=0) r)) ?_))))
   obtain ⟨⟨a,bv,D⟩,h6,u⟩:=bs u
   replace u:=pi u
   replace u:=pi u
   have hc:=H_checker_statement (b.pr [2,3,4,5,6,7,8,9,10,11] [0,1] [6,7,8,9,10,11,12,3,2,1,0] r) (b.le aX) (b.le aY) (b.le aZ) (b.le b0) (b.le b1) (b.le b2) (b.le b3) h6
   refine sc (ec cal115 r) hc ?_
   rintro _ w6 ⟨E,F,H,I,J,K,L,M,aj,ak,al,am,an,ao,ap,aq,ar,rfl,hK⟩
   replace b:=b.cl [2,3,4,5,6,7,8,9,10,11] [0,1] r hK r
   try dsimp only [pick,nth,ca,na] at b
   refine s xMove (s (xExtract r r) (s (xExtract r r) (sTo (aNewB b (mAlloc ti111)) ?_)))
   rintro _ w7 ⟨b7,rfl,b⟩
   refine sTs (tb b 0 [V a.Kind,V a.Line,V a.Id,T a.Name,T a.Type_,V a.Len,V a.Var,Z E a.Target F,T a.Func,V a.Callee,Z H a.Args I,Z J a.Body K,Z L a.Else M] r ti111 r r r r r (show _=#[V a.Kind,V a.Line,V a.Id,T a.Name,T a.Type_,V a.Len,V a.Var,Z E a.Target F,T a.Func,V a.Callee,Z H a.Args I,Z J a.Body K,Z L a.Else M] from r)) ?_
   intro w8 b
   try dsimp only [List.set] at b
   refine s (xi r) (n (q (q (g (s (mi r) (s (xNeqD r r) (n ?_)))))))
   rcases iv u with ⟨h9,u⟩|⟨h9,u⟩
   ·refine wIfT (bt h9) (q (g (s (mi r) (s (xAsS r) (s (xi r) (n (wRt ?_)))))))
    replace b:=b.owL Gs 111
    obtain rfl:=sm u
    replace X:=oi X
    obtain rfl:=sm X
    refine resV2 r (rdT r) (rdT r) ?_
    exact pok (pok (⟨none,0,[],aj,ak,al,am,an,ao,ap,aq,ar,r,(b.ad [0,2,3,4,5,6,7,8,9,10,11] [0,5,6,7,8,9,10,11])⟩))
   refine wIfF (bf h9) (wk (g (s (xMvS r) (s (xLoadS [V a.Kind,V a.Line,V a.Id,T a.Name,T a.Type_,V a.Len,V a.Var,Z E a.Target F,T a.Func,V a.Callee,Z H a.Args I,Z J a.Body K,Z L a.Else M] u111_ r ti111 r r (Cells.part (b.bk 0 r).cells (o2:=0) r)) (sTo (aRowB b [[V a.Kind,V a.Line,V a.Id,T a.Name,T a.Type_,V a.Len,V a.Var,Z E a.Target F,T a.Func,V a.Callee,Z H a.Args I,Z J a.Body K,Z L a.Else M]] ([a]:List Gs) (bs80_1_a r) r r (by decide) ⟨(GStmt.inn ⟨E,F,H,I,J,K,L,M,r,(b.dl 0 r),(b.dl 1 r),(b.dl 2 r),(b.dl 3 r)⟩),y⟩) ?_)))))
   rintro _ bE ⟨bF,rfl,b⟩
   obtain ⟨bm,bc,u⟩:=bs u
   refine sTo (aAppB b 13 17 r r u80_ ti111 r (by decide) (by decide) (Nat.le_refl _) r r (b.ysO 0 0 r r) bc) ?_
   rintro _ bG ⟨bn,bo,bp,rfl,b⟩
   refine s (xAsS r) (n (g (s (xAdd64 r r (by omega) (by omega)) (s (mi r) (n ?_)))))
   exact bi (x1.length - (k1+1)) _ _ (by omega) ⟨k1+1,bm,bn,bo,bp,D.current,D.line,D.records,D.funcs,D.source.Program.Records,D.source.Program.Funcs,D.source.Vars,D.source.Stmts,aj,ak,al,D.params,D.vars,am,an,ao,D.scope,ap,aq,ar,r,by omega,⟨r,r,r,r,r,y⟩,(b.ad [13,2,3,4,5,6,7,8,9,10,11] [17,5,6,7,8,9,10,11,25]),u⟩
  obtain rfl:k1=x1.length:=by omega
  rw [drop_end,F_checker_list_L0] at u
  refine q (g (s (xLssF r r (by omega)) (n (q (wIfF r (wEx ?_))))))
  exact bh _ _ ⟨N,v,x,z,a9,aa,ab,ac,Q,S,U,W,A,B,C,o,p,e,h,i,t,j,k,m,⟨r,y⟩,b,sm u⟩
 clear b
 rintro f w ⟨N,v,x,z,a9,aa,ab,ac,Q,S,U,W,A,B,C,o,p,e,h,i,t,j,k,m,hf,b,bq⟩
 obtain ⟨bR,rfl⟩:=has_updL _ _ hf
 clear hf
 subst bq
 replace X:=gi X
 replace X:=pi X
 replace X:=pi X
 replace X:=pi X
 replace X:=pi X
 replace X:=pi X
 replace X:=pi X
 replace X:=pi X
 replace X:=pi X
 replace X:=pi X
 replace X:=pi X
 replace X:=pi X
 refine q (g (s (xMvS r) (s (xAsS r) (s (xi r) (n (wRt ?_))))))
 obtain rfl:=sm X
 refine resV2 r (rdT r) (rdT r) ?_
 exact pok (pok (⟨v,x,z,A,B,C,e,h,i,j,k,m,r,(b.dp [0,1,2,3,4,5,6,7])⟩))
theorem wk_checker_statement (fu:Nat)(r_checker_list:T_checker_list) (r_checker_statement:T_checker_statement) (r_checker_parts:T_checker_parts) (r_checker_block:T_checker_block) (H_checker_list:Ct_checker_list r_checker_list) (H_checker_statement:Ct_checker_statement r_checker_statement) (H_checker_parts:Ct_checker_parts r_checker_parts) (H_checker_block:Ct_checker_block r_checker_block):Ct_checker_statement (F_checker_statement fu r_checker_list r_checker_statement r_checker_parts r_checker_block):=by
 intro w0 bR h a aT X Y a0 a1 an aJ a2 a3 ao aK a4 a5 ap aL af ag aM aN a6 a7 aq aO N Q aa aP S U ab aQ t u o p v x j m R hP ah ai aj a8 ak al am M
 unfold F_checker_statement at M
 have e:=hP.bx
 clear hP
 generalize hG:Gof _=G at e ⊢
 refine cf Try.func115 r ?_
 refine wCut [(0,Pt aT),(1,.agg #[V a.Kind,V a.Line,V a.Id,T a.Name,T a.Type_,V a.Len,V a.Var,Z t a.Target u,T a.Func,V a.Callee,Z o a.Args p,Z v a.Body x,Z j a.Else m])] ⟨r,r,y⟩ fun bS=>?_
 refine q (g (sTo (aNewB e (mBox r)) ?_))
 rintro _ w1 ⟨b1,rfl,e⟩
 refine sTo (aNewB e (mAlloc ti111)) ?_
 rintro _ w2 ⟨b2,rfl,e⟩
 refine s (xi r) (n (q (g (s (mp r) (s (f111_1 r) (s (l3 r (e.bk 1 r) r) (s (xn r) (s (f107_10 r) (sTs (tb e 2 [V a.Line] r ti3 r r r r r (show _=#[.map (some X),.map (some Y),Z a0 h.source.Program.Records a1,Z a2 h.source.Program.Funcs a3,Z a4 h.source.Vars a5,Z af h.source.Stmts ag,Z a6 h.params a7,Z N h.vars Q,Z S h.scope U,V h.current,V a.Line] from r)) ?_)))))))))
 intro w3 e
 try dsimp only [List.set] at e
 refine n (q (g (s (mp r) (s (xn r) (s (f107_2 r) (s (f30_3 r) (s (l28 r (e.bk 2 r) r) (s (xLnR u28_ r) (s (f111_2 r) (sTs (tb e 1 [V (h.source.Stmts.length:Int)] r ti3 r r r r r (show _=#[V a.Kind,V a.Line,V (h.source.Stmts.length:Int),T a.Name,T a.Type_,V a.Len,V a.Var,Z t a.Target u,T a.Func,V a.Callee,Z o a.Args p,Z v a.Body x,Z j a.Else m] from r)) ?_))))))))))
 intro w4 e
 try dsimp only [List.set] at e
 refine n (q (q (g (s (f111_2 r) (s (l3 r (e.bk 1 r) r) (s (xGeq r r) (n ?_)))))))
 rcases iv M with ⟨h5,M⟩|⟨h5,M⟩
 ·refine wIfT (bt h5) (q (g (s (xLoadS [V a.Kind,V a.Line,V (h.source.Stmts.length:Int),T a.Name,T a.Type_,V a.Len,V a.Var,Z t a.Target u,T a.Func,V a.Callee,Z o a.Args p,Z v a.Body x,Z j a.Else m] u111_ r ti111 r r (Cells.part (e.bk 1 r).cells (o2:=0) r)) (sTs (tb e 0 [V a.Kind,V a.Line,V (h.source.Stmts.length:Int),T a.Name,T a.Type_,V a.Len,V a.Var,Z t a.Target u,T a.Func,V a.Callee,Z o a.Args p,Z v a.Body x,Z j a.Else m] r ti111 r r r r r (show _=#[V a.Kind,V a.Line,V (h.source.Stmts.length:Int),T a.Name,T a.Type_,V a.Len,V a.Var,Z t a.Target u,T a.Func,V a.Callee,Z o a.Args p,Z v a.Body x,Z j a.Else m] from r)) ?_))))
  intro w6 e
  try dsimp only [List.set] at e
  refine s (xi r) (n (wRt ?_))
  obtain rfl:=sm M
  refine resV2 r (rdA r u111_ r ti111 r (e.bk 0 r)) (rdT r) ?_
  exact pok (pok (⟨t,u,o,p,v,x,j,m,af,ag,aM,N,Q,aa,S,U,ab,r,(e.ad [2,3,4,5,6,7,8,9,10,11] [7,8,9,10,0,1,2,3,4,5,6])⟩))
 refine wIfF (bf h5) (wk (q (wDr e [1] [] [1,2] [] [20] (by kernel_rfl) ?_)))
 replace e:=e.drew
 have hs:=(e.ad [1] [])
 have hu:=(e.ad [1,2] [])
 refine pL 0 r (mp r) hs hu (pL 1 r (mp r) hs hu (pL 2 r (xn r) hs hu (pL 3 r (f107_2 r) hs hu (pL 4 r (f30_3 r) hs hu (tS 1 5 r (fun _ hS=>l28 r (hS.bk 1 r) r) (sl_ hs hu) (pL 6 r (mp r) hs hu (pL 7 r (xn r) hs hu (pL 8 r (f107_9 r) hs hu (tS 1 9 r (fun _ hS=>l3 r (hS.bk 1 r) r) (sl_ hs hu) (pL 10 r (f111_0 r) hs hu (tU 11 r (fun _ hS=>l3 r (hS.bk 0 r) r) (sl_ hs hu) (pL 12 r (f111_1 r) hs hu (tU 13 r (fun _ hS=>l3 r (hS.bk 0 r) r) (sl_ hs hu) ?_)))))))))))))
 refine pL 14 r (bd65_0_1_2 r r r) hs hu ?_
 refine hO 15 (oo r r (aRowB e [[V h.current,V a.Kind,V a.Line]] ([(⟨h.current,a.Kind,a.Line⟩:Gi)]:List Gi) (bs28_1_a r) r r (by decide) ⟨r,y⟩) ?_)
 rintro _ w7 ⟨b7,rfl,e⟩
 have hs:=(e.ad [2] [])
 have hu:=(e.ad [2,3] [])
 refine ⟨(sl_ hs hu),?_⟩
 obtain ⟨r8,b8,M⟩:=bs M
 refine hO 16 (oo r r (aAppB e 9 4 r r u28_ ti65 r (by decide) (by decide) a8 r r (e.ysO 0 0 r r) b8) ?_)
 rintro _ w8 ⟨A8,C8,Q8,rfl,e⟩
 have hs:=(e.ad [2] [])
 have hu:=(e.ad [2,3] [])
 refine ⟨(sl_ hs hu),?_⟩
 refine pL 17 r (xn r) hs hu (pL 18 r (f107_2 r) hs hu (pL 19 r (f30_3 r) hs hu ?_))
 refine hO 20 (os r r (tb e 3 [Z A8 r8 C8] r ti28 r r r r r (show _=#[.map (some X),.map (some Y),Z a0 h.source.Program.Records a1,Z a2 h.source.Program.Funcs a3,Z a4 h.source.Vars a5,Z A8 r8 C8,Z a6 h.params a7,Z N h.vars Q,Z S h.scope U,V h.current,V a.Line] from r)) ?_)
 intro bq e
 try dsimp only [List.set] at e
 have hs:=(e.ad [2] [])
 refine ⟨(sy 20 hs),?_⟩
 refine hD (q (g (s (xi r) (n (q (wBk (q (g (s (f111_0 r) (s (l3 r (e.bk 2 r) r) (s (xEqlD r r) (s (xAsB r) (n ?_)))))))))))))
 rcases iv M with ⟨aU,M⟩|⟨aU,M⟩
 ·refine wIfT (bt aU) (q (g (s (f111_7 r) (sTs (tb e 2 [sn] r ti109 r r r r r (show _=#[V a.Kind,V a.Line,V (h.source.Stmts.length:Int),T a.Name,T a.Type_,V a.Len,V a.Var,sn,T a.Func,V a.Callee,Z o a.Args p,Z v a.Body x,Z j a.Else m] from r)) ?_))))
  intro br e
  try dsimp only [List.set] at e
  refine s (f111_10 r) (sTs (tb e 2 [sn] r ti109 r r r r r (show _=#[V a.Kind,V a.Line,V (h.source.Stmts.length:Int),T a.Name,T a.Type_,V a.Len,V a.Var,sn,T a.Func,V a.Callee,sn,Z v a.Body x,Z j a.Else m] from r)) ?_)
  intro bu e
  try dsimp only [List.set] at e
  refine s (f111_11 r) (sTs (tb e 2 [sn] r ti80 r r r r r (show _=#[V a.Kind,V a.Line,V (h.source.Stmts.length:Int),T a.Name,T a.Type_,V a.Len,V a.Var,sn,T a.Func,V a.Callee,sn,sn,Z j a.Else m] from r)) ?_)
  intro bv e
  try dsimp only [List.set] at e
  refine s (f111_12 r) (sTs (tb e 2 [sn] r ti80 r r r r r (show _=#[V a.Kind,V a.Line,V (h.source.Stmts.length:Int),T a.Name,T a.Type_,V a.Len,V a.Var,sn,T a.Func,V a.Callee,sn,sn,sn] from r)) ?_)
  intro bw e
  try dsimp only [List.set] at e
  refine n (g (s (mp r) (s (xLoadS [V a.Kind,V a.Line,V (h.source.Stmts.length:Int),T a.Name,T a.Type_,V a.Len,V a.Var,sn,T a.Func,V a.Callee,sn,sn,sn] u111_ r ti111 r r (Cells.part (e.bk 2 r).cells (o2:=0) r)) ?_)))
  replace e:=e.dadd (d:=.l none 0 ([]:List Ge)) ln_
  replace e:=e.dadd (d:=.l none 0 ([]:List Ge)) ln_
  replace e:=e.dadd (d:=.l none 0 ([]:List Gs)) ln_
  replace e:=e.dadd (d:=.l none 0 ([]:List Gs)) ln_
  obtain ⟨⟨ac,b9,ba⟩,bb,M⟩:=bs M
  replace M:=pi M
  replace M:=pi M
  have hc:=(sp_checker_variable fu) (e.pr [3,4,5,6,7,8,9,10,11,12] [0,1,2] [5,6,7,8,9,10,11,3,2,1,0] r) (e.le ah) (e.le ai) (e.le aj) (e.le a8) (e.le ak) (e.le al) (e.le am) bb
  refine sc (ec cal129 r) hc ?_
  rintro _ bz ⟨ar,au,av,aw,ax,ay,rfl,hK⟩
  replace e:=e.cl [3,4,5,6,7,8,9,10,11,12] [0,1,2] r hK r
  try dsimp only [pick,nth,ca,na] at e
  refine s xMove (s (xExtract r r) (s (xExtract r r) (s (f111_6 r) (sTs (tb e 12 [V ac] r ti3 r r r r r (show _=#[V a.Kind,V a.Line,V (h.source.Stmts.length:Int),T a.Name,T a.Type_,V a.Len,V ac,sn,T a.Func,V a.Callee,sn,sn,sn] from r)) ?_))))
  intro bA e
  try dsimp only [List.set] at e
  refine s (xi r) (n (q (g (s (xLoadS [V a.Kind,V a.Line,V (h.source.Stmts.length:Int),T a.Name,T a.Type_,V a.Len,V ac,sn,T a.Func,V a.Callee,sn,sn,sn] u111_ r ti111 r r (Cells.part (e.bk 12 r).cells (o2:=0) r)) (s (mi r) (sTs (tb e 11 [V a.Kind,V a.Line,V (h.source.Stmts.length:Int),T a.Name,T a.Type_,V a.Len,V ac,sn,T a.Func,V a.Callee,sn,sn,sn] r ti111 r r r r r (show _=#[V a.Kind,V a.Line,V (h.source.Stmts.length:Int),T a.Name,T a.Type_,V a.Len,V ac,sn,T a.Func,V a.Callee,sn,sn,sn] from r)) ?_))))))
  intro bB e
  try dsimp only [List.set] at e
  refine s (xi r) (n (wRt ?_))
  replace e:=e.dadd (d:=.l none 0 ([]:List Ge)) ln_
  replace e:=e.dadd (d:=.l none 0 ([]:List Ge)) ln_
  replace e:=e.dadd (d:=.l none 0 ([]:List Gs)) ln_
  replace e:=e.dadd (d:=.l none 0 ([]:List Gs)) ln_
  obtain rfl:=sm M
  refine resV2 r (rdA r u111_ r ti111 r (e.bk 11 r)) (rdT r) ?_
  exact pok (pok (⟨none,0,none,0,none,0,none,0,A8,C8,Q8,ar,au,av,aw,ax,ay,r,(e.ad [0,1,2,3,4,5,6,7,8,9] [3,2,1,0,4,5,6,7,8,9,10])⟩))
 refine wIfF (bf aU) (q ?_)
 obtain ⟨bc,W,M⟩:=bs M
 refine wJd (fun f w=>∃ (az:Bool),Has f [(0,Pt aT),(3,Pt b1),(4,Pt b2),(60,.bool az)]∧Bx w0 w bR G [.box b2 111 #[V 0,V 0,V 0,T be,T be,V 0,V 0,sn,T be,V 0,sn,sn,sn],.box b1 111 #[V a.Kind,V a.Line,V (h.source.Stmts.length:Int),T a.Name,T a.Type_,V a.Len,V a.Var,Z t a.Target u,T a.Func,V a.Callee,Z o a.Args p,Z v a.Body x,Z j a.Else m],.box aT 107 #[.map (some X),.map (some Y),Z a0 h.source.Program.Records a1,Z a2 h.source.Program.Funcs a3,Z a4 h.source.Vars a5,Z A8 r8 C8,Z a6 h.params a7,Z N h.vars Q,Z S h.scope U,V h.current,V a.Line],.map ekT evI X h.records,.map ekT evI Y h.funcs,O aJ a0 a1 127 Gr an,O aK a2 a3 82 Gn ao,O aL a4 a5 60 (List Gv) ap,O aN A8 C8 65 Gi Q8,O aO a6 a7 3 Int aq,O aP N Q 59 Gv aa,O aQ S U 3 Int ab] [.els an h.source.Program.Records,.els ao h.source.Program.Funcs,.els ap h.source.Vars,.els Q8 r8,.els aq h.params,.els aa h.vars,.els ab h.scope,.l t u a.Target,.l o p a.Args,.l v x a.Body,.l j m a.Else]∧Ld.go az=bc) (fun bC aR=>?_) ?_
 ·unfold F_checker_statement_J0 at W
  refine q (g (s (f111_0 r) (s (l3 r (e.bk 2 r) r) (s (xEqlD r r) (s (xAsB r) (n ?_))))))
  rcases iv W with ⟨aV,W⟩|⟨aV,W⟩
  ·refine wIfT (bt aV) (wk ?_)
   exact aR _ _ ⟨(decide (a.Kind=3)),⟨r,r,r,r,y⟩,(e.ad [1,2,3,4,5,6,7,8,9,10,11,12] [1,2,3,4,5,6,7,8,9,10,11]),sm W⟩
  refine wIfF (bf aV) (g (s (f111_0 r) (s (l3 r (e.bk 2 r) r) (s (xEqlD r r) (s (xMvB r) ?_)))))
  rcases iv W with ⟨aW,W⟩|⟨aW,W⟩
  ·rw [decide_eq_true aW]
   refine sGo r (s (f111_8 r) (sGo r (s (l9 r (e.bk 2 r) r) (sGo r (s (xNeqT' r r) (s (xPkTB r r) (s (xAsB r) (n ?_))))))))
   exact aR _ _ ⟨(decide (¬ a.Func=(⟨#[]⟩:BA))),⟨r,r,r,r,y⟩,(e.ad [1,2,3,4,5,6,7,8,9,10,11,12] [1,2,3,4,5,6,7,8,9,10,11]),sm W⟩
  rw [decide_eq_false aW]
  refine sNo r (sNo r (sNo r (s (xPkFB r r) (s (xAsB r) (n ?_)))))
  exact aR _ _ ⟨false,⟨r,r,r,r,y⟩,(e.ad [1,2,3,4,5,6,7,8,9,10,11,12] [1,2,3,4,5,6,7,8,9,10,11]),sm W⟩
 clear e
 rintro f w ⟨az,hf,e,b0⟩
 obtain ⟨bS,rfl⟩:=has_updL _ _ hf
 clear hf
 subst b0
 replace M:=gi M
 rcases iv M with ⟨aS,M⟩|⟨aS,M⟩
 ·refine wIfT (cb aS) (q (g (s (f111_11 r) (sTs (tb e 1 [sn] r ti80 r r r r r (show _=#[V a.Kind,V a.Line,V (h.source.Stmts.length:Int),T a.Name,T a.Type_,V a.Len,V a.Var,Z t a.Target u,T a.Func,V a.Callee,Z o a.Args p,sn,Z j a.Else m] from r)) ?_))))
  intro bD e
  try dsimp only [List.set] at e
  refine s (f111_12 r) (sTs (tb e 1 [sn] r ti80 r r r r r (show _=#[V a.Kind,V a.Line,V (h.source.Stmts.length:Int),T a.Name,T a.Type_,V a.Len,V a.Var,Z t a.Target u,T a.Func,V a.Callee,Z o a.Args p,sn,sn] from r)) ?_)
  intro bE e
  try dsimp only [List.set] at e
  refine n (g (s (mp r) ?_))
  replace e:=e.dadd (d:=.l none 0 ([]:List Gs)) ln_
  replace e:=e.dadd (d:=.l none 0 ([]:List Gs)) ln_
  obtain ⟨⟨bd,bg,b⟩,bh,M⟩:=bs M
  replace M:=pi M
  replace M:=pi M
  have hc:=(sp_checker_call fu) (e.pr [2,3,4,5,6,7,8,9,10,11,1] [0] [2,3,4,5,6,7,8,9,10,1,0] r) (e.le ah) (e.le ai) (e.le aj) (e.le a8) (e.le ak) (e.le al) (e.le am) bh
  refine sc (ec cal130 r) hc ?_
  rintro _ bF ⟨z,A,B,C,rfl,hK⟩
  replace e:=e.cl [2,3,4,5,6,7,8,9,10,11,1] [0] r hK r
  try dsimp only [pick,nth,ca,na] at e
  refine s (xi r) (n (q (g (s (xLoadS [V b.Kind,V b.Line,V b.Id,T b.Name,T b.Type_,V b.Len,V b.Var,Z z b.Target A,T b.Func,V b.Callee,Z B b.Args C,Z none b.Body 0,Z none b.Else 0] u111_ r ti111 r r (Cells.part (e.bk 10 r).cells (o2:=0) r)) (s (mi r) (sTs (tb e 11 [V b.Kind,V b.Line,V b.Id,T b.Name,T b.Type_,V b.Len,V b.Var,Z z b.Target A,T b.Func,V b.Callee,Z B b.Args C,Z none b.Body 0,Z none b.Else 0] r ti111 r r r r r (show _=#[V b.Kind,V b.Line,V b.Id,T b.Name,T b.Type_,V b.Len,V b.Var,Z z b.Target A,T b.Func,V b.Callee,Z B b.Args C,Z none b.Body 0,Z none b.Else 0] from r)) ?_))))))
  intro bG e
  try dsimp only [List.set] at e
  refine s (xi r) (n (wRt ?_))
  obtain rfl:=sm M
  refine resV2 r (rdA r u111_ r ti111 r (e.bk 11 r)) (rdT r) ?_
  exact pok (pok (⟨z,A,B,C,none,0,none,0,A8,C8,Q8,N,Q,aa,S,U,ab,r,(e.ad [0,1,2,3,4,5,6,7,8,9] [7,8,9,10,0,1,2,3,4,5,6])⟩))
 replace aS:=nt aS
 refine wIfF (cb aS) (g (s (mp r) ?_))
 obtain ⟨⟨bi,bj,c⟩,bl,M⟩:=bs M
 replace M:=pi M
 replace M:=pi M
 have hc:=H_checker_parts (e.pr [2,3,4,5,6,7,8,9,10,11,1] [0] [0,1,2,3,4,5,6,7,8,9,10] r) (e.le ah) (e.le ai) (e.le aj) (e.le a8) (e.le ak) (e.le al) (e.le am) bl
 refine sc (ec cal131 r) hc ?_
 rintro _ bH ⟨aA,aB,aC,aD,aE,aF,aG,aH,aI,D,E,F,H,I,J,K,L,rfl,hK⟩
 replace e:=e.cl [2,3,4,5,6,7,8,9,10,11,1] [0] r hK r
 try dsimp only [pick,nth,ca,na] at e
 refine s (xi r) (n (q (g (s (xLoadS [V c.Kind,V c.Line,V c.Id,T c.Name,T c.Type_,V c.Len,V c.Var,Z D c.Target E,T c.Func,V c.Callee,Z F c.Args H,Z I c.Body J,Z K c.Else L] u111_ r ti111 r r (Cells.part (e.bk 10 r).cells (o2:=0) r)) (s (mi r) (sTs (tb e 11 [V c.Kind,V c.Line,V c.Id,T c.Name,T c.Type_,V c.Len,V c.Var,Z D c.Target E,T c.Func,V c.Callee,Z F c.Args H,Z I c.Body J,Z K c.Else L] r ti111 r r r r r (show _=#[V c.Kind,V c.Line,V c.Id,T c.Name,T c.Type_,V c.Len,V c.Var,Z D c.Target E,T c.Func,V c.Callee,Z F c.Args H,Z I c.Body J,Z K c.Else L] from r)) ?_))))))
 intro bI e
 try dsimp only [List.set] at e
 refine s (xi r) (n (wRt ?_))
 obtain rfl:=sm M
 refine resV2 r (rdA r u111_ r ti111 r (e.bk 11 r)) (rdT r) ?_
 exact pok (pok (⟨D,E,F,H,I,J,K,L,aA,aB,aC,aD,aE,aF,aG,aH,aI,r,(e.ad [0,1,2,3,4,5,6,7,8,9] [7,8,9,10,0,1,2,3,4,5,6])⟩))
theorem wk_checker_parts (fu:Nat)(r_checker_list:T_checker_list) (r_checker_statement:T_checker_statement) (r_checker_parts:T_checker_parts) (r_checker_block:T_checker_block) (H_checker_list:Ct_checker_list r_checker_list) (H_checker_statement:Ct_checker_statement r_checker_statement) (H_checker_parts:Ct_checker_parts r_checker_parts) (H_checker_block:Ct_checker_block r_checker_block):Ct_checker_parts (F_checker_parts fu r_checker_list r_checker_statement r_checker_parts r_checker_block):=by
 intro w0 ce x0 e bj a1 a2 a3 a4 aJ b8 a5 a6 aK b9 a7 a8 aL ba aw ax aM bb a9 aa aN bc ay az aO bd aA aB aP bg bl bo bp aQ aR ab ac u v R hP C D E F H I J m
 unfold F_checker_parts at m
 have a:=hP.bx
 clear hP
 generalize hG:Gof _=G at a ⊢
 refine cf Try.func131 r ?_
 refine wCut [(0,Pt bj),(1,Pt bl)] ⟨r,r,y⟩ fun cg=>?_
 refine q (g (s (xi r) (n (q (g (s (xi r) (n (q (q (g (s (mp r) (s (mp r) (s (mp r) ?_)))))))))))))
 refine s (xn r) (s (f111_7 r) (s (l109 r (a.bk 10 r) r) ?_))
 obtain ⟨⟨W,bS,bT⟩,h1,m⟩:=bs m
 replace m:=pi m
 replace m:=pi m
 have hc:=(sp_checker_expressions fu) (a.pr [0,1,2,3,4,5,6,7,8,9] [10] [0,1,2,3,4,5,6,7] r) (a.le C) (a.le D) (a.le E) (a.le F) (a.le H) (a.le I) (a.le J) h1
 refine sc (ec cal138 r) hc ?_
 rintro _ w1 ⟨b,c,aH,rfl,hK⟩
 have aS:=a.chg.size
 replace a:=a.cl [0,1,2,3,4,5,6,7,8,9] [10] r hK r
 try dsimp only [pick,nth,ca,na] at a
 replace a:=a.reb 0 w0.heap.size r aS
 try dsimp only [List.set] at a
 refine s xMove (s (xExtract r r) (s (xExtract r r) (s (xn r) (s (f111_7 r) (sTs (tb a 11 [Z b W c] r ti109 r r r r r (show _=#[V e.Kind,V e.Line,V e.Id,T e.Name,T e.Type_,V e.Len,V e.Var,Z b W c,T e.Func,V e.Callee,Z aQ e.Args aR,Z ab e.Body ac,Z u e.Else v] from r)) ?_)))))
 intro w2 a
 try dsimp only [List.set] at a
 refine s (xi r) (n (q (g (s (mi r) (s (xNeqD r r) (n ?_))))))
 rcases iv m with ⟨h3,m⟩|⟨h3,m⟩
 ·refine wIfT (bt h3) (q (g (s (mi r) (s (xi r) (n (wRt ?_))))))
  replace a:=a.frz 0 0 r r
  try dsimp only [List.eraseIdx] at a
  obtain rfl:=sm m
  refine resV1 r (rdT r) ?_
  exact pok (pok (⟨aw,ax,aM,ay,az,aO,aA,aB,aP,b,c,aQ,aR,ab,ac,u,v,r,(a.dp [1,2,3,4,5,6,7,0,16,17,18])⟩))
 refine wIfF (bf h3) (wk (q (q (g (s (mp r) (s (mp r) (s (mp r) (s (xn r) (s (f111_10 r) (s (l109 r (a.bk 11 r) r) ?_))))))))))
 obtain ⟨⟨ae,bU,bV⟩,h5,m⟩:=bs m
 replace m:=pi m
 replace m:=pi m
 have hc:=(sp_checker_expressions fu) (a.pr [1,2,3,4,5,6,7,8,9,10] [0,11] [1,2,3,4,5,6,7,16] r) (a.le C) (a.le D) (a.le E) (a.le F) (a.le H) (a.le I) (a.le J) h5
 refine sc (ec cal138 r) hc ?_
 rintro _ w5 ⟨h,j,aI,rfl,hK⟩
 have aS:=a.chg.size
 replace a:=a.cl [1,2,3,4,5,6,7,8,9,10] [0,11] r hK r
 try dsimp only [pick,nth,ca,na] at a
 replace a:=a.reb 0 w0.heap.size r aS
 try dsimp only [List.set] at a
 refine s xMove (s (xExtract r r) (s (xExtract r r) (s (xn r) (s (f111_10 r) (sTs (tb a 12 [Z h ae j] r ti109 r r r r r (show _=#[V e.Kind,V e.Line,V e.Id,T e.Name,T e.Type_,V e.Len,V e.Var,Z b W c,T e.Func,V e.Callee,Z h ae j,Z ab e.Body ac,Z u e.Else v] from r)) ?_)))))
 intro w6 a
 try dsimp only [List.set] at a
 refine s (xi r) (n (q (g (s (mi r) (s (xNeqD r r) (n ?_))))))
 rcases iv m with ⟨h7,m⟩|⟨h7,m⟩
 ·refine wIfT (bt h7) (q (g (s (mi r) (s (xi r) (n (wRt ?_))))))
  replace a:=a.frz 11 8 r r
  try dsimp only [List.eraseIdx] at a
  replace a:=a.frz 0 1 r r
  try dsimp only [List.eraseIdx] at a
  obtain rfl:=sm m
  refine resV1 r (rdT r) ?_
  exact pok (pok (⟨aw,ax,aM,ay,az,aO,aA,aB,aP,b,c,h,j,ab,ac,u,v,r,(a.dp [2,3,4,5,6,7,8,1,0,25,26])⟩))
 refine wIfF (bf h7) (wk (q (q (g (s (mp r) (s (mp r) (s (mp r) (s (xn r) (s (f111_11 r) (s (l80 r (a.bk 12 r) r) ?_))))))))))
 obtain ⟨⟨Q,bH,d⟩,bI,m⟩:=bs m
 replace m:=pi m
 replace m:=pi m
 have hc:=H_checker_block (a.pr [1,2,3,4,5,6,7,8,9,10] [0,11,12] [1,2,3,4,5,6,7,25] r) (a.le C) (a.le D) (a.le E) (a.le F) (a.le H) (a.le I) (a.le J) bI
 refine sc (ec cal139 r) hc ?_
 rintro _ bY ⟨o,p,av,x,z,B,K,L,af,M,N,ag,rfl,hK⟩
 have aS:=a.chg.size
 replace a:=a.cl [1,2,3,4,5,6,7,8,9,10] [0,11,12] r hK r
 try dsimp only [pick,nth,ca,na] at a
 replace a:=a.reb 0 w0.heap.size r aS
 try dsimp only [List.set] at a
 refine s xMove (s (xExtract r r) (s (xExtract r r) (s (xn r) (s (f111_11 r) (sTs (tb a 13 [Z o Q p] r ti80 r r r r r (show _=#[V e.Kind,V e.Line,V e.Id,T e.Name,T e.Type_,V e.Len,V e.Var,Z b W c,T e.Func,V e.Callee,Z h ae j,Z o Q p,Z u e.Else v] from r)) ?_)))))
 intro bZ a
 try dsimp only [List.set] at a
 refine s (xi r) (n (q (g (s (mi r) (s (xNeqD r r) (n ?_))))))
 rcases iv m with ⟨bq,m⟩|⟨bq,m⟩
 ·refine wIfT (bt bq) (q (g (s (mi r) (s (xi r) (n (wRt ?_))))))
  replace a:=a.frz 12 16 r r
  try dsimp only [List.eraseIdx] at a
  replace a:=a.frz 11 9 r r
  try dsimp only [List.eraseIdx] at a
  replace a:=a.frz 0 2 r r
  try dsimp only [List.eraseIdx] at a
  obtain rfl:=sm m
  refine resV1 r (rdT r) ?_
  exact pok (pok (⟨x,z,B,K,L,af,M,N,ag,b,c,h,j,o,p,u,v,r,(a.dp [3,4,5,6,7,8,9,2,1,0,34])⟩))
 refine wIfF (bf bq) (wk (q (g (s (mp r) (s (xn r) (s (f107_8 r) (s (l22 r (a.bk 1 r) r) (s (xLnR u22_ r) (s (xi r) (n (q ?_)))))))))))
 obtain ⟨bJ,t,m⟩:=bs m
 refine wJd (fun f w=>∃ (aT:Int)(aU:Int)(aV:List (BA × Int)) (aW:List (BA × Int)) (aC:List Gr) (aD:List Gn) (aE:List (List Gv)) (aF:List Gi) (aG:List Int) (X:List Gv) (ah:OA)(ai:Nat)(aj:LV)(Y:List Int) (ak:OA)(al:Nat)(am:LV)(a0:Int),Has f [(0,Pt bj),(1,Pt bl),(6,V (d.scope.length:Int))]∧Bx w0 w ce G [O w0.heap.size o p 111 Gs av,.box bj 107 #[.map (some a1),.map (some a2),Z a3 aC a4,Z a5 aD a6,Z a7 aE a8,Z x aF z,Z a9 aG aa,Z ah X ai,Z ak Y al,V aT,V aU],.map ekT evI a1 aV,.map ekT evI a2 aW,O b8 a3 a4 127 Gr aJ,O b9 a5 a6 82 Gn aK,O ba a7 a8 60 (List Gv) aL,O bb x z 65 Gi B,O bc a9 aa 3 Int aN,O bd ah ai 59 Gv aj,O bg ak al 3 Int am,O w0.heap.size h j 138 Ge aI,O w0.heap.size b c 138 Ge aH,.box bl 111 #[V e.Kind,V e.Line,V e.Id,T e.Name,T e.Type_,V e.Len,V a0,Z b W c,T e.Func,V e.Callee,Z h ae j,Z o Q p,Z u e.Else v]] [.els av Q,.els aJ aC,.els aK aD,.els aL aE,.els B aF,.els aN aG,.els aj X,.els am Y,.els aI ae,.els aH W,.l u v e.Else]∧Ld.go (aT,aU,aV,aW,aC,aD,aE,aF,aG,X,Y,a0)=bJ) (fun c0 bn=>?_) ?_
 ·unfold F_checker_parts_J0 at t
  refine q (g (s (mp r) (s (xn r) (s (f111_0 r) (s (l3 r (a.bk 13 r) r) (s (xEqlD r r) (n ?_)))))))
  rcases iv t with ⟨br,t⟩|⟨br,t⟩
  ·refine wIfT (bt br) (q (g (s (mp r) (s (mp r) (s (xn r) (s (f111_1 r) (s (l3 r (a.bk 13 r) r) (s (xn r) (s (f107_10 r) (sTs (tb a 1 [V e.Line] r ti3 r r r r r (show _=#[.map (some a1),.map (some a2),Z a3 d.source.Program.Records a4,Z a5 d.source.Program.Funcs a6,Z a7 d.source.Vars a8,Z x d.source.Stmts z,Z a9 d.params aa,Z K d.vars L,Z M d.scope N,V d.current,V e.Line] from r)) ?_))))))))))
   intro c1 a
   try dsimp only [List.set] at a
   refine n (q (g (s (mp r) (s (mp r) (s (mp r) (s (xn r) (s (f111_3 r) (s (l9 r (a.bk 13 r) r) (s (bd59_0_1_2_3 r r r r) ?_)))))))))
   obtain ⟨⟨aX,bK,A⟩,bL,t⟩:=bs t
   replace t:=pi t
   replace t:=pi t
   have hc:=(sp_checker_declare fu) (a.pr [1,2,3,4,5,6,7,8,9,10] [0,11,12,13] [1,2,3,4,5,6,7] r) (a.le C) (a.le D) (a.le E) (a.le F) (a.le H) (a.le I) (a.le J) bL
   refine sc (ec cal137 r) hc ?_
   rintro _ c2 ⟨an,ao,ap,aq,ar,au,rfl,hK⟩
   replace a:=a.cl [1,2,3,4,5,6,7,8,9,10] [0,11,12,13] r hK r
   try dsimp only [pick,nth,ca,na] at a
   refine s xMove (s (xExtract r r) (s (xExtract r r) (s (xn r) (s (f111_6 r) (sTs (tb a 13 [V aX] r ti3 r r r r r (show _=#[V e.Kind,V e.Line,V e.Id,T e.Name,T e.Type_,V e.Len,V aX,Z b W c,T e.Func,V e.Callee,Z h ae j,Z o Q p,Z u e.Else v] from r)) ?_)))))
   intro c3 a
   try dsimp only [List.set] at a
   refine s (xi r) (n (q (g (s (mi r) (s (xNeqD r r) (n ?_))))))
   rcases iv t with ⟨bu,t⟩|⟨bu,t⟩
   ·refine wIfT (bt bu) (q (g (s (mi r) (s (xi r) (n (wRt ?_))))))
    replace a:=a.frz 12 23 r r
    try dsimp only [List.eraseIdx] at a
    replace a:=a.frz 11 16 r r
    try dsimp only [List.eraseIdx] at a
    replace a:=a.frz 10 9 r r
    try dsimp only [List.eraseIdx] at a
    obtain rfl:=sm t
    replace m:=oi m
    obtain rfl:=sm m
    refine resV1 r (rdT r) ?_
    exact pok (pok (⟨x,z,B,an,ao,ap,aq,ar,au,b,c,h,j,o,p,u,v,r,(a.dp [3,4,5,6,7,8,9,2,1,0,41])⟩))
   refine wIfF (bf bu) (wk ?_)
   exact bn _ _ ⟨A.current,A.line,A.records,A.funcs,A.source.Program.Records,A.source.Program.Funcs,A.source.Vars,A.source.Stmts,A.params,A.vars,an,ao,ap,A.scope,aq,ar,au,aX,⟨r,r,r,y⟩,(a.ad [10,0,1,2,3,4,5,6,7,8,9,11,12,13] [7,0,1,2,3,4,5,6,15,23,41]),sm t⟩
  refine wIfF (bf br) (wk ?_)
  exact bn _ _ ⟨d.current,d.line,d.records,d.funcs,d.source.Program.Records,d.source.Program.Funcs,d.source.Vars,d.source.Stmts,d.params,d.vars,K,L,af,d.scope,M,N,ag,e.Var,⟨r,r,r,y⟩,(a.dp [0,1,2,3,4,5,6,7,8,16,34]),sm t⟩
 clear a
 rintro f w ⟨aT,aU,aV,aW,aC,aD,aE,aF,aG,X,ah,ai,aj,Y,ak,al,am,a0,hf,a,bE⟩
 obtain ⟨cg,rfl⟩:=has_updL _ _ hf
 clear hf
 subst bE
 replace m:=gi m
 replace m:=pi m
 replace m:=pi m
 replace m:=pi m
 replace m:=pi m
 replace m:=pi m
 replace m:=pi m
 replace m:=pi m
 replace m:=pi m
 replace m:=pi m
 replace m:=pi m
 replace m:=pi m
 refine q (g (s (mp r) (s (mp r) (s (mp r) (s (xn r) (s (f111_12 r) (s (l80 r (a.bk 13 r) r) ?_)))))))
 obtain ⟨⟨bi,bM,bN⟩,bO,m⟩:=bs m
 replace m:=pi m
 replace m:=pi m
 have hc:=H_checker_block (a.pr [1,2,3,4,5,6,7,8,9,10] [0,11,12,13] [1,2,3,4,5,6,7,10] r) (a.le C) (a.le D) (a.le E) (a.le F) (a.le H) (a.le I) (a.le J) bO
 refine sc (ec cal139 r) hc ?_
 rintro _ c4 ⟨S,U,bD,aY,aZ,b0,bv,bw,bz,bA,bB,bC,rfl,hK⟩
 have aS:=a.chg.size
 replace a:=a.cl [1,2,3,4,5,6,7,8,9,10] [0,11,12,13] r hK r
 try dsimp only [pick,nth,ca,na] at a
 replace a:=a.reb 0 w0.heap.size r aS
 try dsimp only [List.set] at a
 refine s xMove (s (xExtract r r) (s (xExtract r r) (s (xn r) (s (f111_12 r) (sTs (tb a 14 [Z S bi U] r ti80 r r r r r (show _=#[V e.Kind,V e.Line,V e.Id,T e.Name,T e.Type_,V e.Len,V a0,Z b W c,T e.Func,V e.Callee,Z h ae j,Z o Q p,Z S bi U] from r)) ?_)))))
 intro c5 a
 try dsimp only [List.set] at a
 refine s (xi r) (n (q (g (s (mp r) (s (mi r) ?_)))))
 obtain ⟨bP,bQ,m⟩:=bs m
 have hc:=(sp_checker_leave fu) (a.pr [1,2,3,4,5,6,7,8,9,10] [0,11,12,13,14] [1,2,3,4,5,6,7] r) (a.le C) (a.le D) (a.le E) (a.le F) (a.le H) (a.le I) (a.le J) bQ
 refine sc (ec cal97 r) hc ?_
 rintro _ c6 ⟨b1,b2,b3,b4,b5,b6,rfl,hK⟩
 replace a:=a.cl [1,2,3,4,5,6,7,8,9,10] [0,11,12,13,14] r hK r
 try dsimp only [pick,nth,ca,na] at a
 refine n (q (g (s (mi r) (s (xi r) (n (wRt ?_))))))
 replace a:=a.frz 13 24 r r
 try dsimp only [List.eraseIdx] at a
 replace a:=a.frz 12 24 r r
 try dsimp only [List.eraseIdx] at a
 replace a:=a.frz 11 17 r r
 try dsimp only [List.eraseIdx] at a
 replace a:=a.frz 10 10 r r
 try dsimp only [List.eraseIdx] at a
 obtain rfl:=sm m
 refine resV1 r (rdT r) ?_
 exact pok (pok (⟨aY,aZ,b0,b1,b2,b3,b4,b5,b6,b,c,h,j,o,p,S,U,r,(a.dp [4,5,6,7,8,9,10,3,2,1,0])⟩))
theorem wk_checker_block (fu:Nat)(r_checker_list:T_checker_list) (r_checker_statement:T_checker_statement) (r_checker_parts:T_checker_parts) (r_checker_block:T_checker_block) (H_checker_list:Ct_checker_list r_checker_list) (H_checker_statement:Ct_checker_statement r_checker_statement) (H_checker_parts:Ct_checker_parts r_checker_parts) (H_checker_block:Ct_checker_block r_checker_block):Ct_checker_block (F_checker_block fu r_checker_list r_checker_statement r_checker_parts r_checker_block):=by
 intro w0 aF z x1 ao A B C D a1 a2 E F a3 a4 H I a5 a6 J K a7 a8 L M a9 aa N Q ab ac S U ae af ag ah R hP b c d e f h j hM
 unfold F_checker_block at hM
 have a:=hP.bx
 clear hP
 generalize hG:Gof _=G at a ⊢
 refine cf Try.func139 r ?_
 refine wCut [(0,Pt ao),(1,Z ag x1 ah)] ⟨r,r,y⟩ fun aG=>?_
 refine q (g (s (xAsS r) (s (xi r) (n (q (g (s (mp r) (s (xn r) (s (f107_8 r) (s (l22 r (a.bk 0 r) r) (s (xLnR u22_ r) (s (xi r) (n ?_)))))))))))))
 refine q (g (s (mp r) (s (xMvS r) ?_)))
 obtain ⟨⟨au,av,aw⟩,h1,hM⟩:=bs hM
 replace hM:=pi hM
 replace hM:=pi hM
 have hc:=H_checker_list (a.pr [0,1,2,3,4,5,6,7,8,9] [] [0,1,2,3,4,5,6,7] r) (a.le b) (a.le c) (a.le d) (a.le e) (a.le f) (a.le h) (a.le j) h1
 refine sc (ec cal96 r) hc ?_
 rintro _ w1 ⟨W,X,Y,l,m,o,ai,aj,ak,al,am,an,rfl,hK⟩
 have aq:=a.chg.size
 replace a:=a.cl [0,1,2,3,4,5,6,7,8,9] [] r hK r
 try dsimp only [pick,nth,ca,na] at a
 replace a:=a.reb 0 w0.heap.size r aq
 try dsimp only [List.set] at a
 refine s xMove (s (xExtract r r) (s (xExtract r r) (s (xAsS r) (s (xi r) (n (q (g (s (mp r) (s (mi r) ?_)))))))))
 obtain ⟨ax,h2,hM⟩:=bs hM
 have hc:=(sp_checker_leave fu) (a.pr [1,2,3,4,5,6,7,8,9,10] [0] [1,2,3,4,5,6,7] r) (a.le b) (a.le c) (a.le d) (a.le e) (a.le f) (a.le h) (a.le j) h2
 refine sc (ec cal97 r) hc ?_
 rintro _ w2 ⟨p,t,u,v,w,x,rfl,hK⟩
 replace a:=a.cl [1,2,3,4,5,6,7,8,9,10] [0] r hK r
 try dsimp only [pick,nth,ca,na] at a
 refine n (q (g (s (xMvS r) (s (mi r) (s (xAsS r) (s (xi r) (n (wRt ?_))))))))
 obtain rfl:=sm hM
 refine resV2 r (rdT r) (rdT r) ?_
 exact pok (pok (⟨W,X,Y,l,m,o,p,t,u,v,w,x,r,(a.ad [10,0,1,2,3,4,5,6,7,8,9] [7,0,1,2,3,4,5,6])⟩))
theorem sps_checker_list (fu:Nat):Ct_checker_list (m_checker_list fu)∧Ct_checker_statement (m_checker_statement fu)∧Ct_checker_parts (m_checker_parts fu)∧Ct_checker_block (m_checker_block fu):=by
 induction fu with
 | zero=>exact ⟨by intro a b;intros;exact nn (by assumption),by intro a b;intros;exact nn (by assumption),by intro a b;intros;exact nn (by assumption),by intro a b;intros;exact nn (by assumption)⟩
 | succ fu ih=>exact ⟨wk_checker_list fu (m_checker_list fu) (m_checker_statement fu) (m_checker_parts fu) (m_checker_block fu) ih.1 ih.2.1 ih.2.2.1 ih.2.2.2,wk_checker_statement fu (m_checker_list fu) (m_checker_statement fu) (m_checker_parts fu) (m_checker_block fu) ih.1 ih.2.1 ih.2.2.1 ih.2.2.2,wk_checker_parts fu (m_checker_list fu) (m_checker_statement fu) (m_checker_parts fu) (m_checker_block fu) ih.1 ih.2.1 ih.2.2.1 ih.2.2.2,wk_checker_block fu (m_checker_list fu) (m_checker_statement fu) (m_checker_parts fu) (m_checker_block fu) ih.1 ih.2.1 ih.2.2.1 ih.2.2.2⟩
theorem sp_checker_list (fu:Nat):Ct_checker_list (m_checker_list fu):=(sps_checker_list fu).1
def Ct_checker_function (m:Gc→Int→Gn→Option (Int × Gc)):Prop:=∀ {w0:World} {ah:Nat→Prop} {b:Gc} {x1:Int} {x2:Gn} {ac:Nat} {c:Nat} {d:Nat} {e:Option Addr} {f:Nat} {j:List (List Value)} {o:Nat} {p:Option Addr} {t:Nat} {I:List (List Value)} {u:Nat} {x:Option Addr} {z:Nat} {J:List (List Value)} {A:Nat} {B:Option Addr} {C:Nat} {K:List (List Value)} {D:Nat} {h:Option Addr} {i:Nat} {k:List (List Value)} {E:Nat} {L:Option Addr} {M:Nat} {F:Option Addr} {G:Nat} {N:List (List Value)} {H:Nat} {a7:Option Addr} {a8:Nat} {a9:Option Addr} {aa:Nat} {R:Int × Gc},Pre w0 ah [.box ac 107 #[.map (some c),.map (some d),Z e b.source.Program.Records f,Z p b.source.Program.Funcs t,Z x b.source.Vars z,Z B b.source.Stmts C,Z h b.params i,Z L b.vars M,Z F b.scope G,V b.current,V b.line],.map ekT evI c b.records,.map ekT evI d b.funcs,O o e f 127 Gr j,O u p t 82 Gn I,O A x z 60 (List Gv) J,O D B C 65 Gi K,O E h i 3 Int k,O H F G 3 Int N] [.els j b.source.Program.Records,.els I b.source.Program.Funcs,.els J b.source.Vars,.els K b.source.Stmts,.els k b.params,.l L M b.vars,.els N b.scope,.l a7 a8 x2.Params,.l a9 aa x2.Body]→o≤w0.heap.size→u≤w0.heap.size→A≤w0.heap.size→D≤w0.heap.size→E≤w0.heap.size→H≤w0.heap.size→m b x1 x2=some R→
 Calls Try.prog 71 #[Pt ac,V x1,.agg #[T x2.Name,V x2.Line,Z a7 x2.Params a8,Z a9 x2.Body aa]] w0 (Ret fun v w=>pel R fun r0 a=>∃ (P:OA)(Q:Nat)(S:LV)(U:OA)(W:Nat)(X:LV)(Y:OA)(a0:Nat)(a1:LV)(a2:OA)(a3:Nat)(a4:OA)(a5:Nat)(a6:LV),v=V r0∧Bx w0 w ah (Gof [.box ac 107 #[.map (some c),.map (some d),Z e b.source.Program.Records f,Z p b.source.Program.Funcs t,Z x b.source.Vars z,Z B b.source.Stmts C,Z h b.params i,Z L b.vars M,Z F b.scope G,V b.current,V b.line],.map ekT evI c b.records,.map ekT evI d b.funcs,O o e f 127 Gr j,O u p t 82 Gn I,O A x z 60 (List Gv) J,O D B C 65 Gi K,O E h i 3 Int k,O H F G 3 Int N]) [.box ac 107 #[.map (some c),.map (some d),Z e a.source.Program.Records f,Z P a.source.Program.Funcs Q,Z U a.source.Vars W,Z Y a.source.Stmts a0,Z h a.params i,Z a2 a.vars a3,Z a4 a.scope a5,V a.current,V a.line],.map ekT evI c a.records,.map ekT evI d a.funcs,O o e f 127 Gr j,O u P Q 82 Gn S,O A U W 60 (List Gv) X,O D Y a0 65 Gi a1,O E h i 3 Int k,O H a4 a5 3 Int a6] [.els j a.source.Program.Records,.els S a.source.Program.Funcs,.els X a.source.Vars,.els a1 a.source.Stmts,.els k a.params,.l a2 a3 a.vars,.els a6 a.scope])
def m_checker_function_L0 (fu:Nat):List BA→Nat→(List Int)→(List Gv)→Int→Int→(List (BA × Int))→(List (BA × Int))→(List Gr)→(List Gn)→(List (List Gv))→(List Gi)→(List Int)→Option (Ld (List Int × List Gv × Int × Int × List (BA × Int) × List (BA × Int) × List Gr × List Gn × List (List Gv) × List Gi × List Int) (Int × Gc))
 | [],_,d,e,f,h,i,j,k,l,m,b,c=>some (.go (d,e,f,h,i,j,k,l,m,b,c))
 | p :: t,u,d,e,f,h,i,j,k,l,m,b,c=>
 (m_checker_add fu (⟨i,j,(⟨(⟨k,l⟩:GProgram),m,b⟩:GSource),c,e,d,f,h⟩:Gc) (⟨p,1,(-1),1,true,0,0⟩:Gv)).bind fun v=>
 pel v fun o a=>
 m_checker_function_L0 fu t (u+1) a.scope a.vars a.current a.line a.records a.funcs a.source.Program.Records a.source.Program.Funcs a.source.Vars a.source.Stmts a.params
def m_checker_function (fu:Nat)(b:Gc) (C:Int)(e:Gn):Option (Int × Gc):=
 if 4 < (e.Params.length:Int) then
  some (5,(⟨b.records,b.funcs,b.source,b.params,b.vars,b.scope,b.current,e.Line⟩:Gc))
 else
  (m_checker_repeated fu e.Params).bind fun k=>
  if k=true then
   some (9,(⟨b.records,b.funcs,b.source,b.params,b.vars,b.scope,b.current,e.Line⟩:Gc))
  else
   (m_checker_function_L0 fu e.Params 0 ([]:List Int) ([]:List Gv) C e.Line b.records b.funcs b.source.Program.Records b.source.Program.Funcs b.source.Vars b.source.Stmts b.params).bind fun D=>D.el (fun D=>
   pel D fun l D=>pel D fun m D=>pel D fun p D=>pel D fun t D=>pel D fun u D=>pel D fun v D=>pel D fun w D=>pel D fun x D=>pel D fun z D=>pel D fun f h=>
   (m_checker_list fu (⟨u,v,(⟨(⟨w,x⟩:GProgram),z,f⟩:GSource),h,m,l,p,t⟩:Gc) e.Body).bind fun D=>
   pel D fun i D=>pel D fun c d=>
   if c≠0 then
    some (c,d)
   else
    (m_checker_leave fu d 0).bind fun a=>
    (m_slices_Clone fu e.Params).bind fun j=>
    (app a.source.Program.Funcs ([(⟨e.Name,e.Line,j,i⟩:Gn)]:List Gn)).bind fun A=>
    (app a.source.Vars ([a.vars]:List (List Gv))).bind fun B=>
    some (0,(⟨a.records,a.funcs,(⟨(⟨a.source.Program.Records,A⟩:GProgram),B,a.source.Stmts⟩:GSource),a.params,a.vars,a.scope,a.current,a.line⟩:Gc))
   ) (fun o=>some o)
theorem sp_checker_function (fu:Nat):Ct_checker_function (m_checker_function fu):=by
 intro w0 cc H x1 I aX o p t u ar aD e j U aE c d W aF v x aa aG z A au aH av aw ab ac aI aJ ag ah ai aj R hP aA ap aq aB aC aW m
 unfold m_checker_function at m
 have a:=hP.bx
 clear hP
 generalize hG:Gof _=G at a ⊢
 refine cf Try.func71 r ?_
 refine wCut [(0,Pt aX),(1,V x1),(2,.agg #[T I.Name,V I.Line,Z ag I.Params ah,Z ai I.Body aj])] ⟨r,r,r,y⟩ fun cd=>?_
 refine q (g (sTo (aNewB a (mBox r)) ?_))
 rintro _ w1 ⟨b1,rfl,a⟩
 refine s (xi r) (n (q (g (s (mp r) (s (f82_1 r) (s (l3 r (a.bk 0 r) r) (s (xn r) (s (f107_10 r) (sTs (tb a 1 [V I.Line] r ti3 r r r r r (show _=#[.map (some o),.map (some p),Z t H.source.Program.Records u,Z e H.source.Program.Funcs j,Z c H.source.Vars d,Z v H.source.Stmts x,Z z H.params A,Z av H.vars aw,Z ab H.scope ac,V H.current,V I.Line] from r)) ?_)))))))))
 intro w2 a
 try dsimp only [List.set] at a
 refine n (q (q (g (s (f82_2 r) (s (l70 r (a.bk 0 r) r) (s (xLnR u70_ r) (s (xGtr r r) (n ?_))))))))
 rcases iv m with ⟨h3,m⟩|⟨h3,m⟩
 ·refine wIfT (bt h3) (q (g (s (xi r) (n (wRt ?_)))))
  obtain rfl:=sm m
  refine resV1 r (rdT r) ?_
  exact pok (⟨e,j,U,c,d,W,v,x,aa,av,aw,ab,ac,aI,r,(a.ad [1,2,3,4,5,6,7,8,9] [0,1,2,3,4,5,6])⟩)
 refine wIfF (bf h3) (wk (q (q (g (s (f82_2 r) (s (l70 r (a.bk 0 r) r) ?_))))))
 obtain ⟨bH,h4,m⟩:=bs m
 have hc:=(sp_checker_repeated fu) (a.pr [] [0,1,2,3,4,5,6,7,8,9] [7] r)  h4
 refine sc (ec cal69 r) hc ?_
 rintro _ w4 ⟨rfl,hK⟩
 replace a:=a.cl [] [0,1,2,3,4,5,6,7,8,9] r hK r
 try dsimp only [pick,nth,ca,na] at a
 refine n ?_
 rcases iv m with ⟨h5,m⟩|⟨h5,m⟩
 ·refine wIfT (cb h5) (q (g (s (xi r) (n (wRt ?_)))))
  obtain rfl:=sm m
  refine resV1 r (rdT r) ?_
  exact pok (⟨e,j,U,c,d,W,v,x,aa,av,aw,ab,ac,aI,r,(a.ad [1,2,3,4,5,6,7,8,9] [0,1,2,3,4,5,6])⟩)
 replace h5:=nt h5
 refine wIfF (cb h5) (wk (q (g (s (mp r) (s (mp r) (s (mp r) (s (mi r) (s (xn r) (s (f107_9 r) (sTs (tb a 1 [V x1] r ti3 r r r r r (show _=#[.map (some o),.map (some p),Z t H.source.Program.Records u,Z e H.source.Program.Funcs j,Z c H.source.Vars d,Z v H.source.Stmts x,Z z H.params A,Z av H.vars aw,Z ab H.scope ac,V x1,V I.Line] from r)) ?_))))))))))
 intro w6 a
 try dsimp only [List.set] at a
 refine s (xn r) (s (f107_7 r) (sTs (tb a 1 [sn] r ti60 r r r r r (show _=#[.map (some o),.map (some p),Z t H.source.Program.Records u,Z e H.source.Program.Funcs j,Z c H.source.Vars d,Z v H.source.Stmts x,Z z H.params A,sn,Z ab H.scope ac,V x1,V I.Line] from r)) ?_))
 intro w7 a
 try dsimp only [List.set] at a
 refine s (xn r) (s (f107_8 r) (sTs (tb a 1 [sn] r ti22 r r r r r (show _=#[.map (some o),.map (some p),Z t H.source.Program.Records u,Z e H.source.Program.Funcs j,Z c H.source.Vars d,Z v H.source.Stmts x,Z z H.params A,sn,sn,V x1,V I.Line] from r)) ?_))
 intro w8 a
 try dsimp only [List.set] at a
 refine n (q (q (g (s (f82_2 r) (s (l70 r (a.bk 0 r) r) (s (xLnR u70_ r) (s (mi r) (n ?_))))))))
 replace a:=a.owL Gv 59
 replace a:=a.owL Int 3
 have bK:=(a.dl 9 r).bd
 obtain ⟨Y9,ax,m⟩:=bs m
 refine wJd (fun f w=>∃ (a5:List Int) (X:OA)(Y:Nat)(a0:LV)(a6:List Gv) (a1:OA)(a2:Nat)(a3:LV)(al:Int)(am:Int)(an:List (BA × Int)) (ao:List (BA × Int)) (a7:List Gr) (a8:List Gn) (a9:List (List Gv)) (J:List Gi) (K:List Int),Has f [(0,Pt aX),(5,Pt b1)]∧Bx w0 w cc G [O w0.heap.size X Y 3 Int a0,O w0.heap.size a1 a2 59 Gv a3,.box b1 82 #[T I.Name,V I.Line,Z ag I.Params ah,Z ai I.Body aj],.box aX 107 #[.map (some o),.map (some p),Z t a7 u,Z e a8 j,Z c a9 d,Z v J x,Z z K A,Z a1 a6 a2,Z X a5 Y,V al,V am],.map ekT evI o an,.map ekT evI p ao,O aD t u 127 Gr ar,O aE e j 82 Gn U,O aF c d 60 (List Gv) W,O aG v x 65 Gi aa,O aH z A 3 Int au] [.els a0 a5,.els a3 a6,.els ar a7,.els U a8,.els W a9,.els aa J,.els au K,.l ag ah I.Params,.l ai aj I.Body]∧Ld.go (a5,a6,al,am,an,ao,a7,a8,a9,J,K)=Y9) (fun J9 bq=>?_) ?_
 ·refine wBk (wLoopGd (fun ce f w=>∃ (k9:Nat)(a5:List Int) (X:OA)(Y:Nat)(a0:LV)(a6:List Gv) (a1:OA)(a2:Nat)(a3:LV)(al:Int)(am:Int)(an:List (BA × Int)) (ao:List (BA × Int)) (a7:List Gr) (a8:List Gn) (a9:List (List Gv)) (J:List Gi) (K:List Int),ce=I.Params.length - k9∧k9≤I.Params.length∧Has f [(36,V (k9:Int)),(0,Pt aX),(5,Pt b1),(34,Z ag I.Params ah),(35,V (I.Params.length:Int))]∧Bx w0 w cc G [O w0.heap.size X Y 3 Int a0,O w0.heap.size a1 a2 59 Gv a3,.box b1 82 #[T I.Name,V I.Line,Z ag I.Params ah,Z ai I.Body aj],.box aX 107 #[.map (some o),.map (some p),Z t a7 u,Z e a8 j,Z c a9 d,Z v J x,Z z K A,Z a1 a6 a2,Z X a5 Y,V al,V am],.map ekT evI o an,.map ekT evI p ao,O aD t u 127 Gr ar,O aE e j 82 Gn U,O aF c d 60 (List Gv) W,O aG v x 65 Gi aa,O aH z A 3 Int au] [.els a0 a5,.els a3 a6,.els ar a7,.els U a8,.els W a9,.els aa J,.els au K,.l ag ah I.Params,.l ai aj I.Body]∧m_checker_function_L0 fu (I.Params.drop k9) k9 a5 a6 al am an ao a7 a8 a9 J K=some Y9) (I.Params.length) ⟨0,([]:List Int),none,0,[],([]:List Gv),none,0,[],x1,I.Line,H.records,H.funcs,H.source.Program.Records,H.source.Program.Funcs,H.source.Vars,H.source.Stmts,H.params,r,Nat.zero_le _,⟨r,r,r,r,r,y⟩,(a.ad [0,1,2,3,4,5,6,7,8,9,10] [0,1,2,3,4,5,6,9,10]),ax⟩ ?_)
  clear a ax
  rintro ce f w ⟨k9,a5,X,Y,a0,a6,a1,a2,a3,al,am,an,ao,a7,a8,a9,J,K,rfl,bL,hf,a,ax⟩ K9 br
  obtain ⟨cd,rfl⟩:=has_updL _ _ hf
  clear hf
  rcases Nat.lt_or_ge k9 I.Params.length with bj | bj
  ·obtain ⟨u9,b4⟩:=get_ex (l:=I.Params) bj
   rw [drop_id b4,m_checker_function_L0] at ax
   refine q (g (s (xLssT r r (by omega)) (n (q (wIfT r (wk (q (wBk (q (g (s (xIdR u70_ ti9 r r r (a.dl 7 r) b4) (s (xLoad u9_ r r ((elF (ds:=[T u9]) (a.dl 7 r) b4 (fun _ h=>h)) 0 _ r)) (s (xAsT r) ?_)))))))))))))
   refine n (g (s (mp r) (s (xMvT r) (s (bd59_0_1_2_3_4 r r r r r) ?_))))
   obtain ⟨⟨bu,D⟩,bv,ax⟩:=bs ax
   replace ax:=pi ax
   have hc:=(sp_checker_add fu) (a.pr [3,4,5,6,7,8,9,10,1,0] [2] [2,3,4,5,6,1,0] r) (a.le aA) (a.le ap) (a.le aq) (a.le aB) (a.le aC) a.chg.size a.chg.size bv
   refine sc (ec cal95 r) hc ?_
   rintro _ bN ⟨aK,aL,aM,aN,aO,aP,rfl,hK⟩
   replace a:=a.cl [3,4,5,6,7,8,9,10,1,0] [2] r hK r
   try dsimp only [pick,nth,ca,na] at a
   refine n (g (s (xAdd64 r r (by omega) (by omega)) (s (mi r) (n ?_))))
   exact br (I.Params.length - (k9+1)) _ _ (by omega) ⟨k9+1,D.scope,aN,aO,aP,D.vars,aK,aL,aM,D.current,D.line,D.records,D.funcs,D.source.Program.Records,D.source.Program.Funcs,D.source.Vars,D.source.Stmts,D.params,r,by omega,⟨r,r,r,r,r,y⟩,(a.ad [9,8,10,0,1,2,3,4,5,6,7] [6,5,0,1,2,3,4,14,15]),ax⟩
  obtain rfl:k9=I.Params.length:=by omega
  rw [drop_end,m_checker_function_L0] at ax
  refine q (g (s (xLssF r r (by omega)) (n (q (wIfF r (wEx ?_))))))
  exact bq _ _ ⟨a5,X,Y,a0,a6,a1,a2,a3,al,am,an,ao,a7,a8,a9,J,K,⟨r,r,y⟩,a,sm ax⟩
 clear a
 rintro f w ⟨a5,X,Y,a0,a6,a1,a2,a3,al,am,an,ao,a7,a8,a9,J,K,hf,a,bw⟩
 obtain ⟨cd,rfl⟩:=has_updL _ _ hf
 clear hf
 subst bw
 replace m:=gi m
 replace m:=pi m
 replace m:=pi m
 replace m:=pi m
 replace m:=pi m
 replace m:=pi m
 replace m:=pi m
 replace m:=pi m
 replace m:=pi m
 replace m:=pi m
 replace m:=pi m
 refine q (g (s (mp r) (s (f82_3 r) (s (l80 r (a.bk 2 r) r) ?_))))
 obtain ⟨⟨ay,bz,bA⟩,bB,m⟩:=bs m
 replace m:=pi m
 replace m:=pi m
 have hc:=(sp_checker_list fu) (a.pr [3,4,5,6,7,8,9,10,1,0] [2] [2,3,4,5,6,1,0,8] r) (a.le aA) (a.le ap) (a.le aq) (a.le aB) (a.le aC) a.chg.size a.chg.size bB
 refine sc (ec cal96 r) hc ?_
 rintro _ bO ⟨L,M,bg,N,Q,az,aQ,aR,b5,aS,aT,aU,rfl,hK⟩
 have b6:=a.chg.size
 replace a:=a.cl [3,4,5,6,7,8,9,10,1,0] [2] r hK r
 try dsimp only [pick,nth,ca,na] at a
 replace a:=a.reb 0 w0.heap.size r b6
 try dsimp only [List.set] at a
 refine s xMove (s (xExtract r r) (s (xExtract r r) (s (xAsS r) (s (xi r) (n (q (q (g (s (mi r) (s (xNeqD r r) (n ?_)))))))))))
 rcases iv m with ⟨b7,m⟩|⟨b7,m⟩
 ·refine wIfT (bt b7) (q (g (s (mi r) (s (xi r) (n (wRt ?_))))))
  replace a:=a.frz 9 6 r r
  try dsimp only [List.eraseIdx] at a
  replace a:=a.reb 9 aJ r aW
  try dsimp only [List.set] at a
  obtain rfl:=sm m
  refine resV1 r (rdT r) ?_
  exact pok (⟨e,j,U,c,d,W,N,Q,az,aQ,aR,aS,aT,aU,r,(a.ad [1,2,3,4,5,6,7,8,9] [2,3,4,5,6,0,7])⟩)
 refine wIfF (bf b7) (wk (q (g (s (mp r) ?_))))
 obtain ⟨b,bC,m⟩:=bs m
 have hc:=(sp_checker_leave fu) (a.pr [1,2,3,4,5,6,7,8,9,10] [0,11] [1,2,3,4,5,6,7] r) (a.le aA) (a.le ap) (a.le aq) (a.le aB) (a.le aC) a.chg.size a.chg.size bC
 refine sc (ec cal97 r) hc ?_
 rintro _ bP ⟨E,F,b8,ae,af,aV,rfl,hK⟩
 replace a:=a.cl [1,2,3,4,5,6,7,8,9,10] [0,11] r hK r
 try dsimp only [pick,nth,ca,na] at a
 refine n (q (g (s (f82_2 r) (s (l70 r (a.bk 11 r) r) ?_))))
 obtain ⟨ak,bD,m⟩:=bs m
 have hc:=(sp_slices_Clone fu) (a.pr [] [0,1,2,3,4,5,6,7,8,9,10,11] [22] r)  bD
 refine sc (ec cal70 r) hc ?_
 rintro _ bQ ⟨B,C,bh,rfl,hK⟩
 have b6:=a.chg.size
 replace a:=a.cl [] [0,1,2,3,4,5,6,7,8,9,10,11] r hK r
 try dsimp only [pick,nth,ca,na] at a
 replace a:=a.reb 0 w0.heap.size r b6
 try dsimp only [List.set] at a
 refine s (xMvS r) (s (f82_2 r) (sTs (tb a 12 [Z B ak C] r ti70 r r r r r (show _=#[T I.Name,V I.Line,Z B ak C,Z ai I.Body aj] from r)) ?_))
 intro bR a
 try dsimp only [List.set] at a
 refine s (f82_3 r) (sTs (tb a 12 [Z L ay M] r ti80 r r r r r (show _=#[T I.Name,V I.Line,Z B ak C,Z L ay M] from r)) ?_)
 intro bS a
 try dsimp only [List.set] at a
 refine n (q (wDr a [12] [] [1,12] [] [14] (by kernel_rfl) ?_))
 replace a:=a.drew
 have S:=(a.ad [12] [])
 have hu:=(a.ad [1,12] [])
 refine pL 0 r (mp r) S hu (pL 1 r (mp r) S hu (pL 2 r (xn r) S hu (pL 3 r (f107_2 r) S hu (pL 4 r (f30_0 r) S hu (pL 5 r (f26_1 r) S hu (tS 1 6 r (fun _ hS=>l24 r (hS.bk 0 r) r) (sl_ S hu) (tU 7 r (fun _ hS=>xLoadS [T I.Name,V I.Line,Z B ak C,Z L ay M] u82_ r ti82 r r (Cells.part (hS.bk 0 r).cells (o2:=0) r)) (sl_ S hu) ?_)))))))
 replace a:=a.frz 0 0 r r
 try dsimp only [List.eraseIdx] at a
 replace a:=a.frz 10 8 r r
 try dsimp only [List.eraseIdx] at a
 refine hO 8 (oo r r (aRowB a [[T I.Name,V I.Line,Z B ak C,Z L ay M]] ([(⟨I.Name,I.Line,ak,ay⟩:Gn)]:List Gn) (bs24_1_a r) r r (by decide) ⟨(GFunc.inn ⟨B,C,L,M,r,(a.dl 1 r),(a.dl 0 r)⟩),y⟩) ?_)
 rintro _ bT ⟨bU,rfl,a⟩
 have S:=(a.ad [11] [])
 have hu:=(a.ad [1,11] [])
 refine ⟨(sl_ S hu),?_⟩
 obtain ⟨b9,bl,m⟩:=bs m
 refine hO 9 (oo r r (aAppB a 5 4 r r u24_ ti82 r (by decide) (by decide) ap r r (a.ysO 0 0 r r) bl) ?_)
 rintro _ bV ⟨b0,b2,bE,rfl,a⟩
 have S:=(a.ad [11] [])
 have hu:=(a.ad [1,11] [])
 refine ⟨(sl_ S hu),?_⟩
 refine pL 10 r (xn r) S hu (pL 11 r (f107_2 r) S hu (pL 12 r (f30_0 r) S hu (pL 13 r (f26_1 r) S hu ?_)))
 refine hO 14 (os r r (tb a 1 [Z b0 b9 b2] r ti24 r r r r r (show _=#[.map (some o),.map (some p),Z t b.source.Program.Records u,Z b0 b9 b2,Z c b.source.Vars d,Z N b.source.Stmts Q,Z z b.params A,Z E b.vars F,Z ae b.scope af,V b.current,V b.line] from r)) ?_)
 intro bW a
 try dsimp only [List.set] at a
 have S:=(a.ad [11] [])
 refine ⟨(sy 14 S),?_⟩
 refine hD (q (wDr a [] [] [1] [] [15] (by kernel_rfl) ?_))
 replace a:=a.drew
 have S:=(a.ad [] [])
 have hu:=(a.ad [1] [])
 refine pL 0 r (mp r) S hu (pL 1 r (mp r) S hu (pL 2 r (xn r) S hu (pL 3 r (f107_2 r) S hu (pL 4 r (f30_2 r) S hu (tS 1 5 r (fun _ hS=>l27 r (hS.bk 0 r) r) (sl_ S hu) (pL 6 r (mp r) S hu (pL 7 r (xn r) S hu (pL 8 r (f107_7 r) S hu (tS 1 9 r (fun _ hS=>l60 r (hS.bk 0 r) r) (sl_ S hu) ?_)))))))))
 replace a:=a.frz 9 8 r r
 try dsimp only [List.eraseIdx] at a
 refine hO 10 (oo r r (aRowB a [[Z E b.vars F]] ([b.vars]:List (List Gv)) (bs27_1_a r) r r (by decide) ⟨⟨E,F,r,(a.dl 0 r)⟩,y⟩) ?_)
 rintro _ bX ⟨bY,rfl,a⟩
 have S:=(a.ad [] [])
 have hu:=(a.ad [2] [])
 refine ⟨(sl_ S hu),?_⟩
 obtain ⟨bm,bn,m⟩:=bs m
 refine hO 11 (oo r r (aAppB a 7 7 r r u27_ ti60 r (by decide) (by decide) aq r r (a.ysO 0 0 r r) bn) ?_)
 rintro _ bZ ⟨ba,bb,bF,rfl,a⟩
 have S:=(a.ad [] [])
 have hu:=(a.ad [2] [])
 refine ⟨(sl_ S hu),?_⟩
 refine pL 12 r (xn r) S hu (pL 13 r (f107_2 r) S hu (pL 14 r (f30_2 r) S hu ?_))
 refine hO 15 (os r r (tb a 2 [Z ba bm bb] r ti27 r r r r r (show _=#[.map (some o),.map (some p),Z t b.source.Program.Records u,Z b0 b9 b2,Z ba bm bb,Z N b.source.Stmts Q,Z z b.params A,Z E b.vars F,Z ae b.scope af,V b.current,V b.line] from r)) ?_)
 intro c0 a
 try dsimp only [List.set] at a
 have S:=(a.ad [] [])
 refine ⟨(sy 15 S),?_⟩
 refine hD (q (g (s (xi r) (n (wRt ?_)))))
 replace a:=a.reb 10 aJ r aW
 try dsimp only [List.set] at a
 obtain rfl:=sm m
 refine resV1 r (rdT r) ?_
 exact pok (⟨b0,b2,bE,ba,bb,bF,N,Q,az,E,F,ae,af,aV,r,(a.ad [2,3,4,5,6,7,8,9,10] [5,6,7,8,9,1,10])⟩)
def Ct_checker_program (m:Gc→GProgram→Option (Int × Gc)):Prop:=∀ {w0:World} {am:Nat→Prop} {b:Gc} {x1:GProgram} {aj:Nat} {c:Nat} {d:Nat} {e:Option Addr} {f:Nat} {G:List (List Value)} {h:Nat} {i:Option Addr} {j:Nat} {H:List (List Value)} {k:Nat} {o:Option Addr} {p:Nat} {I:List (List Value)} {t:Nat} {u:Option Addr} {x:Nat} {J:List (List Value)} {z:Nat} {A:Option Addr} {B:Nat} {K:List (List Value)} {C:Nat} {L:Option Addr} {M:Nat} {D:Option Addr} {E:Nat} {N:List (List Value)} {F:Nat} {ae:Option Addr} {af:Nat} {ag:Option Addr} {ah:Nat} {R:Int × Gc},Pre w0 am [.box aj 107 #[.map (some c),.map (some d),Z e b.source.Program.Records f,Z i b.source.Program.Funcs j,Z o b.source.Vars p,Z u b.source.Stmts x,Z A b.params B,Z L b.vars M,Z D b.scope E,V b.current,V b.line],.map ekT evI c b.records,.map ekT evI d b.funcs,O h e f 127 Gr G,O k i j 82 Gn H,O t o p 60 (List Gv) I,O z u x 65 Gi J,O C A B 3 Int K,O F D E 3 Int N] [.els G b.source.Program.Records,.els H b.source.Program.Funcs,.els I b.source.Vars,.els J b.source.Stmts,.els K b.params,.l L M b.vars,.els N b.scope,.l ae af x1.Records,.l ag ah x1.Funcs]→h≤w0.heap.size→k≤w0.heap.size→t≤w0.heap.size→z≤w0.heap.size→C≤w0.heap.size→F≤w0.heap.size→m b x1=some R→
 Calls Try.prog 46 #[Pt aj,.agg #[Z ae x1.Records af,Z ag x1.Funcs ah]] w0 (Ret fun v w=>pel R fun r0 a=>∃ (P:OA)(Q:Nat)(S:LV)(U:OA)(W:Nat)(X:LV)(Y:OA)(a0:Nat)(a1:LV)(a2:OA)(a3:Nat)(a4:LV)(a5:OA)(a6:Nat)(a7:LV)(a8:OA)(a9:Nat)(aa:OA)(ab:Nat)(ac:LV),v=V r0∧Bx w0 w am (Gof [.box aj 107 #[.map (some c),.map (some d),Z e b.source.Program.Records f,Z i b.source.Program.Funcs j,Z o b.source.Vars p,Z u b.source.Stmts x,Z A b.params B,Z L b.vars M,Z D b.scope E,V b.current,V b.line],.map ekT evI c b.records,.map ekT evI d b.funcs,O h e f 127 Gr G,O k i j 82 Gn H,O t o p 60 (List Gv) I,O z u x 65 Gi J,O C A B 3 Int K,O F D E 3 Int N]) [.box aj 107 #[.map (some c),.map (some d),Z P a.source.Program.Records Q,Z U a.source.Program.Funcs W,Z Y a.source.Vars a0,Z a2 a.source.Stmts a3,Z a5 a.params a6,Z a8 a.vars a9,Z aa a.scope ab,V a.current,V a.line],.map ekT evI c a.records,.map ekT evI d a.funcs,O h P Q 127 Gr S,O k U W 82 Gn X,O t Y a0 60 (List Gv) a1,O z a2 a3 65 Gi a4,O C a5 a6 3 Int a7,O F aa ab 3 Int ac] [.els S a.source.Program.Records,.els X a.source.Program.Funcs,.els a1 a.source.Vars,.els a4 a.source.Stmts,.els a7 a.params,.l a8 a9 a.vars,.els ac a.scope])
def m_checker_program_L0 (fu:Nat)(a:Gc):List Gr→Nat→(List (BA × Int))→(List Gr)→Option (Ld (List (BA × Int) × List Gr) (Int × Gc))
 | [],_,b,c=>some (.go (b,c))
 | e :: j,h,b,c=>
 if 4≤(h:Int) then
  some (.out (5,(⟨b,a.funcs,(⟨(⟨c,a.source.Program.Funcs⟩:GProgram),a.source.Vars,a.source.Stmts⟩:GSource),a.params,a.vars,a.scope,a.current,a.line⟩:Gc)))
 else
  if 4 < (e.Fields.length:Int) then
   some (.out (5,(⟨b,a.funcs,(⟨(⟨c,a.source.Program.Funcs⟩:GProgram),a.source.Vars,a.source.Stmts⟩:GSource),a.params,a.vars,a.scope,a.current,a.line⟩:Gc)))
  else
   if (mget b e.Name).isSome=true then
    some (.out (9,(⟨b,a.funcs,(⟨(⟨c,a.source.Program.Funcs⟩:GProgram),a.source.Vars,a.source.Stmts⟩:GSource),a.params,a.vars,a.scope,a.current,a.line⟩:Gc)))
   else
    (m_checker_repeated fu e.Fields).bind fun f=>
    if f=true then
     some (.out (9,(⟨b,a.funcs,(⟨(⟨c,a.source.Program.Funcs⟩:GProgram),a.source.Vars,a.source.Stmts⟩:GSource),a.params,a.vars,a.scope,a.current,a.line⟩:Gc)))
    else
     (m_slices_Clone fu e.Fields).bind fun d=>
     (app c ([(⟨e.Name,d⟩:Gr)]:List Gr)).bind fun i=>
     m_checker_program_L0 fu a j (h+1) (mput b e.Name (h:Int)) i
def m_checker_program_L1 (fu:Nat)(c:Gc) (e:List (BA × Int)) (f:List Gr):List Gn→Nat→Int→(List (BA × Int))→(List Int)→Option (Ld (Int × List (BA × Int) × List Int) (Int × Gc))
 | [],_,h,a,b=>some (.go (h,a,b))
 | d :: j,i,h,a,b=>
 if 8≤(i:Int) then
  some (.out (5,(⟨e,a,(⟨(⟨f,c.source.Program.Funcs⟩:GProgram),c.source.Vars,c.source.Stmts⟩:GSource),b,c.vars,c.scope,c.current,d.Line⟩:Gc)))
 else
  if (mget a d.Name).isSome=true then
   some (.out (9,(⟨e,a,(⟨(⟨f,c.source.Program.Funcs⟩:GProgram),c.source.Vars,c.source.Stmts⟩:GSource),b,c.vars,c.scope,c.current,d.Line⟩:Gc)))
  else
   (app b ([(d.Params.length:Int)]:List Int)).bind fun k=>
   m_checker_program_L1 fu c e f j (i+1) d.Line (mput a d.Name (i:Int)) k
def m_checker_program_L2 (fu:Nat):List Gn→Nat→(List Gv)→Int→Int→(List (BA × Int))→(List (BA × Int))→(List Gr)→(List Gn)→(List (List Gv))→(List Gi)→(List Int)→(List Int)→Option (Ld (List Gv × Int × Int × List (BA × Int) × List (BA × Int) × List Gr × List Gn × List (List Gv) × List Gi × List Int × List Int) (Int × Gc))
 | [],_,d,e,f,h,i,j,k,l,m,b,c=>some (.go (d,e,f,h,i,j,k,l,m,b,c))
 | t :: u,p,d,e,f,h,i,j,k,l,m,b,c=>
 (m_checker_function fu (⟨h,i,(⟨(⟨j,k⟩:GProgram),l,m⟩:GSource),b,d,c,e,f⟩:Gc) (p:Int) t).bind fun v=>
 pel v fun o a=>
 if o≠0 then
  some (.out (o,a))
 else
  m_checker_program_L2 fu u (p+1) a.vars a.current a.line a.records a.funcs a.source.Program.Records a.source.Program.Funcs a.source.Vars a.source.Stmts a.params a.scope
def m_checker_program (fu:Nat)(a:Gc) (x:GProgram):Option (Int × Gc):=
 (m_checker_program_L0 fu a x.Records 0 a.records a.source.Program.Records).bind fun z=>z.el (fun z=>
 pel z fun d e=>
 (m_checker_program_L1 fu a d e x.Funcs 0 a.line a.funcs a.params).bind fun z=>z.el (fun z=>
 pel z fun f z=>pel z fun h i=>
 (m_checker_program_L2 fu x.Funcs 0 a.vars a.current f d h e a.source.Program.Funcs a.source.Vars a.source.Stmts i a.scope).bind fun z=>z.el (fun z=>
 pel z fun j z=>pel z fun k z=>pel z fun l z=>pel z fun m z=>pel z fun p z=>pel z fun t z=>pel z fun u z=>pel z fun v z=>pel z fun w z=>pel z fun b c=>
 some (0,(⟨m,p,(⟨(⟨t,u⟩:GProgram),v,w⟩:GSource),b,j,c,k,l⟩:Gc))
 ) (fun o=>some o)
 ) (fun o=>some o)
 ) (fun o=>some o)
theorem sp_checker_program (fu:Nat):Ct_checker_program (m_checker_program fu):=by
 intro w0 dg h x1 aP I J bl bm bv aI p t K aJ v x L aK A B M aL a5 a6 aq aM F H C D N aN ar au a0 a1 R hP bn bC bD bE bo bF Q
 unfold m_checker_program at Q
 have a:=hP.bx
 clear hP
 generalize hG:Gof _=G at a ⊢
 refine cf Try.func46 r ?_
 refine wCut [(0,Pt aP),(1,.agg #[Z ar x1.Records au,Z a0 x1.Funcs a1])] ⟨r,r,y⟩ fun dh=>?_
 refine q (g (sTo (aNewB a (mBox r)) ?_))
 rintro _ w1 ⟨b1,rfl,a⟩
 refine s (xi r) (n (q (q (g (s (f26_0 r) (s (l23 r (a.bk 0 r) r) (s (xLnR u23_ r) (s (mi r) (n ?_)))))))))
 have cE:=(a.dl 7 r).bd
 obtain ⟨Y2,S,Q⟩:=bs Q
 refine wJd (fun f w=>∃ (am:List (BA × Int)) (Y:List Gr) (b:OA)(c:Nat)(e:LV),Has f [(0,Pt aP),(3,Pt b1)]∧Bx w0 w dg G [.box b1 26 #[Z ar x1.Records au,Z a0 x1.Funcs a1],.box aP 107 #[.map (some I),.map (some J),Z b Y c,Z p h.source.Program.Funcs t,Z v h.source.Vars x,Z A h.source.Stmts B,Z a5 h.params a6,Z F h.vars H,Z C h.scope D,V h.current,V h.line],.map ekT evI I am,.map ekT evI J h.funcs,O aI b c 127 Gr e,O aJ p t 82 Gn K,O aK v x 60 (List Gv) L,O aL A B 65 Gi M,O aM a5 a6 3 Int aq,O aN C D 3 Int N] [.els e Y,.els K h.source.Program.Funcs,.els L h.source.Vars,.els M h.source.Stmts,.els aq h.params,.l F H h.vars,.els N h.scope,.l ar au x1.Records,.l a0 a1 x1.Funcs]∧Ld.go (am,Y)=Y2) (fun J2 ch=>?_) ?_
 ·refine wBk (wLoopGd (fun di f w=>∃ (k2:Nat)(am:List (BA × Int)) (Y:List Gr) (b:OA)(c:Nat)(e:LV),di=x1.Records.length - k2∧k2≤x1.Records.length∧Has f [(19,V (k2:Int)),(0,Pt aP),(3,Pt b1),(17,Z ar x1.Records au),(18,V (x1.Records.length:Int))]∧Bx w0 w dg G [.box b1 26 #[Z ar x1.Records au,Z a0 x1.Funcs a1],.box aP 107 #[.map (some I),.map (some J),Z b Y c,Z p h.source.Program.Funcs t,Z v h.source.Vars x,Z A h.source.Stmts B,Z a5 h.params a6,Z F h.vars H,Z C h.scope D,V h.current,V h.line],.map ekT evI I am,.map ekT evI J h.funcs,O aI b c 127 Gr e,O aJ p t 82 Gn K,O aK v x 60 (List Gv) L,O aL A B 65 Gi M,O aM a5 a6 3 Int aq,O aN C D 3 Int N] [.els e Y,.els K h.source.Program.Funcs,.els L h.source.Vars,.els M h.source.Stmts,.els aq h.params,.l F H h.vars,.els N h.scope,.l ar au x1.Records,.l a0 a1 x1.Funcs]∧m_checker_program_L0 fu h (x1.Records.drop k2) k2 am Y=some Y2) (x1.Records.length) ⟨0,h.records,h.source.Program.Records,bl,bm,bv,r,Nat.zero_le _,⟨r,r,r,r,r,y⟩,a,S⟩ ?_)
  clear a S
  rintro di f w ⟨k2,am,Y,b,c,e,rfl,cF,hf,a,S⟩ K2 ci
  obtain ⟨dh,rfl⟩:=has_updL _ _ hf
  clear hf
  rcases Nat.lt_or_ge k2 x1.Records.length with bY | bY
  ·obtain ⟨u2,bK⟩:=get_ex (l:=x1.Records) bY
   rw [drop_id bK,m_checker_program_L0] at S
   obtain ⟨cG,cj,a⟩:=a.nm 7 rfl bK
   obtain ⟨bq,br,rfl,bZ⟩:=GRecord.out cj
   replace a:=a.dadd (d:=.l bq br u2.Fields) bZ
   refine q (g (s (xLssT r r (by omega)) (n (q (wIfT r (wk (q (wBk (q (g (s (mi r) (s (xIdR u23_ ti127 r r r (a.dl 9 r) bK) (s (xLoadS [T u2.Name,Z bq u2.Fields br] u127_ r ti127 r r (a.dc 1 r)) ?_)))))))))))))
   refine sTo (aNewB a (mAlloc ti127)) ?_
   rintro _ w4 ⟨b4,rfl,a⟩
   refine s (xi r) (sTs (tb a 0 [T u2.Name,Z bq u2.Fields br] r ti127 r r r r r (show _=#[T u2.Name,Z bq u2.Fields br] from r)) ?_)
   intro w5 a
   try dsimp only [List.set] at a
   refine n (q (q (g (s (mi r) (s (xGeq r r) (s (xMvB r) ?_))))))
   rcases iv S with ⟨h6,S⟩|⟨h6,S⟩
   ·rw [decide_eq_true h6]
    refine sNo r (sNo r (sNo r (sNo r (s (xPkTB r r) (n (wIfT r (q (g (s (xi r) (n (wRt ?_)))))))))))
    obtain rfl:=sm S
    replace Q:=oi Q
    obtain rfl:=sm Q
    refine resV1 r (rdT r) ?_
    exact pok (⟨b,c,e,p,t,K,v,x,L,A,B,M,a5,a6,aq,F,H,C,D,N,r,(a.ad [2,3,4,5,6,7,8,9,10] [2,3,4,5,6,7,8])⟩)
   rw [decide_eq_false h6]
   refine sGo r (s (f127_1 r) (sGo r (s (l70 r (a.bk 0 r) r) (sGo r (s (xLnR u70_ r) (sGo r (s (xGtr r r) (s (xPkFB r r) (n ?_)))))))))
   rcases iv S with ⟨h7,S⟩|⟨h7,S⟩
   ·refine wIfT (bt h7) (q (g (s (xi r) (n (wRt ?_)))))
    obtain rfl:=sm S
    replace Q:=oi Q
    obtain rfl:=sm Q
    refine resV1 r (rdT r) ?_
    exact pok (⟨b,c,e,p,t,K,v,x,L,A,B,M,a5,a6,aq,F,H,C,D,N,r,(a.ad [2,3,4,5,6,7,8,9,10] [2,3,4,5,6,7,8])⟩)
   refine wIfF (bf h7) (wk (q (q (wDr1 a [0,2,3] [] [] (by kernel_rfl) ?_))))
   replace a:=a.drew
   have E:=(a.ad [0,2,3] [])
   refine pF 0 r (mp r) E (pF 1 r (xn r) E (pF 2 r (f107_0 r) E (uF 3 r (fun hS=>l105 r (hS.bk 1 r) r) E (pF 4 r (f127_0 r) E (uF 5 r (fun hS=>l9 r (hS.bk 0 r) r) E (uF 6 r (fun hS=>xLook (ek:=ekT) (ev:=evI) (l:=am) (k:=u2.Name) (z:=0) u105_ (fk_txt u9_) (zv_of ti3) (hS.mp 2 r) r r) E (pF 7 r (xMove) E (pF 8 r (xExtract r r) E (pF 9 r (xExtract r r) E (pF 10 r (xi r) E (pF 11 r (xAsB r) E (hD (q ?_)))))))))))))
   refine g (s (xMvB r) (s (xMvB r) ?_))
   rcases iv S with ⟨h8,S⟩|⟨h8,S⟩
   ·rw [h8]
    refine sNo r (sNo r (sNo r (s (xPkTB r r) (n (wIfT r (q (g (s (xi r) (n (wRt ?_))))))))))
    obtain rfl:=sm S
    replace Q:=oi Q
    obtain rfl:=sm Q
    refine resV1 r (rdT r) ?_
    exact pok (⟨b,c,e,p,t,K,v,x,L,A,B,M,a5,a6,aq,F,H,C,D,N,r,(a.ad [2,3,4,5,6,7,8,9,10] [2,3,4,5,6,7,8])⟩)
   replace h8:=nt h8
   rw [h8]
   refine sGo r (s (f127_1 r) (sGo r (s (l70 r (a.bk 0 r) r) ?_)))
   obtain ⟨cx,h9,S⟩:=bs S
   refine sGo r ?_
   have hc:=(sp_checker_repeated fu) (a.pr [] [0,1,2,3,4,5,6,7,8,9,10] [0] r)  h9
   refine sc (ec cal69 r) hc ?_
   rintro _ w9 ⟨rfl,hK⟩
   replace a:=a.cl [] [0,1,2,3,4,5,6,7,8,9,10] r hK r
   try dsimp only [pick,nth,ca,na] at a
   refine s (xPkFB r r) (n ?_)
   rcases iv S with ⟨bw,S⟩|⟨bw,S⟩
   ·refine wIfT (cb bw) (q (g (s (xi r) (n (wRt ?_)))))
    obtain rfl:=sm S
    replace Q:=oi Q
    obtain rfl:=sm Q
    refine resV1 r (rdT r) ?_
    exact pok (⟨b,c,e,p,t,K,v,x,L,A,B,M,a5,a6,aq,F,H,C,D,N,r,(a.ad [2,3,4,5,6,7,8,9,10] [2,3,4,5,6,7,8])⟩)
   replace bw:=nt bw
   refine wIfF (cb bw) (wk (q (wDr1 a [0,2] [] [] (by kernel_rfl) ?_)))
   replace a:=a.drew
   have E:=(a.ad [0,2] [])
   refine pF 0 r (mp r) E (pF 1 r (xn r) E (pF 2 r (f107_0 r) E (uF 3 r (fun hS=>l105 r (hS.bk 1 r) r) E (pF 4 r (f127_0 r) E (uF 5 r (fun hS=>l9 r (hS.bk 0 r) r) E (pF 6 r (mi r) E ?_))))))
   refine hO 7 (os r r (tUpdB a 3 (ek:=ekT) (ev:=evI) (l:=am) (k:=u2.Name) (u:=(k2:Int)) r u105_ (fk_txt u9_) r r r) ?_)
   intro cI a
   try dsimp only [List.set] at a
   have E:=(a.ad [0,2] [])
   refine ⟨(sF E),?_⟩
   refine hD (q (g (s (f127_1 r) (s (l70 r (a.bk 0 r) r) ?_))))
   obtain ⟨aR,cn,S⟩:=bs S
   have hc:=(sp_slices_Clone fu) (a.pr [] [0,1,2,3,4,5,6,7,8,9,10] [0] r)  cn
   refine sc (ec cal70 r) hc ?_
   rintro _ cJ ⟨aA,aB,bX,rfl,hK⟩
   have co:=a.chg.size
   replace a:=a.cl [] [0,1,2,3,4,5,6,7,8,9,10] r hK r
   try dsimp only [pick,nth,ca,na] at a
   replace a:=a.reb 0 w0.heap.size r co
   try dsimp only [List.set] at a
   refine s (f127_1 r) (sTs (tb a 1 [Z aA aR aB] r ti70 r r r r r (show _=#[T u2.Name,Z aA aR aB] from r)) ?_)
   intro cK a
   try dsimp only [List.set] at a
   refine n (wDr a [1] [] [1,3] [] [14] (by kernel_rfl) ?_)
   replace a:=a.drew
   have E:=(a.ad [1] [])
   have hu:=(a.ad [1,3] [])
   refine pL 0 r (mp r) E hu (pL 1 r (mp r) E hu (pL 2 r (xn r) E hu (pL 3 r (f107_2 r) E hu (pL 4 r (f30_0 r) E hu (pL 5 r (f26_0 r) E hu (tS 1 6 r (fun _ hS=>l23 r (hS.bk 1 r) r) (sl_ E hu) (tU 7 r (fun _ hS=>xLoadS [T u2.Name,Z aA aR aB] u127_ r ti127 r r (Cells.part (hS.bk 0 r).cells (o2:=0) r)) (sl_ E hu) ?_)))))))
   replace a:=a.frz 0 0 r r
   try dsimp only [List.eraseIdx] at a
   refine hO 8 (oo r r (aRowB a [[T u2.Name,Z aA aR aB]] ([(⟨u2.Name,aR⟩:Gr)]:List Gr) (bs23_1_a r) r r (by decide) ⟨(GRecord.inn ⟨aA,aB,r,(a.dl 0 r)⟩),y⟩) ?_)
   rintro _ cM ⟨cN,rfl,a⟩
   have E:=(a.ad [1] [])
   have hu:=(a.ad [1,3] [])
   refine ⟨(sl_ E hu),?_⟩
   obtain ⟨bL,c2,S⟩:=bs S
   refine hO 9 (oo r r (aAppB a 6 4 r r u23_ ti127 r (by decide) (by decide) bn r r (a.ysO 0 0 r r) c2) ?_)
   rintro _ cO ⟨bM,bN,cp,rfl,a⟩
   have E:=(a.ad [1] [])
   have hu:=(a.ad [1,3] [])
   refine ⟨(sl_ E hu),?_⟩
   refine pL 10 r (xn r) E hu (pL 11 r (f107_2 r) E hu (pL 12 r (f30_0 r) E hu (pL 13 r (f26_0 r) E hu ?_)))
   refine hO 14 (os r r (tb a 3 [Z bM bL bN] r ti23 r r r r r (show _=#[.map (some I),.map (some J),Z bM bL bN,Z p h.source.Program.Funcs t,Z v h.source.Vars x,Z A h.source.Stmts B,Z a5 h.params a6,Z F h.vars H,Z C h.scope D,V h.current,V h.line] from r)) ?_)
   intro cP a
   try dsimp only [List.set] at a
   have E:=(a.ad [1] [])
   refine ⟨(sy 14 E),?_⟩
   refine hD (g (s (xAdd64 r r (by omega) (by omega)) (s (mi r) (n ?_))))
   exact ci (x1.Records.length - (k2+1)) _ _ (by omega) ⟨k2+1,(mput am u2.Name (k2:Int)),bL,bM,bN,cp,r,by omega,⟨r,r,r,r,r,y⟩,(a.ad [2,3,4,5,6,7,8,9,10,11] [4,5,6,7,8,9,10,11,12]),S⟩
  obtain rfl:k2=x1.Records.length:=by omega
  rw [drop_end,m_checker_program_L0] at S
  refine q (g (s (xLssF r r (by omega)) (n (q (wIfF r (wEx ?_))))))
  exact ch _ _ ⟨am,Y,b,c,e,⟨r,r,y⟩,a,sm S⟩
 clear a
 rintro f w ⟨am,Y,b,c,e,hf,a,cq⟩
 obtain ⟨dh,rfl⟩:=has_updL _ _ hf
 clear hf
 subst cq
 replace Q:=gi Q
 replace Q:=pi Q
 refine q (q (g (s (f26_1 r) (s (l24 r (a.bk 0 r) r) (s (xLnR u24_ r) (s (mi r) (n ?_)))))))
 have cy:=(a.dl 8 r).bd
 obtain ⟨c3,a4,Q⟩:=bs Q
 refine wJd (fun f w=>∃ (aC:Int)(a7:List (BA × Int)) (a8:List Int) (j:OA)(m:Nat)(o:LV),Has f [(0,Pt aP),(3,Pt b1)]∧Bx w0 w dg G [.box b1 26 #[Z ar x1.Records au,Z a0 x1.Funcs a1],.box aP 107 #[.map (some I),.map (some J),Z b Y c,Z p h.source.Program.Funcs t,Z v h.source.Vars x,Z A h.source.Stmts B,Z j a8 m,Z F h.vars H,Z C h.scope D,V h.current,V aC],.map ekT evI I am,.map ekT evI J a7,O aI b c 127 Gr e,O aJ p t 82 Gn K,O aK v x 60 (List Gv) L,O aL A B 65 Gi M,O aM j m 3 Int o,O aN C D 3 Int N] [.els e Y,.els K h.source.Program.Funcs,.els L h.source.Vars,.els M h.source.Stmts,.els o a8,.l F H h.vars,.els N h.scope,.l ar au x1.Records,.l a0 a1 x1.Funcs]∧Ld.go (aC,a7,a8)=c3) (fun cQ c4=>?_) ?_
 ·refine wBk (wLoopGd (fun di f w=>∃ (aQ:Nat)(aC:Int)(a7:List (BA × Int)) (a8:List Int) (j:OA)(m:Nat)(o:LV),di=x1.Funcs.length - aQ∧aQ≤x1.Funcs.length∧Has f [(77,V (aQ:Int)),(0,Pt aP),(3,Pt b1),(75,Z a0 x1.Funcs a1),(76,V (x1.Funcs.length:Int))]∧Bx w0 w dg G [.box b1 26 #[Z ar x1.Records au,Z a0 x1.Funcs a1],.box aP 107 #[.map (some I),.map (some J),Z b Y c,Z p h.source.Program.Funcs t,Z v h.source.Vars x,Z A h.source.Stmts B,Z j a8 m,Z F h.vars H,Z C h.scope D,V h.current,V aC],.map ekT evI I am,.map ekT evI J a7,O aI b c 127 Gr e,O aJ p t 82 Gn K,O aK v x 60 (List Gv) L,O aL A B 65 Gi M,O aM j m 3 Int o,O aN C D 3 Int N] [.els e Y,.els K h.source.Program.Funcs,.els L h.source.Vars,.els M h.source.Stmts,.els o a8,.l F H h.vars,.els N h.scope,.l ar au x1.Records,.l a0 a1 x1.Funcs]∧m_checker_program_L1 fu h am Y (x1.Funcs.drop aQ) aQ aC a7 a8=some c3) (x1.Funcs.length) ⟨0,h.line,h.funcs,h.params,a5,a6,aq,r,Nat.zero_le _,⟨r,r,r,r,r,y⟩,a,a4⟩ ?_)
  clear a a4
  rintro di f w ⟨aQ,aC,a7,a8,j,m,o,rfl,cz,hf,a,a4⟩ cR c5
  obtain ⟨dh,rfl⟩:=has_updL _ _ hf
  clear hf
  rcases Nat.lt_or_ge aQ x1.Funcs.length with bH | bH
  ·obtain ⟨an,bz⟩:=get_ex (l:=x1.Funcs) bH
   rw [drop_id bz,m_checker_program_L1] at a4
   obtain ⟨cA,c6,a⟩:=a.nm 8 rfl bz
   obtain ⟨bg,bh,bi,bj,rfl,bO,bP⟩:=GFunc.out c6
   replace a:=a.dadd (d:=.l bg bh an.Params) bO
   replace a:=a.dadd (d:=.l bi bj an.Body) bP
   refine q (g (s (xLssT r r (by omega)) (n (q (wIfT r (wk (q (wBk (q (g (s (mi r) (s (xIdR u24_ ti82 r r r (a.dl 11 r) bz) (s (xLoadS [T an.Name,V an.Line,Z bg an.Params bh,Z bi an.Body bj] u82_ r ti82 r r (a.dc 2 r)) ?_)))))))))))))
   refine sTo (aNewB a (mAlloc ti82)) ?_
   rintro _ cS ⟨cT,rfl,a⟩
   refine s (xi r) (sTs (tb a 0 [T an.Name,V an.Line,Z bg an.Params bh,Z bi an.Body bj] r ti82 r r r r r (show _=#[T an.Name,V an.Line,Z bg an.Params bh,Z bi an.Body bj] from r)) ?_)
   intro cU a
   try dsimp only [List.set] at a
   refine n (q (g (s (mp r) (s (f82_1 r) (s (l3 r (a.bk 0 r) r) (s (xn r) (s (f107_10 r) (sTs (tb a 2 [V an.Line] r ti3 r r r r r (show _=#[.map (some I),.map (some J),Z b Y c,Z p h.source.Program.Funcs t,Z v h.source.Vars x,Z A h.source.Stmts B,Z j a8 m,Z F h.vars H,Z C h.scope D,V h.current,V an.Line] from r)) ?_))))))))
   intro cV a
   try dsimp only [List.set] at a
   refine n (q (q (g (s (mi r) (s (xGeq r r) (n ?_))))))
   rcases iv a4 with ⟨bQ,a4⟩|⟨bQ,a4⟩
   ·refine wIfT (bt bQ) (q (g (s (xi r) (n (wRt ?_)))))
    obtain rfl:=sm a4
    replace Q:=oi Q
    obtain rfl:=sm Q
    refine resV1 r (rdT r) ?_
    exact pok (⟨b,c,e,p,t,K,v,x,L,A,B,M,j,m,o,F,H,C,D,N,r,(a.ad [2,3,4,5,6,7,8,9,10] [3,4,5,6,7,8,9])⟩)
   refine wIfF (bf bQ) (wk (q (q (wDr1 a [0,2,4] [] [] (by kernel_rfl) ?_))))
   replace a:=a.drew
   have E:=(a.ad [0,2,4] [])
   refine pF 0 r (mp r) E (pF 1 r (xn r) E (pF 2 r (f107_1 r) E (uF 3 r (fun hS=>l105 r (hS.bk 1 r) r) E (pF 4 r (f82_0 r) E (uF 5 r (fun hS=>l9 r (hS.bk 0 r) r) E (uF 6 r (fun hS=>xLook (ek:=ekT) (ev:=evI) (l:=a7) (k:=an.Name) (z:=0) u105_ (fk_txt u9_) (zv_of ti3) (hS.mp 2 r) r r) E (pF 7 r (xMove) E (pF 8 r (xExtract r r) E (pF 9 r (xExtract r r) E (pF 10 r (xi r) E (pF 11 r (xAsB r) E (hD (q ?_)))))))))))))
   refine g (s (xMvB r) (n ?_))
   rcases iv a4 with ⟨bA,a4⟩|⟨bA,a4⟩
   ·refine wIfT (cb bA) (q (g (s (xi r) (n (wRt ?_)))))
    obtain rfl:=sm a4
    replace Q:=oi Q
    obtain rfl:=sm Q
    refine resV1 r (rdT r) ?_
    exact pok (⟨b,c,e,p,t,K,v,x,L,A,B,M,j,m,o,F,H,C,D,N,r,(a.ad [2,3,4,5,6,7,8,9,10] [3,4,5,6,7,8,9])⟩)
   replace bA:=nt bA
   refine wIfF (cb bA) (wk (q (wDr1 a [0,2] [] [] (by kernel_rfl) ?_)))
   replace a:=a.drew
   have E:=(a.ad [0,2] [])
   refine pF 0 r (mp r) E (pF 1 r (xn r) E (pF 2 r (f107_1 r) E (uF 3 r (fun hS=>l105 r (hS.bk 1 r) r) E (pF 4 r (f82_0 r) E (uF 5 r (fun hS=>l9 r (hS.bk 0 r) r) E (pF 6 r (mi r) E ?_))))))
   refine hO 7 (os r r (tUpdB a 4 (ek:=ekT) (ev:=evI) (l:=a7) (k:=an.Name) (u:=(aQ:Int)) r u105_ (fk_txt u9_) r r r) ?_)
   intro cW a
   try dsimp only [List.set] at a
   have E:=(a.ad [0,2] [])
   refine ⟨(sF E),?_⟩
   refine hD (wDr a [0] [] [0,2] [] [12] (by kernel_rfl) ?_)
   replace a:=a.drew
   have E:=(a.ad [0] [])
   have hu:=(a.ad [0,2] [])
   refine pL 0 r (mp r) E hu (pL 1 r (mp r) E hu (pL 2 r (xn r) E hu (pL 3 r (f107_6 r) E hu (tS 1 4 r (fun _ hS=>l22 r (hS.bk 1 r) r) (sl_ E hu) (pL 5 r (f82_2 r) E hu (tU 6 r (fun _ hS=>l70 r (hS.bk 0 r) r) (sl_ E hu) (pL 7 r (xLnR u70_ r) E hu ?_)))))))
   refine hO 8 (oo r r (aRowB a [[V (an.Params.length:Int)]] ([(an.Params.length:Int)]:List Int) (bs22_1_a r) r r (by decide) ⟨r,y⟩) ?_)
   rintro _ cX ⟨cY,rfl,a⟩
   have E:=(a.ad [1] [])
   have hu:=(a.ad [1,3] [])
   refine ⟨(sl_ E hu),?_⟩
   obtain ⟨bR,c7,a4⟩:=bs a4
   refine hO 9 (oo r r (aAppB a 10 8 r r u22_ ti3 r (by decide) (by decide) bo r r (a.ysO 0 0 r r) c7) ?_)
   rintro _ cZ ⟨bS,bT,cr,rfl,a⟩
   have E:=(a.ad [1] [])
   have hu:=(a.ad [1,3] [])
   refine ⟨(sl_ E hu),?_⟩
   refine pL 10 r (xn r) E hu (pL 11 r (f107_6 r) E hu ?_)
   refine hO 12 (os r r (tb a 3 [Z bS bR bT] r ti22 r r r r r (show _=#[.map (some I),.map (some J),Z b Y c,Z p h.source.Program.Funcs t,Z v h.source.Vars x,Z A h.source.Stmts B,Z bS bR bT,Z F h.vars H,Z C h.scope D,V h.current,V an.Line] from r)) ?_)
   intro d0 a
   try dsimp only [List.set] at a
   have E:=(a.ad [1] [])
   refine ⟨(sy 12 E),?_⟩
   refine hD (g (s (xAdd64 r r (by omega) (by omega)) (s (mi r) (n ?_))))
   exact c5 (x1.Funcs.length - (aQ+1)) _ _ (by omega) ⟨aQ+1,an.Line,(mput a7 an.Name (aQ:Int)),bR,bS,bT,cr,r,by omega,⟨r,r,r,r,r,y⟩,(a.ad [2,3,4,5,6,7,8,9,10,11] [4,5,6,7,8,9,10,11,12]),a4⟩
  obtain rfl:aQ=x1.Funcs.length:=by omega
  rw [drop_end,m_checker_program_L1] at a4
  refine q (g (s (xLssF r r (by omega)) (n (q (wIfF r (wEx ?_))))))
  exact c4 _ _ ⟨aC,a7,a8,j,m,o,⟨r,r,y⟩,a,sm a4⟩
 clear a
 rintro f w ⟨aC,a7,a8,j,m,o,hf,a,c8⟩
 obtain ⟨dh,rfl⟩:=has_updL _ _ hf
 clear hf
 subst c8
 replace Q:=gi Q
 replace Q:=pi Q
 replace Q:=pi Q
 refine q (q (g (s (f26_1 r) (s (l24 r (a.bk 0 r) r) (s (xLnR u24_ r) (s (mi r) (n ?_)))))))
 have cB:=(a.dl 8 r).bd
 obtain ⟨c9,ao,Q⟩:=bs Q
 refine wJd (fun f w=>∃ (av:List Gv) (aa:OA)(ab:Nat)(aE:Int)(aF:Int)(aG:List (BA × Int)) (aH:List (BA × Int)) (aw:List Gr) (ax:List Gn) (ac:OA)(ae:Nat)(af:LV)(ay:List (List Gv)) (ag:OA)(ah:Nat)(ai:LV)(az:List Gi) (aj:OA)(ak:Nat)(al:LV)(a2:List Int) (a3:List Int) (U:OA)(W:Nat)(X:LV),Has f []∧Bx w0 w dg G [.box aP 107 #[.map (some I),.map (some J),Z b aw c,Z ac ax ae,Z ag ay ah,Z aj az ak,Z j a2 m,Z aa av ab,Z U a3 W,V aE,V aF],.map ekT evI I aG,.map ekT evI J aH,O aI b c 127 Gr e,O aJ ac ae 82 Gn af,O aK ag ah 60 (List Gv) ai,O aL aj ak 65 Gi al,O aM j m 3 Int o,O aN U W 3 Int X] [.l aa ab av,.els e aw,.els af ax,.els ai ay,.els al az,.els o a2,.els X a3,.l a0 a1 x1.Funcs]∧Ld.go (av,aE,aF,aG,aH,aw,ax,ay,az,a2,a3)=c9) (fun d1 cc=>?_) ?_
 ·refine wBk (wLoopGd (fun di f w=>∃ (bc:Nat)(av:List Gv) (aa:OA)(ab:Nat)(aE:Int)(aF:Int)(aG:List (BA × Int)) (aH:List (BA × Int)) (aw:List Gr) (ax:List Gn) (ac:OA)(ae:Nat)(af:LV)(ay:List (List Gv)) (ag:OA)(ah:Nat)(ai:LV)(az:List Gi) (aj:OA)(ak:Nat)(al:LV)(a2:List Int) (a3:List Int) (U:OA)(W:Nat)(X:LV),di=x1.Funcs.length - bc∧bc≤x1.Funcs.length∧Has f [(123,V (bc:Int)),(0,Pt aP),(121,Z a0 x1.Funcs a1),(122,V (x1.Funcs.length:Int))]∧Bx w0 w dg G [.box aP 107 #[.map (some I),.map (some J),Z b aw c,Z ac ax ae,Z ag ay ah,Z aj az ak,Z j a2 m,Z aa av ab,Z U a3 W,V aE,V aF],.map ekT evI I aG,.map ekT evI J aH,O aI b c 127 Gr e,O aJ ac ae 82 Gn af,O aK ag ah 60 (List Gv) ai,O aL aj ak 65 Gi al,O aM j m 3 Int o,O aN U W 3 Int X] [.l aa ab av,.els e aw,.els af ax,.els ai ay,.els al az,.els o a2,.els X a3,.l a0 a1 x1.Funcs]∧m_checker_program_L2 fu (x1.Funcs.drop bc) bc av aE aF aG aH aw ax ay az a2 a3=some c9) (x1.Funcs.length) ⟨0,h.vars,F,H,h.current,aC,am,a7,Y,h.source.Program.Funcs,p,t,K,h.source.Vars,v,x,L,h.source.Stmts,A,B,M,a8,h.scope,C,D,N,r,Nat.zero_le _,⟨r,r,r,r,y⟩,(a.ad [1,2,3,4,5,6,7,8,9] [5,0,1,2,3,4,6,8]),ao⟩ ?_)
  clear a ao
  rintro di f w ⟨bc,av,aa,ab,aE,aF,aG,aH,aw,ax,ac,ae,af,ay,ag,ah,ai,az,aj,ak,al,a2,a3,U,W,X,rfl,cC,hf,a,ao⟩ d2 cd
  obtain ⟨dh,rfl⟩:=has_updL _ _ hf
  clear hf
  rcases Nat.lt_or_ge bc x1.Funcs.length with bI | bI
  ·obtain ⟨aD,bB⟩:=get_ex (l:=x1.Funcs) bI
   rw [drop_id bB,m_checker_program_L2] at ao
   obtain ⟨cD,ce,a⟩:=a.nm 7 rfl bB
   obtain ⟨aS,aT,aU,aV,rfl,bU,bV⟩:=GFunc.out ce
   replace a:=a.dadd (d:=.l aS aT aD.Params) bU
   replace a:=a.dadd (d:=.l aU aV aD.Body) bV
   refine q (g (s (xLssT r r (by omega)) (n (q (wIfT r (wk (q (wBk (q (g (s (mi r) (s (xIdR u24_ ti82 r r r (a.dl 10 r) bB) (s (xLoadS [T aD.Name,V aD.Line,Z aS aD.Params aT,Z aU aD.Body aV] u82_ r ti82 r r (a.dc 2 r)) ?_)))))))))))))
   refine sTo (aNewB a (mAlloc ti82)) ?_
   rintro _ d3 ⟨d4,rfl,a⟩
   refine s (xi r) (sTs (tb a 0 [T aD.Name,V aD.Line,Z aS aD.Params aT,Z aU aD.Body aV] r ti82 r r r r r (show _=#[T aD.Name,V aD.Line,Z aS aD.Params aT,Z aU aD.Body aV] from r)) ?_)
   intro d5 a
   try dsimp only [List.set] at a
   refine n (q (g (s (mp r) (s (mi r) (s (xLoadS [T aD.Name,V aD.Line,Z aS aD.Params aT,Z aU aD.Body aV] u82_ r ti82 r r (Cells.part (a.bk 0 r).cells (o2:=0) r)) ?_)))))
   obtain ⟨⟨ct,ap⟩,cu,ao⟩:=bs ao
   replace ao:=pi ao
   have hc:=(sp_checker_function fu) (a.pr [1,2,3,4,5,6,7,8,9] [0] [4,5,6,7,8,3,9,1,0] r) (a.le bn) (a.le bC) (a.le bD) (a.le bE) (a.le bo) (a.le bF) cu
   refine sc (ec cal71 r) hc ?_
   rintro _ d6 ⟨aW,aX,aY,aZ,b0,b2,b3,b5,b6,b7,b8,b9,ba,bb,rfl,hK⟩
   replace a:=a.cl [1,2,3,4,5,6,7,8,9] [0] r hK r
   try dsimp only [pick,nth,ca,na] at a
   refine s (xi r) (n (q (g (s (mi r) (s (xNeqD r r) (n ?_))))))
   rcases iv ao with ⟨bW,ao⟩|⟨bW,ao⟩
   ·refine wIfT (bt bW) (q (g (s (mi r) (s (xi r) (n (wRt ?_))))))
    obtain rfl:=sm ao
    replace Q:=oi Q
    obtain rfl:=sm Q
    refine resV1 r (rdT r) ?_
    exact pok (⟨b,c,e,aW,aX,aY,aZ,b0,b2,b3,b5,b6,j,m,o,b7,b8,b9,ba,bb,r,(a.ad [0,1,2,3,4,5,6,7,8] [0,1,2,3,4,5,6])⟩)
   refine wIfF (bf bW) (wk (g (s (xAdd64 r r (by omega) (by omega)) (s (mi r) (n ?_)))))
   exact cd (x1.Funcs.length - (bc+1)) _ _ (by omega) ⟨bc+1,ap.vars,b7,b8,ap.current,ap.line,ap.records,ap.funcs,ap.source.Program.Records,ap.source.Program.Funcs,aW,aX,aY,ap.source.Vars,aZ,b0,b2,ap.source.Stmts,b3,b5,b6,ap.params,ap.scope,b9,ba,bb,r,by omega,⟨r,r,r,r,y⟩,(a.ad [0,1,2,3,4,5,6,7,8] [5,0,1,2,3,4,6,17]),ao⟩
  obtain rfl:bc=x1.Funcs.length:=by omega
  rw [drop_end,m_checker_program_L2] at ao
  refine q (g (s (xLssF r r (by omega)) (n (q (wIfF r (wEx ?_))))))
  exact cc _ _ ⟨av,aa,ab,aE,aF,aG,aH,aw,ax,ac,ae,af,ay,ag,ah,ai,az,aj,ak,al,a2,a3,U,W,X,y,a,sm ao⟩
 clear a
 rintro f w ⟨av,aa,ab,aE,aF,aG,aH,aw,ax,ac,ae,af,ay,ag,ah,ai,az,aj,ak,al,a2,a3,U,W,X,hf,a,cg⟩
 obtain ⟨dh,rfl⟩:=has_updL _ _ hf
 clear hf
 subst cg
 replace Q:=gi Q
 replace Q:=pi Q
 replace Q:=pi Q
 replace Q:=pi Q
 replace Q:=pi Q
 replace Q:=pi Q
 replace Q:=pi Q
 replace Q:=pi Q
 replace Q:=pi Q
 replace Q:=pi Q
 replace Q:=pi Q
 refine q (g (s (xi r) (n (wRt ?_))))
 obtain rfl:=sm Q
 refine resV1 r (rdT r) ?_
 exact pok (⟨b,c,e,ac,ae,af,ag,ah,ai,aj,ak,al,j,m,o,aa,ab,U,W,X,r,(a.dp [1,2,3,4,5,0,6])⟩)
def Ct_checker_Check (m:GProgram→Option (GSource × Int × Int)):Prop:=∀ {x:World} {B:Nat→Prop} {u:GProgram} {a:Option Addr} {b:Nat} {c:Option Addr} {d:Nat} {R:GSource × Int × Int},Pre x B [] [.l a b u.Records,.l c d u.Funcs]→m u=some R→
 Calls Try.prog 33 #[.agg #[Z a u.Records b,Z c u.Funcs d]] x (Ret fun v w=>pel R fun t R=>pel R fun z A=>∃ (e:OA)(f:Nat)(h:OA)(i:Nat)(j:OA)(k:Nat)(o:OA)(p:Nat),v=.tuple #[.agg #[Z e t.Program.Records f,Z h t.Program.Funcs i,Z j t.Vars k,Z o t.Stmts p],V z,V A]∧Bx x w B (Gof []) [] [.l e f t.Program.Records,.l h i t.Program.Funcs,.l j k t.Vars,.l o p t.Stmts])
def m_checker_Check (fu:Nat)(c:GProgram):Option (GSource × Int × Int):=
 (m_checker_program fu (⟨([]:List (BA × Int)),([]:List (BA × Int)),(⟨(⟨([]:List Gr),([]:List Gn)⟩:GProgram),([]:List (List Gv)),([]:List Gi)⟩:GSource),([]:List Int),([]:List Gv),([]:List Int),0,0⟩:Gc) c).bind fun d=>
 pel d fun a b=>
 if a≠0 then
  some ((⟨(⟨([]:List Gr),([]:List Gn)⟩:GProgram),([]:List (List Gv)),([]:List Gi)⟩:GSource),b.line,a)
 else
  some (b.source,0,0)
theorem sp_checker_Check (fu:Nat):Ct_checker_Check (m_checker_Check fu):=by
 intro w0 ag Q t u v w R W x
 unfold m_checker_Check at x
 have a:=W.bx
 clear W
 generalize hG:Gof _=G at a ⊢
 refine cf Try.func33 r ?_
 refine wCut [(0,.agg #[Z t Q.Records u,Z v Q.Funcs w])] ⟨r,y⟩ fun ah=>?_
 refine q (g (sTo (aNewB a (mBox r)) ?_))
 rintro _ w1 ⟨b1,rfl,a⟩
 refine sTo (aNewB a (mAlloc ti30)) ?_
 rintro _ w2 ⟨b2,rfl,a⟩
 refine s (xi r) (s (xi r) (n (q (g (sTo (aMapB a (κ:=BA) (ν:=Int) ekT evI u105_) ?_)))))
 rintro _ w3 ⟨b3,rfl,a⟩
 refine sTo (aMapB a (κ:=BA) (ν:=Int) ekT evI u105_) ?_
 rintro _ w4 ⟨b4,rfl,a⟩
 refine s (bd107_0_1 r r) (sTo (aNewB a (mBox r)) ?_)
 rintro _ w5 ⟨b5,rfl,a⟩
 refine s (xAsP r) (n (q (q (g (s (mp r) (s (xLoadS [Z t Q.Records u,Z v Q.Funcs w] u26_ r ti26 r r (Cells.part (a.bk 4 r).cells (o2:=0) r)) ?_))))))
 replace a:=a.owL Gr 127
 replace a:=a.owL Gn 82
 replace a:=a.owL (List Gv) 60
 replace a:=a.owL Gi 65
 replace a:=a.owL Int 3
 replace a:=a.dadd (d:=.l none 0 ([]:List Gv)) ln_
 replace a:=a.owL Int 3
 obtain ⟨⟨S,b⟩,U,x⟩:=bs x
 replace x:=pi x
 have hc:=(sp_checker_program fu) (a.pr [6,8,7,5,4,3,2,1,0] [9,10] [6,5,4,3,2,1,0,7,8] r) a.chg.size a.chg.size a.chg.size a.chg.size a.chg.size a.chg.size U
 refine sc (ec cal46 r) hc ?_
 rintro _ Y ⟨c,e,A,f,h,B,j,m,C,o,p,D,E,F,H,I,J,K,L,M,rfl,hK⟩
 replace a:=a.cl [6,8,7,5,4,3,2,1,0] [9,10] r hK r
 try dsimp only [pick,nth,ca,na] at a
 refine s (xi r) (n (q (g (s (mi r) (s (xNeqD r r) (n ?_))))))
 rcases iv x with ⟨N,x⟩|⟨N,x⟩
 ·refine wIfT (bt N) (q (wDr1 a [0] [] [] (by kernel_rfl) ?_))
  replace a:=a.drew
  have z:=(a.ad [0] [])
  refine pF 0 r (bd30_) z (pF 1 r (mp r) z (pF 2 r (xn r) z (pF 3 r (f107_10 r) z (uF 4 r (fun hS=>l3 r (hS.bk 0 r) r) z (pF 5 r (mi r) z ?_)))))
  refine hO 6 (os r r (tb a 9 [sn,sn,sn,sn] r ti30 r r r r r (show _=#[sn,sn,sn,sn] from r)) ?_)
  intro a1 a
  try dsimp only [List.set] at a
  have z:=(a.ad [0] [])
  refine ⟨(sF z),?_⟩
  refine pF 7 r (xi r) z (pF 8 r (xi r) z (hD (wRt ?_)))
  replace a:=a.dadd (d:=.l none 0 ([]:List Gr)) ln_
  replace a:=a.dadd (d:=.l none 0 ([]:List Gn)) ln_
  replace a:=a.dadd (d:=.l none 0 ([]:List (List Gv))) ln_
  replace a:=a.dadd (d:=.l none 0 ([]:List Gi)) ln_
  obtain rfl:=sm x
  refine resV3 r (rdA r u30_ r ti30 r (a.bk 9 r)) (rdT r) (rdT r) ?_
  exact pok (pok (⟨none,0,none,0,none,0,none,0,r,(a.ad [] [3,2,1,0])⟩))
 refine wIfF (bf N) (wk (q (g (s (mp r) (s (xn r) (s (f107_2 r) (s (xLoadS [Z c b.source.Program.Records e,Z f b.source.Program.Funcs h,Z j b.source.Vars m,Z o b.source.Stmts p] u30_ r ti30 r r (Cells.part (a.bk 0 r).cells (o2:=2) r)) (sTs (tb a 9 [Z c b.source.Program.Records e,Z f b.source.Program.Funcs h,Z j b.source.Vars m,Z o b.source.Stmts p] r ti30 r r r r r (show _=#[Z c b.source.Program.Records e,Z f b.source.Program.Funcs h,Z j b.source.Vars m,Z o b.source.Stmts p] from r)) ?_))))))))
 intro a2 a
 try dsimp only [List.set] at a
 refine s (xi r) (s (xi r) (n (wRt ?_)))
 replace a:=a.frz 3 0 r r
 try dsimp only [List.eraseIdx] at a
 replace a:=a.frz 3 1 r r
 try dsimp only [List.eraseIdx] at a
 replace a:=a.frz 3 2 r r
 try dsimp only [List.eraseIdx] at a
 replace a:=a.frz 3 3 r r
 try dsimp only [List.eraseIdx] at a
 obtain rfl:=sm x
 refine resV3 r (rdA r u30_ r ti30 r (a.bk 5 r)) (rdT r) (rdT r) ?_
 exact pok (pok (⟨c,e,f,h,j,m,o,p,r,(a.ad [] [3,2,1,0])⟩))
end
end Go.Proofs.Ytfglbdkfnphjgaa
