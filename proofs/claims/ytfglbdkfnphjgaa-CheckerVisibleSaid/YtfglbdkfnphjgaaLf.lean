/- Contracts, printed by gen3.py. -/
import Derived.Test.YtfglbdkfnphjgaaZt
import Derived.Test.YtfglbdkfnphjgaaLa
set_option linter.unusedVariables false
set_option maxHeartbeats 12800000
set_option linter.unusedSimpArgs false
set_option maxRecDepth 4000
namespace Go.Proofs.Ytfglbdkfnphjgaa
open Go.RowKit Go.Fw
noncomputable section
def Ct_r04_Visible (m:GSource→Int→Int→Option ((List Int))):Prop:=∀ {t:World} {A:Nat→Prop} {p:GSource} {x:Int} {z:Int} {a:Option Addr} {b:Nat} {c:Option Addr} {d:Nat} {e:Option Addr} {f:Nat} {h:Option Addr} {i:Nat} {u:(List Int)},Pre t A [] [.l a b p.Program.Records,.l c d p.Program.Funcs,.l e f p.Vars,.l h i p.Stmts]→m p x z=some u→
 Calls Try.prog 22 #[.agg #[Z a p.Program.Records b,Z c p.Program.Funcs d,Z e p.Vars f,Z h p.Stmts i],V x,V z] t (Ret fun v w=>∃ (j:OA)(k:Nat)(o:LV),v=Z j u k∧Bx t w A (Gof []) [O t.heap.size j k 3 Int o] [.els o u])
def m_r04_Visible_L0 (fu:Nat)(b:Int):List Gv→Nat→(List Int)→Option (Ld (List Int) ((List Int)))
 | [],_,a=>some (.go a)
 | f :: d,c,a=>
 if f.From≤b then
  if b≤f.To then
   (app a ([(c:Int)]:List Int)).bind fun e=>
   m_r04_Visible_L0 fu b d (c+1) e
  else
   m_r04_Visible_L0 fu b d (c+1) a
 else
  m_r04_Visible_L0 fu b d (c+1) a
def m_r04_Visible (fu:Nat)(c:GSource) (b:Int)(d:Int):Option ((List Int)):=
 if b < 0 then
  some ([]:List Int)
 else
  if (c.Vars.length:Int)≤b then
   some ([]:List Int)
  else
   (ix c.Vars b).bind fun e=>
   (m_r04_Visible_L0 fu d e 0 ([]:List Int)).bind fun f=>f.el (fun a=>
   some a
   ) (fun o=>some o)
theorem sp_r04_Visible (fu:Nat):Ct_r04_Visible (m_r04_Visible fu):=by
 intro S au U x1 W A B C D E F H I r0 hP p
 unfold m_r04_Visible at p
 have e:=hP.bx
 clear hP
 generalize hG:Gof _=G at e ⊢
 refine cf Try.func22 r ?_
 refine wCut [(0,.agg #[Z A U.Program.Records B,Z C U.Program.Funcs D,Z E U.Vars F,Z H U.Stmts I]),(1,V x1),(2,V W)] ⟨r,r,r,y⟩ fun av=>?_
 refine q (g (sTo (aNewB e (mBox r)) ?_))
 rintro _ w1 ⟨b1,rfl,e⟩
 refine s (xAsS r) (n (q (g (s (xAsS r) (n (q (q (g (s (mi r) (s (xLss r r) (s (xMvB r) ?_)))))))))))
 rcases iv p with ⟨X,p⟩|⟨X,p⟩
 ·rw [decide_eq_true X]
  refine sNo r (sNo r (sNo r (sNo r (sNo r (s (xPkTB r r) (n (wIfT r (q (g (s (xAsS r) (n (wRt ?_))))))))))))
  replace e:=e.owL Int 3
  obtain rfl:=sm p
  refine resV1 r (rdT r) ?_
  exact ⟨none,0,[],r,(e.ad [0] [0])⟩
 rw [decide_eq_false X]
 refine sGo r (s (mi r) (sGo r (s (f30_2 r) (sGo r (s (l27 r (e.bk 0 r) r) (sGo r (s (xLnR u27_ r) (sGo r (s (xGeq r r) (s (xPkFB r r) (n ?_)))))))))))
 rcases iv p with ⟨Y,p⟩|⟨Y,p⟩
 ·refine wIfT (bt Y) (q (g (s (xAsS r) (n (wRt ?_)))))
  replace e:=e.owL Int 3
  obtain rfl:=sm p
  refine resV1 r (rdT r) ?_
  exact ⟨none,0,[],r,(e.ad [0] [0])⟩
 refine wIfF (bf Y) (wk (q (q (g (s (f30_2 r) (s (l27 r (e.bk 0 r) r) (s (mi r) ?_)))))))
 obtain ⟨u,z,p⟩:=bs p
 obtain ⟨k6,a0,z⟩:=ix_inv z
 obtain ⟨ab,a1,e⟩:=e.nm 2 rfl z
 obtain ⟨v,x,rfl,N⟩:=a1
 replace e:=e.dadd (d:=.l v x u) N
 refine s (xIdR u27_ ti60 r r a0 (e.dl 4 r) z) (s (xLoad u60_ r r ((e.dc 1 r) 0 _ r)) (s (xLnR u60_ r) (s (mi r) (n ?_))))
 replace e:=e.owL Int 3
 have ac:=(e.dl 1 r).bd
 obtain ⟨Y8,m,p⟩:=bs p
 refine wJd (fun f w=>∃ (j:List Int) (a:OA)(b:Nat)(c:LV),Has f [(7,Z a j b)]∧Bx S w au G [O S.heap.size a b 3 Int c] [.els c j,.l v x u]∧Ld.go j=Y8) (fun J8 a2=>?_) ?_
 ·refine wBk (wLoopGd (fun aw f w=>∃ (t:Nat)(j:List Int) (a:OA)(b:Nat)(c:LV),aw=u.length - t∧t≤u.length∧Has f [(25,V (t:Int)),(2,V W),(7,Z a j b),(23,Z v u x),(24,V (u.length:Int))]∧Bx S w au G [O S.heap.size a b 3 Int c] [.els c j,.l v x u]∧m_r04_Visible_L0 fu W (u.drop t) t j=some Y8) (u.length) ⟨0,([]:List Int),none,0,[],r,Nat.zero_le _,⟨r,r,r,r,r,y⟩,(e.ad [0] [0,1]),m⟩ ?_)
  clear e m
  rintro aw f w ⟨t,j,a,b,c,rfl,ae,hf,e,m⟩ K8 J
  obtain ⟨av,rfl⟩:=has_updL _ _ hf
  clear hf
  rcases Nat.lt_or_ge t u.length with Q | Q
  ·obtain ⟨o,K⟩:=get_ex (l:=u) Q
   rw [drop_id K,m_r04_Visible_L0] at m
   refine q (g (s (xLssT r r (by omega)) (n (q (wIfT r (wk (q (wBk (q (g (s (mi r) (s (xIdR u60_ ti59 r r r (e.dl 1 r) K) (s (xLoadS [T o.Name,V o.Kind,V o.Record,V o.Words,.bool o.Param,V o.From,V o.To] u59_ r ti59 r r (elF (ds:=[T o.Name,V o.Kind,V o.Record,V o.Words,.bool o.Param,V o.From,V o.To]) (e.dl 1 r) K (fun _ h=>h))) ?_)))))))))))))
   refine sTo (aNewB e (mAlloc ti59)) ?_
   rintro _ af ⟨ag,rfl,e⟩
   refine s (xi r) (sTs (tb e 0 [T o.Name,V o.Kind,V o.Record,V o.Words,.bool o.Param,V o.From,V o.To] r ti59 r r r r r (show _=#[T o.Name,V o.Kind,V o.Record,V o.Words,.bool o.Param,V o.From,V o.To] from r)) ?_)
   intro ah e
   try dsimp only [List.set] at e
   refine n (q (g (s (f59_5 r) (s (l3 r (e.bk 0 r) r) (s (mi r) (s (xLeq r r) (s (xMvB r) ?_)))))))
   rcases iv m with ⟨L,m⟩|⟨L,m⟩
   ·rw [decide_eq_true L]
    refine sGo r (s (mi r) (sGo r (s (f59_6 r) (sGo r (s (l3 r (e.bk 0 r) r) (sGo r (s (xLeq r r) (s (xPkTB r r) (n ?_)))))))))
    rcases iv m with ⟨M,m⟩|⟨M,m⟩
    ·refine wIfT (bt M) (g (s (xMvS r) (s (mi r) (sTo (aRowB e [[V (t:Int)]] ([(t:Int)]:List Int) (bs22_1_a r) r r (by decide) ⟨r,y⟩) ?_))))
     rintro _ ai ⟨aj,rfl,e⟩
     obtain ⟨a3,R,m⟩:=bs m
     refine sTo (aAppB e 2 1 r r u22_ ti3 r (by decide) (by decide) (Nat.le_refl _) r r (e.ysO 0 0 r r) R) ?_
     rintro _ ak ⟨a4,a5,a6,rfl,e⟩
     refine s (xAsS r) (n (g (s (xAdd64 r r (by omega) (by omega)) (s (mi r) (n ?_)))))
     exact J (u.length - (t+1)) _ _ (by omega) ⟨t+1,a3,a4,a5,a6,r,by omega,⟨r,r,r,r,r,y⟩,(e.ad [2] [1,2]),m⟩
    refine wIfF (bf M) (wk (g (s (xAdd64 r r (by omega) (by omega)) (s (mi r) (n ?_)))))
    exact J (u.length - (t+1)) _ _ (by omega) ⟨t+1,j,a,b,c,r,by omega,⟨r,r,r,r,r,y⟩,(e.arr [1] r),m⟩
   rw [decide_eq_false L]
   refine sNo r (sNo r (sNo r (sNo r (s (xPkFB r r) (n (wIfF r (wk (g (s (xAdd64 r r (by omega) (by omega)) (s (mi r) (n ?_)))))))))))
   exact J (u.length - (t+1)) _ _ (by omega) ⟨t+1,j,a,b,c,r,by omega,⟨r,r,r,r,r,y⟩,(e.arr [1] r),m⟩
  obtain rfl:t=u.length:=by omega
  rw [drop_end,m_r04_Visible_L0] at m
  refine q (g (s (xLssF r r (by omega)) (n (q (wIfF r (wEx ?_))))))
  exact a2 _ _ ⟨j,a,b,c,⟨r,y⟩,e,sm m⟩
 clear e
 rintro f w ⟨j,a,b,c,hf,e,a7⟩
 obtain ⟨av,rfl⟩:=has_updL _ _ hf
 clear hf
 subst a7
 replace p:=gi p
 refine q (g (s (xMvS r) (s (xAsS r) (n (wRt ?_)))))
 obtain rfl:=sm p
 refine resV1 r (rdT r) ?_
 exact ⟨a,b,c,r,(e.dp [0])⟩
def Ct_r04_Find (m:GSource→BA→Option (Int × Bool)):Prop:=∀ {k:World} {u:Nat→Prop} {j:GSource} {o:BA} {a:Option Addr} {b:Nat} {c:Option Addr} {d:Nat} {e:Option Addr} {f:Nat} {h:Option Addr} {i:Nat} {R:Int × Bool},Pre k u [] [.l a b j.Program.Records,.l c d j.Program.Funcs,.l e f j.Vars,.l h i j.Stmts]→m j o=some R→
 Calls Try.prog 30 #[.agg #[Z a j.Program.Records b,Z c j.Program.Funcs d,Z e j.Vars f,Z h j.Stmts i],T o] k (Ret fun v w=>pel R fun p t=>v=.tuple #[V p,.bool t]∧Bx k w u (Gof []) [] [])
def m_r04_Find_L0 (fu:Nat)(a:BA):List Gn→Nat→Option (Ld (Unit) (Int × Bool))
 | [],_=>some (.go ())
 | c :: d,b=>
 if c.Name=a then
  some (.out ((b:Int),true))
 else
  m_r04_Find_L0 fu a d (b+1)
def m_r04_Find (fu:Nat)(a:GSource) (b:BA):Option (Int × Bool):=
 (m_r04_Find_L0 fu b a.Program.Funcs 0).bind fun c=>c.el (fun _=>
 some (0,false)
 ) (fun o=>some o)
theorem sp_r04_Find (fu:Nat):Ct_r04_Find (m_r04_Find fu):=by
 intro S a9 h J x z c e A B C D R U v
 unfold m_r04_Find at v
 have a:=U.bx
 clear U
 generalize hG:Gof _=G at a ⊢
 refine cf Try.func30 r ?_
 refine wCut [(0,.agg #[Z x h.Program.Records z,Z c h.Program.Funcs e,Z A h.Vars B,Z C h.Stmts D]),(1,T J)] ⟨r,r,y⟩ fun aa=>?_
 refine q (g (sTo (aNewB a (mBox r)) ?_))
 rintro _ w1 ⟨b1,rfl,a⟩
 refine s (xi r) (s (xAsB r) (n (q (q (g (s (f30_0 r) (s (f26_1 r) (s (l24 r (a.bk 0 r) r) (s (xLnR u24_ r) (s (mi r) (n ?_)))))))))))
 have X:=(a.dl 1 r).bd
 obtain ⟨W,b,v⟩:=bs v
 refine wJd (fun f w=>Has f []∧Bx S w a9 G [] [.l c e h.Program.Funcs]∧Ld.go ()=W) (fun J2 K=>?_) ?_
 ·refine wBk (wLoopGd (fun ab f w=>∃ (u:Nat),ab=h.Program.Funcs.length - u∧u≤h.Program.Funcs.length∧Has f [(12,V (u:Int)),(1,T J),(10,Z c h.Program.Funcs e),(11,V (h.Program.Funcs.length:Int))]∧Bx S w a9 G [] [.l c e h.Program.Funcs]∧m_r04_Find_L0 fu J (h.Program.Funcs.drop u) u=some W) (h.Program.Funcs.length) ⟨0,r,Nat.zero_le _,⟨r,r,r,r,y⟩,(a.ad [] [1]),b⟩ ?_)
  clear a b
  rintro ab f w ⟨u,rfl,Y,hf,a,b⟩ K2 L
  obtain ⟨aa,rfl⟩:=has_updL _ _ hf
  clear hf
  rcases Nat.lt_or_ge u h.Program.Funcs.length with F | F
  ·obtain ⟨j,E⟩:=get_ex (l:=h.Program.Funcs) F
   rw [drop_id E,m_r04_Find_L0] at b
   obtain ⟨a0,M,a⟩:=a.nm 0 rfl E
   obtain ⟨m,o,p,t,rfl,H,I⟩:=GFunc.out M
   replace a:=a.dadd (d:=.l m o j.Params) H
   replace a:=a.dadd (d:=.l p t j.Body) I
   refine q (g (s (xLssT r r (by omega)) (n (q (wIfT r (wk (q (wBk (q (g (s (mi r) (s (xIdR u24_ ti82 r r r (a.dl 3 r) E) (s (xLoadS [T j.Name,V j.Line,Z m j.Params o,Z p j.Body t] u82_ r ti82 r r (a.dc 2 r)) ?_)))))))))))))
   refine sTo (aNewB a (mAlloc ti82)) ?_
   rintro _ w4 ⟨b4,rfl,a⟩
   refine s (xi r) (sTs (tb a 0 [T j.Name,V j.Line,Z m j.Params o,Z p j.Body t] r ti82 r r r r r (show _=#[T j.Name,V j.Line,Z m j.Params o,Z p j.Body t] from r)) ?_)
   intro w5 a
   try dsimp only [List.set] at a
   refine n (q (g (s (f82_0 r) (s (l9 r (a.bk 0 r) r) (s (xMvT r) (s (xEqlT' r r) (n ?_)))))))
   rcases iv b with ⟨N,b⟩|⟨N,b⟩
   ·refine wIfT (bt N) (q (g (s (mi r) (s (xi r) (s (xAsB r) (n (wRt ?_)))))))
    obtain rfl:=sm b
    replace v:=oi v
    obtain rfl:=sm v
    refine resV2 r (rdT r) (rdT r) ?_
    exact pok (⟨r,(a.ad [] [])⟩)
   refine wIfF (bf N) (wk (g (s (xAdd64 r r (by omega) (by omega)) (s (mi r) (n ?_)))))
   exact L (h.Program.Funcs.length - (u+1)) _ _ (by omega) ⟨u+1,r,by omega,⟨r,r,r,r,y⟩,(a.ad [] [3]),b⟩
  obtain rfl:u=h.Program.Funcs.length:=by omega
  rw [drop_end,m_r04_Find_L0] at b
  refine q (g (s (xLssF r r (by omega)) (n (q (wIfF r (wEx ?_))))))
  exact K _ _ ⟨y,a,sm b⟩
 clear a
 rintro f w ⟨hf,a,Q⟩
 obtain ⟨aa,rfl⟩:=has_updL _ _ hf
 clear hf
 subst Q
 replace v:=gi v
 refine q (g (s (xi r) (s (xAsB r) (n (wRt ?_)))))
 obtain rfl:=sm v
 refine resV2 r (rdT r) (rdT r) ?_
 exact pok (⟨r,(a.dp [])⟩)
def Ct_r04_fail (m:Gt→Int→Int→Option (Gt)):Prop:=∀ {I:World} {L:Nat→Prop} {B:Gt} {J:Int} {K:Int} {H:Nat} {t:Option Addr} {u:Nat} {c:Option Addr} {d:Nat} {x:List (List Value)} {C:Nat} {h:Option Addr} {i:Nat} {a:List Rw} {D:Nat} {E:Nat} {j:Option Addr} {k:Nat} {z:List (List Value)} {F:Nat} {o:Option Addr} {p:Nat} {A:List (List Value)} {G:Nat} {b:Gt},Pre I L [.box H 115 #[Z t B.out_.Program.Records u,Z c B.out_.Program.Funcs d,Z h B.out_.Vars i,Z j B.out_.Stmts k,V B.f,Z o B.open_ p,V B.line,V B.e],O C c d 82 Gn x,O D h i 60 (List Gv) (a.map Rw.hdr),.fam E 59 (sz Gv) a none,O F j k 65 Gi z,O G o p 3 Int A] [.l t u B.out_.Program.Records,.els x B.out_.Program.Funcs,.els2 a B.out_.Vars,.els z B.out_.Stmts,.els A B.open_]→C≤I.heap.size→D≤I.heap.size→E≤I.heap.size→F≤I.heap.size→G≤I.heap.size→m B J K=some b→
 Calls Try.prog 72 #[Pt H,V J,V K] I (Ret fun v w=>v=.tuple #[]∧Bx I w L (Gof [.box H 115 #[Z t B.out_.Program.Records u,Z c B.out_.Program.Funcs d,Z h B.out_.Vars i,Z j B.out_.Stmts k,V B.f,Z o B.open_ p,V B.line,V B.e],O C c d 82 Gn x,O D h i 60 (List Gv) (a.map Rw.hdr),.fam E 59 (sz Gv) a none,O F j k 65 Gi z,O G o p 3 Int A]) [.box H 115 #[Z t b.out_.Program.Records u,Z c b.out_.Program.Funcs d,Z h b.out_.Vars i,Z j b.out_.Stmts k,V b.f,Z o b.open_ p,V b.line,V b.e],O C c d 82 Gn x,O D h i 60 (List Gv) (a.map Rw.hdr),.fam E 59 (sz Gv) a none,O F j k 65 Gi z,O G o p 3 Int A] [.l t u b.out_.Program.Records,.els x b.out_.Program.Funcs,.els2 a b.out_.Vars,.els z b.out_.Stmts,.els A b.open_])
def m_r04_fail (fu:Nat)(a:Gt) (b:Int)(c:Int):Option (Gt):=
 if a.e=0 then
  some (⟨a.out_,a.f,a.open_,b,c⟩:Gt)
 else
  some a
theorem sp_r04_fail (fu:Nat):Ct_r04_fail (m_r04_fail fu):=by
 intro W a1 a Q I H p t b c w x d h u z A j l B C m o D E U S J K L M N F
 unfold m_r04_fail at F
 have v:=S.bx
 clear S
 generalize X:Gof _=G at v ⊢
 refine cf Try.func72 r ?_
 refine wCut [(0,Pt H),(1,V Q),(2,V I)] ⟨r,r,r,y⟩ fun a2=>?_
 refine q (g (s (mp r) (s (xn r) (s (f115_7 r) (s (l37 r (v.bk 0 r) r) (s (xEqlD r r) (n ?_)))))))
 rcases iv F with ⟨R,F⟩|⟨R,F⟩
 ·refine wIfT (bt R) (g (s (mp r) (s (mp r) (s (mi r) (s (mi r) (s (xn r) (s (f115_7 r) (sTs (tb v 0 [V I] r ti37 r r r r r (show _=#[Z p a.out_.Program.Records t,Z b a.out_.Program.Funcs c,Z d a.out_.Vars h,Z j a.out_.Stmts l,V a.f,Z m a.open_ o,V a.line,V I] from r)) ?_))))))))
  intro Y v
  try dsimp only [List.set] at v
  refine s (xn r) (s (f115_6 r) (sTs (tb v 0 [V Q] r ti3 r r r r r (show _=#[Z p a.out_.Program.Records t,Z b a.out_.Program.Funcs c,Z d a.out_.Vars h,Z j a.out_.Stmts l,V a.f,Z m a.open_ o,V Q,V I] from r)) ?_))
  intro w3 v
  try dsimp only [List.set] at v
  refine n ?_
  obtain rfl:=sm F
  refine res0 (P:=Try.prog) (fn:=Try.f72) r ?_
  exact ⟨r,v⟩
 refine wIfF (bf R) (wk ?_)
 obtain rfl:=sm F
 refine res0 (P:=Try.prog) (fn:=Try.f72) r ?_
 exact ⟨r,v⟩
def Ct_r04_record (m:Gt→BA→Option (Int × Bool)):Prop:=∀ {H:World} {L:Nat→Prop} {a:Gt} {I:BA} {G:Nat} {t:Option Addr} {u:Nat} {c:Option Addr} {d:Nat} {x:List (List Value)} {B:Nat} {h:Option Addr} {i:Nat} {b:List Rw} {C:Nat} {D:Nat} {j:Option Addr} {k:Nat} {z:List (List Value)} {E:Nat} {o:Option Addr} {p:Nat} {A:List (List Value)} {F:Nat} {R:Int × Bool},Pre H L [.box G 115 #[Z t a.out_.Program.Records u,Z c a.out_.Program.Funcs d,Z h a.out_.Vars i,Z j a.out_.Stmts k,V a.f,Z o a.open_ p,V a.line,V a.e],O B c d 82 Gn x,O C h i 60 (List Gv) (b.map Rw.hdr),.fam D 59 (sz Gv) b none,O E j k 65 Gi z,O F o p 3 Int A] [.l t u a.out_.Program.Records,.els x a.out_.Program.Funcs,.els2 b a.out_.Vars,.els z a.out_.Stmts,.els A a.open_]→B≤H.heap.size→C≤H.heap.size→D≤H.heap.size→E≤H.heap.size→F≤H.heap.size→m a I=some R→
 Calls Try.prog 116 #[Pt G,T I] H (Ret fun v w=>pel R fun J K=>v=.tuple #[V J,.bool K]∧Bx H w L (Gof [.box G 115 #[Z t a.out_.Program.Records u,Z c a.out_.Program.Funcs d,Z h a.out_.Vars i,Z j a.out_.Stmts k,V a.f,Z o a.open_ p,V a.line,V a.e],O B c d 82 Gn x,O C h i 60 (List Gv) (b.map Rw.hdr),.fam D 59 (sz Gv) b none,O E j k 65 Gi z,O F o p 3 Int A]) [.box G 115 #[Z t a.out_.Program.Records u,Z c a.out_.Program.Funcs d,Z h a.out_.Vars i,Z j a.out_.Stmts k,V a.f,Z o a.open_ p,V a.line,V a.e],O B c d 82 Gn x,O C h i 60 (List Gv) (b.map Rw.hdr),.fam D 59 (sz Gv) b none,O E j k 65 Gi z,O F o p 3 Int A] [.l t u a.out_.Program.Records,.els x a.out_.Program.Funcs,.els2 b a.out_.Vars,.els z a.out_.Stmts,.els A a.open_])
def m_r04_record_L0 (fu:Nat)(a:BA):List Gr→Nat→Option (Ld (Unit) (Int × Bool))
 | [],_=>some (.go ())
 | c :: d,b=>
 if c.Name=a then
  some (.out ((b:Int),true))
 else
  m_r04_record_L0 fu a d (b+1)
def m_r04_record (fu:Nat)(a:Gt) (b:BA):Option (Int × Bool):=
 (m_r04_record_L0 fu b a.out_.Program.Records 0).bind fun c=>c.el (fun _=>
 some (0,false)
 ) (fun o=>some o)
theorem sp_r04_record (fu:Nat):Ct_r04_record (m_r04_record fu):=by
 intro w0 am a x1 M c h j k z D m o b E F p t A H u v B I R hP X Y a0 a1 a2 N
 unfold m_r04_record at N
 have x:=hP.bx
 clear hP
 generalize hG:Gof _=G at x ⊢
 refine cf Try.func116 r ?_
 refine wCut [(0,Pt M),(1,T x1)] ⟨r,r,y⟩ fun an=>?_
 refine q (g (s (xi r) (s (xAsB r) (n (q (q (g (s (mp r) (s (xn r) (s (f115_0 r) (s (f30_0 r) (s (f26_0 r) (s (l23 r (x.bk 0 r) r) ?_)))))))))))))
 refine s (xLnR u23_ r) (s (mi r) (n ?_))
 have ac:=(x.dl 0 r).bd
 obtain ⟨Y1,C,N⟩:=bs N
 refine wJd (fun f w=>Has f []∧Bx w0 w am G [.box M 115 #[Z c a.out_.Program.Records h,Z j a.out_.Program.Funcs k,Z m a.out_.Vars o,Z p a.out_.Stmts t,V a.f,Z u a.open_ v,V a.line,V a.e],O D j k 82 Gn z,O E m o 60 (List Gv) (b.map Rw.hdr),.fam F 59 (sz Gv) b none,O H p t 65 Gi A,O I u v 3 Int B] [.l c h a.out_.Program.Records,.els z a.out_.Program.Funcs,.els2 b a.out_.Vars,.els A a.out_.Stmts,.els B a.open_]∧Ld.go ()=Y1) (fun J1 a4=>?_) ?_
 ·refine wBk (wLoopGd (fun ao f w=>∃ (L:Nat),ao=a.out_.Program.Records.length - L∧L≤a.out_.Program.Records.length∧Has f [(15,V (L:Int)),(1,T x1),(13,Z c a.out_.Program.Records h),(14,V (a.out_.Program.Records.length:Int))]∧Bx w0 w am G [.box M 115 #[Z c a.out_.Program.Records h,Z j a.out_.Program.Funcs k,Z m a.out_.Vars o,Z p a.out_.Stmts t,V a.f,Z u a.open_ v,V a.line,V a.e],O D j k 82 Gn z,O E m o 60 (List Gv) (b.map Rw.hdr),.fam F 59 (sz Gv) b none,O H p t 65 Gi A,O I u v 3 Int B] [.l c h a.out_.Program.Records,.els z a.out_.Program.Funcs,.els2 b a.out_.Vars,.els A a.out_.Stmts,.els B a.open_]∧m_r04_record_L0 fu x1 (a.out_.Program.Records.drop L) L=some Y1) (a.out_.Program.Records.length) ⟨0,r,Nat.zero_le _,⟨r,r,r,r,y⟩,x,C⟩ ?_)
  clear x C
  rintro ao f w ⟨L,rfl,ae,hf,x,C⟩ K1 a5
  obtain ⟨an,rfl⟩:=has_updL _ _ hf
  clear hf
  rcases Nat.lt_or_ge L a.out_.Program.Records.length with U | U
  ·obtain ⟨Q,S⟩:=get_ex (l:=a.out_.Program.Records) U
   rw [drop_id S,m_r04_record_L0] at C
   obtain ⟨af,a6,x⟩:=x.nm 0 rfl S
   obtain ⟨J,K,rfl,W⟩:=GRecord.out a6
   replace x:=x.dadd (d:=.l J K Q.Fields) W
   refine q (g (s (xLssT r r (by omega)) (n (q (wIfT r (wk (q (wBk (q (g (s (mi r) (s (xIdR u23_ ti127 r r r (x.dl 2 r) S) (s (xLoadS [T Q.Name,Z J Q.Fields K] u127_ r ti127 r r (x.dc 1 r)) ?_)))))))))))))
   refine sTo (aNewB x (mAlloc ti127)) ?_
   rintro _ w3 ⟨b3,rfl,x⟩
   refine s (xi r) (sTs (tb x 0 [T Q.Name,Z J Q.Fields K] r ti127 r r r r r (show _=#[T Q.Name,Z J Q.Fields K] from r)) ?_)
   intro w4 x
   try dsimp only [List.set] at x
   refine n (q (g (s (f127_0 r) (s (l9 r (x.bk 0 r) r) (s (xMvT r) (s (xEqlT' r r) (n ?_)))))))
   rcases iv C with ⟨h5,C⟩|⟨h5,C⟩
   ·refine wIfT (bt h5) (q (g (s (mi r) (s (xi r) (s (xAsB r) (n (wRt ?_)))))))
    obtain rfl:=sm C
    replace N:=oi N
    obtain rfl:=sm N
    refine resV2 r (rdT r) (rdT r) ?_
    exact pok (⟨r,(x.ad [1,2,3,4,5,6] [2,3,4,5,6])⟩)
   refine wIfF (bf h5) (wk (g (s (xAdd64 r r (by omega) (by omega)) (s (mi r) (n ?_)))))
   exact a5 (a.out_.Program.Records.length - (L+1)) _ _ (by omega) ⟨L+1,r,by omega,⟨r,r,r,r,y⟩,(x.ad [1,2,3,4,5,6] [2,3,4,5,6]),C⟩
  obtain rfl:L=a.out_.Program.Records.length:=by omega
  rw [drop_end,m_r04_record_L0] at C
  refine q (g (s (xLssF r r (by omega)) (n (q (wIfF r (wEx ?_))))))
  exact a4 _ _ ⟨y,x,sm C⟩
 clear x
 rintro f w ⟨hf,x,a8⟩
 obtain ⟨an,rfl⟩:=has_updL _ _ hf
 clear hf
 subst a8
 replace N:=gi N
 refine q (g (s (xi r) (s (xAsB r) (n (wRt ?_)))))
 obtain rfl:=sm N
 refine resV2 r (rdT r) (rdT r) ?_
 exact pok (⟨r,x⟩)
def Ct_r04_lookup (m:Gt→BA→Option (Int × Bool)):Prop:=∀ {H:World} {L:Nat→Prop} {a:Gt} {I:BA} {G:Nat} {t:Option Addr} {u:Nat} {c:Option Addr} {d:Nat} {x:List (List Value)} {B:Nat} {h:Option Addr} {i:Nat} {b:List Rw} {C:Nat} {D:Nat} {j:Option Addr} {k:Nat} {z:List (List Value)} {E:Nat} {o:Option Addr} {p:Nat} {A:List (List Value)} {F:Nat} {R:Int × Bool},Pre H L [.box G 115 #[Z t a.out_.Program.Records u,Z c a.out_.Program.Funcs d,Z h a.out_.Vars i,Z j a.out_.Stmts k,V a.f,Z o a.open_ p,V a.line,V a.e],O B c d 82 Gn x,O C h i 60 (List Gv) (b.map Rw.hdr),.fam D 59 (sz Gv) b none,O E j k 65 Gi z,O F o p 3 Int A] [.l t u a.out_.Program.Records,.els x a.out_.Program.Funcs,.els2 b a.out_.Vars,.els z a.out_.Stmts,.els A a.open_]→B≤H.heap.size→C≤H.heap.size→D≤H.heap.size→E≤H.heap.size→F≤H.heap.size→m a I=some R→
 Calls Try.prog 98 #[Pt G,T I] H (Ret fun v w=>pel R fun J K=>v=.tuple #[V J,.bool K]∧Bx H w L (Gof [.box G 115 #[Z t a.out_.Program.Records u,Z c a.out_.Program.Funcs d,Z h a.out_.Vars i,Z j a.out_.Stmts k,V a.f,Z o a.open_ p,V a.line,V a.e],O B c d 82 Gn x,O C h i 60 (List Gv) (b.map Rw.hdr),.fam D 59 (sz Gv) b none,O E j k 65 Gi z,O F o p 3 Int A]) [.box G 115 #[Z t a.out_.Program.Records u,Z c a.out_.Program.Funcs d,Z h a.out_.Vars i,Z j a.out_.Stmts k,V a.f,Z o a.open_ p,V a.line,V a.e],O B c d 82 Gn x,O C h i 60 (List Gv) (b.map Rw.hdr),.fam D 59 (sz Gv) b none,O E j k 65 Gi z,O F o p 3 Int A] [.l t u a.out_.Program.Records,.els x a.out_.Program.Funcs,.els2 b a.out_.Vars,.els z a.out_.Stmts,.els A a.open_])
def m_r04_lookup_L0 (fu:Nat)(a:Gt) (b:BA):List Int→Nat→Option (Ld (Unit) (Int × Bool))
 | [],_=>some (.go ())
 | c :: d,e=>
 (ix a.out_.Vars a.f).bind fun h=>
 (ix h c).bind fun i=>
 if i.Name=b then
  some (.out (c,true))
 else
  m_r04_lookup_L0 fu a b d (e+1)
def m_r04_lookup (fu:Nat)(a:Gt) (b:BA):Option (Int × Bool):=
 (m_r04_lookup_L0 fu a b a.open_ 0).bind fun c=>c.el (fun _=>
 some (0,false)
 ) (fun o=>some o)
theorem sp_r04_lookup (fu:Nat):Ct_r04_lookup (m_r04_lookup fu):=by
 intro w0 aw a x1 L z A o p B F t u b H I v x C J c d D K R hP a0 a1 a2 a4 a5 N
 unfold m_r04_lookup at N
 have j:=hP.bx
 clear hP
 generalize hG:Gof _=G at j ⊢
 refine cf Try.func98 r ?_
 refine wCut [(0,Pt L),(1,T x1)] ⟨r,r,y⟩ fun ax=>?_
 refine q (g (s (xi r) (s (xAsB r) (n (q (q (g (s (mp r) (s (xn r) (s (f115_5 r) (s (l22 r (j.bk 0 r) r) (s (xLnR u22_ r) (s (mi r) ?_)))))))))))))
 refine n ?_
 have ai:=(j.vw 5 4 r r).bd
 obtain ⟨Y1,m,N⟩:=bs N
 refine wJd (fun f w=>Has f []∧Bx w0 w aw G [.box L 115 #[Z z a.out_.Program.Records A,Z o a.out_.Program.Funcs p,Z t a.out_.Vars u,Z v a.out_.Stmts x,V a.f,Z c a.open_ d,V a.line,V a.e],O F o p 82 Gn B,O H t u 60 (List Gv) (b.map Rw.hdr),.fam I 59 (sz Gv) b none,O J v x 65 Gi C,O K c d 3 Int D] [.l z A a.out_.Program.Records,.els B a.out_.Program.Funcs,.els2 b a.out_.Vars,.els C a.out_.Stmts,.els D a.open_]∧Ld.go ()=Y1) (fun J1 a7=>?_) ?_
 ·refine wBk (wLoopGd (fun ay f w=>∃ (M:Nat),ay=a.open_.length - M∧M≤a.open_.length∧Has f [(13,V (M:Int)),(0,Pt L),(1,T x1),(11,Z c a.open_ d),(12,V (a.open_.length:Int))]∧Bx w0 w aw G [.box L 115 #[Z z a.out_.Program.Records A,Z o a.out_.Program.Funcs p,Z t a.out_.Vars u,Z v a.out_.Stmts x,V a.f,Z c a.open_ d,V a.line,V a.e],O F o p 82 Gn B,O H t u 60 (List Gv) (b.map Rw.hdr),.fam I 59 (sz Gv) b none,O J v x 65 Gi C,O K c d 3 Int D] [.l z A a.out_.Program.Records,.els B a.out_.Program.Funcs,.els2 b a.out_.Vars,.els C a.out_.Stmts,.els D a.open_]∧m_r04_lookup_L0 fu a x1 (a.open_.drop M) M=some Y1) (a.open_.length) ⟨0,r,Nat.zero_le _,⟨r,r,r,r,r,y⟩,j,m⟩ ?_)
  clear j m
  rintro ay f w ⟨M,rfl,aj,hf,j,m⟩ K1 a8
  obtain ⟨ax,rfl⟩:=has_updL _ _ hf
  clear hf
  rcases Nat.lt_or_ge M a.open_.length with Y | Y
  ·obtain ⟨u1,S⟩:=get_ex (l:=a.open_) Y
   rw [drop_id S,m_r04_lookup_L0] at m
   refine q (g (s (xLssT r r (by omega)) (n (q (wIfT r (wk (q (wBk (q (g (s (xIdR u22_ ti3 r r r (j.vw 5 4 r r) S) (s (xLoad u3_ r r ((elF (ds:=[V u1]) (j.vw 5 4 r r) S (fun _ h=>h)) 0 _ r)) (s (xi r) ?_)))))))))))))
   refine n (q ?_)
   obtain ⟨e2,U,m⟩:=bs m
   obtain ⟨k2,a9,U⟩:=ix_inv U
   replace j:=j.arr [3,0,1,2,4,5] r
   try dsimp only [pick,nth,ca,na] at j
   obtain ⟨a3,c3,q3,W,aa,j⟩:=j.foc 2 rfl U
   refine wDr1 j [0,1,2,4] [0,3] [] (by kernel_rfl) ?_
   replace j:=j.drew
   have E:=(j.ad [0,1,2,4] [0,3])
   refine pF 0 r (mp r) E (pF 1 r (xn r) E (pF 2 r (f115_0 r) E (pF 3 r (f30_2 r) E (uF 4 r (fun hS=>l27 r (hS.bk 2 r) r) E (pF 5 r (mp r) E (pF 6 r (xn r) E (pF 7 r (f115_4 r) E (uF 8 r (fun hS=>l3 r (hS.bk 2 r) r) E (pF 9 r (xIdH u27_ ti60 r r a9 (j.bo 4 r) W (j.d2 3 r).len) E (uF 10 r (fun hS=>xLoad u60_ r r (hS.hc 3 r W aa 0 _ r)) E (pF 11 r (mi r) E ?_)))))))))))
   obtain ⟨X,Q,m⟩:=bs m
   obtain ⟨k4,ab,Q⟩:=ix_inv Q
   refine pF 12 r (xIdR u60_ ti59 r r ab (j.vw 0 0 r r) Q) E (pF 13 r (f59_0 r) E (tU 14 r (fun _ hS=>xLoad u9_ r r ((elF (ds:=[T X.Name,V X.Kind,V X.Record,V X.Words,.bool X.Param,V X.From,V X.To]) (hS.vw 0 0 r r) Q (fun _ h=>h)) 0 _ r)) (sF E) (pF 15 r (xMvT r) E (pF 16 r (xEqlT' r r) E (hD ?_)))))
   replace j:=j.arr [0,1,2,3,4,5,6] r
   try dsimp only [pick,nth,ca,na] at j
   replace j:=j.unf0 3 0 r r W
   rcases iv m with ⟨h7,m⟩|⟨h7,m⟩
   ·refine wIfT (bt h7) (q (g (s (mi r) (s (xi r) (s (xAsB r) (n (wRt ?_)))))))
    obtain rfl:=sm m
    replace N:=oi N
    obtain rfl:=sm N
    refine resV2 r (rdT r) (rdT r) ?_
    exact pok (⟨r,(j.ad [1,2,3,0,4,5] [1,2,3,4,5])⟩)
   refine wIfF (bf h7) (wk (g (s (xAdd64 r r (by omega) (by omega)) (s (mi r) (n ?_)))))
   exact a8 (a.open_.length - (M+1)) _ _ (by omega) ⟨M+1,r,by omega,⟨r,r,r,r,r,y⟩,(j.ad [1,2,3,0,4,5] [1,2,3,4,5]),m⟩
  obtain rfl:M=a.open_.length:=by omega
  rw [drop_end,m_r04_lookup_L0] at m
  refine q (g (s (xLssF r r (by omega)) (n (q (wIfF r (wEx ?_))))))
  exact a7 _ _ ⟨y,j,sm m⟩
 clear j
 rintro f w ⟨hf,j,ae⟩
 obtain ⟨ax,rfl⟩:=has_updL _ _ hf
 clear hf
 subst ae
 replace N:=gi N
 refine q (g (s (xi r) (s (xAsB r) (n (wRt ?_)))))
 obtain rfl:=sm N
 refine resV2 r (rdT r) (rdT r) ?_
 exact pok (⟨r,j⟩)
def Ct_r04_declare (m:Gt→Int→Gv→Option (Int × Gt)):Prop:=∀ {P:World} {W:Nat→Prop} {t:Gt} {S:Int} {Q:Gv} {N:Nat} {i:Option Addr} {j:Nat} {a:Option Addr} {b:Nat} {k:List (List Value)} {u:Nat} {x:Option Addr} {z:Nat} {o:List Rw} {A:Nat} {B:Nat} {c:Option Addr} {d:Nat} {p:List (List Value)} {C:Nat} {D:Option Addr} {E:Nat} {H:List (List Value)} {F:Nat} {R:Int × Gt},Pre P W [.box N 115 #[Z i t.out_.Program.Records j,Z a t.out_.Program.Funcs b,Z x t.out_.Vars z,Z c t.out_.Stmts d,V t.f,Z D t.open_ E,V t.line,V t.e],O u a b 82 Gn k,O A x z 60 (List Gv) (o.map Rw.hdr),.fam B 59 (sz Gv) o none,O C c d 65 Gi p,O F D E 3 Int H] [.l i j t.out_.Program.Records,.els k t.out_.Program.Funcs,.els2 o t.out_.Vars,.els p t.out_.Stmts,.els H t.open_]→u≤P.heap.size→A≤P.heap.size→B≤P.heap.size→C≤P.heap.size→F≤P.heap.size→m t S Q=some R→
 Calls Try.prog 73 #[Pt N,V S,.agg #[T Q.Name,V Q.Kind,V Q.Record,V Q.Words,.bool Q.Param,V Q.From,V Q.To]] P (Ret fun v w=>pel R fun U h=>∃ (I:OA)(J:Nat)(G:List Rw) (K:OA)(L:Nat)(M:LV),v=V U∧Bx P w W (Gof [.box N 115 #[Z i t.out_.Program.Records j,Z a t.out_.Program.Funcs b,Z x t.out_.Vars z,Z c t.out_.Stmts d,V t.f,Z D t.open_ E,V t.line,V t.e],O u a b 82 Gn k,O A x z 60 (List Gv) (o.map Rw.hdr),.fam B 59 (sz Gv) o none,O C c d 65 Gi p,O F D E 3 Int H]) [.box N 115 #[Z i h.out_.Program.Records j,Z a h.out_.Program.Funcs b,Z I h.out_.Vars J,Z c h.out_.Stmts d,V h.f,Z K h.open_ L,V h.line,V h.e],O u a b 82 Gn k,O A I J 60 (List Gv) (G.map Rw.hdr),.fam B 59 (sz Gv) G none,O C c d 65 Gi p,O F K L 3 Int M] [.l i j h.out_.Program.Records,.els k h.out_.Program.Funcs,.els2 G h.out_.Vars,.els p h.out_.Stmts,.els M h.open_])
def m_r04_declare (fu:Nat)(a:Gt) (l:Int)(m:Gv):Option (Int × Gt):=
 (m_r04_lookup fu a m.Name).bind fun p=>
 pel p fun o c=>
 (ix a.out_.Vars a.f).bind fun h=>
 if a.e≠0 then
  some (0,a)
 else
  if c=true then
   (m_r04_fail fu a l 9).bind fun d=>
   some (0,d)
  else
   if 24≤(h.length:Int) then
    (m_r04_fail fu a l 5).bind fun b=>
    some (0,b)
   else
    (app h ([m]:List Gv)).bind fun i=>
    (app a.open_ ([(h.length:Int)]:List Int)).bind fun j=>
    (st a.out_.Vars a.f i).bind fun k=>
    some ((h.length:Int),(⟨(⟨a.out_.Program,k,a.out_.Stmts⟩:GSource),a.f,j,a.line,a.e⟩:Gt))
theorem sp_r04_declare (fu:Nat):Ct_r04_declare (m_r04_declare fu):=by
 intro w0 aZ A x1 u a5 I J B C M N c d h Q S D E U W o p v X R hP w x l z m j
 unfold m_r04_declare at j
 have a:=hP.bx
 clear hP
 generalize hG:Gof _=G at a ⊢
 refine cf Try.func73 r ?_
 refine wCut [(0,Pt a5),(1,V x1),(2,.agg #[T u.Name,V u.Kind,V u.Record,V u.Words,.bool u.Param,V u.From,V u.To])] ⟨r,r,r,y⟩ fun b0=>?_
 refine q (g (sTo (aNewB a (mBox r)) ?_))
 rintro _ w1 ⟨b1,rfl,a⟩
 refine s (xi r) (n (q (g (s (mp r) (s (f59_0 r) (s (l9 r (a.bk 0 r) r) ?_))))))
 obtain ⟨⟨au,av⟩,h2,j⟩:=bs j
 replace j:=pi j
 have hc:=(sp_r04_lookup fu) (a.pr [1,2,3,4,5,6] [0] [0,1,2,3,4] r) (a.le w) (a.le x) (a.le l) (a.le z) (a.le m) h2
 refine sc (ec cal98 r) hc ?_
 rintro _ w2 ⟨rfl,hK⟩
 replace a:=a.cl [1,2,3,4,5,6] [0] r hK r
 try dsimp only [pick,nth,ca,na] at a
 refine s xMove (s (xExtract r r) (s (xExtract r r) (s (xi r) (s (xAsB r) (n (q ?_))))))
 obtain ⟨e3,K,j⟩:=bs j
 obtain ⟨k3,Y,K⟩:=ix_inv K
 replace a:=a.arr [3,0,1,2,4,5,6] r
 try dsimp only [pick,nth,ca,na] at a
 obtain ⟨a4,c4,q4,a0,aj,a⟩:=a.foc 2 rfl K
 refine wDr1 a [0,1,2,4] [0,3] [] (by kernel_rfl) ?_
 replace a:=a.drew
 have b:=(a.ad [0,1,2,4] [0,3])
 refine pF 0 r (mp r) b (pF 1 r (xn r) b (pF 2 r (f115_0 r) b (pF 3 r (f30_2 r) b (uF 4 r (fun hS=>l27 r (hS.bk 2 r) r) b (pF 5 r (mp r) b (pF 6 r (xn r) b (pF 7 r (f115_4 r) b (uF 8 r (fun hS=>l3 r (hS.bk 2 r) r) b (pF 9 r (xIdH u27_ ti60 r r Y (a.bo 4 r) a0 (a.d2 3 r).len) b (uF 10 r (fun hS=>xLoad u60_ r r (hS.hc 3 r a0 aj 0 _ r)) b (pF 11 r (xLnR u60_ r) b (pF 12 r (xi r) b (hD ?_)))))))))))))
 refine q ?_
 replace a:=a.arr [0,1,2,3,4,5,6,7] r
 try dsimp only [pick,nth,ca,na] at a
 replace a:=a.unf0 3 0 r r a0
 refine wBk (q (g (s (mp r) (s (xn r) (s (f115_7 r) (s (l37 r (a.bk 1 r) r) (s (xNeqD r r) (s (xAsB r) (n ?_)))))))))
 rcases iv j with ⟨h7,j⟩|⟨h7,j⟩
 ·refine wIfT (bt h7) (q (g (s (xi r) (n (wRt ?_)))))
  obtain rfl:=sm j
  refine resV1 r (rdT r) ?_
  exact pok (⟨c,d,h,o,p,v,r,(a.ad [1,2,3,0,4,5] [6,2,3,4,5])⟩)
 refine wIfF (bf h7) (q (g (s (xMvB r) (s (xAsB r) (n ?_)))))
 rcases iv j with ⟨h8,j⟩|⟨h8,j⟩
 ·refine wIfT (cb h8) (q (g (s (mp r) (s (mi r) ?_))))
  obtain ⟨ax,h9,j⟩:=bs j
  have hc:=(sp_r04_fail fu) (a.pr [1,2,3,0,4,5] [6] [6,2,3,4,5] r) (a.le w) (a.le x) (a.le l) (a.le z) (a.le m) h9
  refine sc (ec cal72 r) hc ?_
  rintro _ w9 ⟨rfl,hK⟩
  replace a:=a.cl [1,2,3,0,4,5] [6] r hK r
  try dsimp only [pick,nth,ca,na] at a
  refine n (q (g (s (xi r) (n (wRt ?_)))))
  obtain rfl:=sm j
  refine resV1 r (rdT r) ?_
  exact pok (⟨c,d,h,o,p,v,r,(a.ad [0,1,2,3,4,5] [0,1,2,3,4])⟩)
 replace h8:=nt h8
 refine wIfF (cb h8) (q (g (s (mi r) (s (xGeq r r) (s (xAsB r) (n ?_))))))
 rcases iv j with ⟨a1,j⟩|⟨a1,j⟩
 ·refine wIfT (bt a1) (q (g (s (mp r) (s (mi r) ?_))))
  obtain ⟨al,am,j⟩:=bs j
  have hc:=(sp_r04_fail fu) (a.pr [1,2,3,0,4,5] [6] [6,2,3,4,5] r) (a.le w) (a.le x) (a.le l) (a.le z) (a.le m) am
  refine sc (ec cal72 r) hc ?_
  rintro _ aC ⟨rfl,hK⟩
  replace a:=a.cl [1,2,3,0,4,5] [6] r hK r
  try dsimp only [pick,nth,ca,na] at a
  refine n (q (g (s (xi r) (n (wRt ?_)))))
  obtain rfl:=sm j
  refine resV1 r (rdT r) ?_
  exact pok (⟨c,d,h,o,p,v,r,(a.ad [0,1,2,3,4,5] [0,1,2,3,4])⟩)
 refine wIfF (bf a1) (wk (q ?_))
 obtain ⟨aD,aE,aF,F,a8,a⟩:=a.foc 3 rfl K
 refine wDr a [1,2,7] [] [0,1,2,4,7] [0,4] [22,24] (by kernel_rfl) ?_
 replace a:=a.drew
 have b:=(a.ad [1,2,7] [])
 have t:=(a.ad [0,1,2,4,7] [0,4])
 refine pL 0 r (mp r) b t (pL 1 r (xn r) b t (pL 2 r (f115_0 r) b t (pL 3 r (f30_2 r) b t (tU 4 r (fun _ hS=>l27 r (hS.bk 1 r) r) (sl_ b t) (pL 5 r (mp r) b t (pL 6 r (xn r) b t (pL 7 r (f115_4 r) b t (tU 8 r (fun _ hS=>l3 r (hS.bk 1 r) r) (sl_ b t) (pL 9 r (mp r) b t (pL 10 r (xn r) b t (pL 11 r (f115_0 r) b t (pL 12 r (f30_2 r) b t (tU 13 r (fun _ hS=>l27 r (hS.bk 1 r) r) (sl_ b t) ?_)))))))))))))
 refine pL 14 r (mp r) b t (pL 15 r (xn r) b t (pL 16 r (f115_4 r) b t (tU 17 r (fun _ hS=>l3 r (hS.bk 1 r) r) (sl_ b t) (pL 18 r (xIdH u27_ ti60 r r Y (a.bo 4 r) F (a.d2 4 r).len) b t (tS 1 19 r (fun _ hS=>xLoad u60_ r r (hS.hc 3 r F a8 0 _ r)) (sl_ b t) (tU 20 r (fun _ hS=>xLoadS [T u.Name,V u.Kind,V u.Record,V u.Words,.bool u.Param,V u.From,V u.To] u59_ r ti59 r r (Cells.part (hS.bk 2 r).cells (o2:=0) r)) (sl_ b t) ?_))))))
 refine hO 21 (oo r r (aRowB a [[T u.Name,V u.Kind,V u.Record,V u.Words,.bool u.Param,V u.From,V u.To]] ([u]:List Gv) (bs60_1_a r) r r (by decide) ⟨r,y⟩) ?_)
 rintro _ aG ⟨aH,rfl,a⟩
 have b:=(a.ad [2,3,8] [])
 have t:=(a.ad [1,2,3,5,8] [1,5])
 refine ⟨(sl_ b t),?_⟩
 obtain ⟨aI,a9,j⟩:=bs j
 refine hO 22 (oo r r (aAppB a 1 1 r r u60_ ti59 r (by decide) (by decide) l r r (a.ysO 0 0 r r) a9) ?_)
 rintro _ aJ ⟨aa,ab,ac,rfl,a⟩
 have b:=(a.ad [2,3,8] [])
 refine ⟨(sy 22 b),?_⟩
 refine tP 23 r (fun _=>xIdH u27_ ti60 r r Y (a.bo 5 r) F (a.d2 5 r).len) (sy 22 b) ?_
 refine hO 24 (os r r (tStH a 5 r F ti60 r r) ?_)
 intro aK a
 try dsimp only [List.set] at a
 have b:=(a.ad [2,3,8] [])
 refine ⟨(sy 22 b),?_⟩
 refine hD (q (g (s (mp r) (s (mp r) (s (xn r) (s (f115_5 r) (s (l22 r (a.bk 3 r) r) (s (mi r) (sTo (aRowB a [[V (e3.length:Int)]] ([(e3.length:Int)]:List Int) (bs22_1_a r) r r (by decide) ⟨r,y⟩) ?_)))))))))
 rintro _ aL ⟨aM,rfl,a⟩
 obtain ⟨ae,af,j⟩:=bs j
 refine sTo (aAppB a 8 8 r r u22_ ti3 r (by decide) (by decide) m r r (a.ysO 0 0 r r) af) ?_
 rintro _ aN ⟨a2,a3,an,rfl,a⟩
 refine s (xn r) (s (f115_5 r) (sTs (tb a 4 [Z a2 ae a3] r ti22 r r r r r (show _=#[Z I A.out_.Program.Records J,Z B A.out_.Program.Funcs C,Z c A.out_.Vars d,Z D A.out_.Stmts E,V A.f,Z a2 ae a3,V A.line,V A.e] from r)) ?_))
 intro aO a
 try dsimp only [List.set] at a
 refine n (q (g (s (mi r) (s (xi r) (n (wRt ?_))))))
 obtain ⟨ao,H,j⟩:=bs j
 obtain ⟨ap,ay,_,H⟩:=st_inv H
 obtain rfl:k3=ap:=by omega
 have ag:=(a.de 2 r).len
 replace a:=a.hd 6 (H':=((h.set k3 ⟨aa,ab,ac⟩).map Rw.hdr)) r (hdrB ag)
 try dsimp only [List.set] at a
 replace a:=a.arr [2,3,0,1,4,5,6,7,8,9] r
 try dsimp only [pick,nth,ca,na] at a
 replace a:=a.unf 6 2 r r
 try dsimp only [List.set] at a
 rw [H] at a
 obtain ⟨aq,ah⟩:∃ R,(h.set k3 ⟨aa,ab,ac⟩)=R:=⟨_,rfl⟩
 rw [ah] at a
 have L:A.out_.Vars.length=ao.length:=by rw [← H,List.length_set]
 try dsimp only [Z] at a
 try rw [L] at a
 try dsimp only [Z]
 try rw [L]
 obtain rfl:=sm j
 refine resV1 r (rdT r) ?_
 exact pok (⟨c,d,aq,a2,a3,an,r,(a.ad [3,4,5,0,6,7] [9,5,6,7,8])⟩)
abbrev T_r04_expr:=GState115→GExpr→Int→Option (GExpr × GState115)
abbrev T_r04_exprs:=GState115→(List GExpr)→Int→Option ((List GExpr) × GState115)
def Ct_r04_expr (m:Gt→Ge→Int→Option (Ge × Gt)):Prop:=∀ {M:World} {S:Nat→Prop} {B:Gt} {N:Ge} {Q:Int} {L:Nat} {t:Option Addr} {u:Nat} {b:Option Addr} {c:Nat} {x:List (List Value)} {C:Nat} {d:Option Addr} {h:Nat} {a:List Rw} {D:Nat} {E:Nat} {i:Option Addr} {j:Nat} {z:List (List Value)} {F:Nat} {k:Option Addr} {o:Nat} {A:List (List Value)} {G:Nat} {H:Option Addr} {I:Nat} {R:Ge × Gt},Pre M S [.box L 115 #[Z t B.out_.Program.Records u,Z b B.out_.Program.Funcs c,Z d B.out_.Vars h,Z i B.out_.Stmts j,V B.f,Z k B.open_ o,V B.line,V B.e],O C b c 82 Gn x,O D d h 60 (List Gv) (a.map Rw.hdr),.fam E 59 (sz Gv) a none,O F i j 65 Gi z,O G k o 3 Int A] [.l t u B.out_.Program.Records,.els x B.out_.Program.Funcs,.els2 a B.out_.Vars,.els z B.out_.Stmts,.els A B.open_,.l H I N.Args]→C≤M.heap.size→D≤M.heap.size→E≤M.heap.size→F≤M.heap.size→G≤M.heap.size→m B N Q=some R→
 Calls Try.prog 132 #[Pt L,.agg #[V N.Op,V N.Number,V N.Var,T N.Name,T N.Field,Z H N.Args I],V Q] M (Ret fun v w=>pel R fun P p=>∃ (J:OA)(K:Nat),v=.agg #[V P.Op,V P.Number,V P.Var,T P.Name,T P.Field,Z J P.Args K]∧Bx M w S (Gof [.box L 115 #[Z t B.out_.Program.Records u,Z b B.out_.Program.Funcs c,Z d B.out_.Vars h,Z i B.out_.Stmts j,V B.f,Z k B.open_ o,V B.line,V B.e],O C b c 82 Gn x,O D d h 60 (List Gv) (a.map Rw.hdr),.fam E 59 (sz Gv) a none,O F i j 65 Gi z,O G k o 3 Int A]) [.box L 115 #[Z t p.out_.Program.Records u,Z b p.out_.Program.Funcs c,Z d p.out_.Vars h,Z i p.out_.Stmts j,V p.f,Z k p.open_ o,V p.line,V p.e],O C b c 82 Gn x,O D d h 60 (List Gv) (a.map Rw.hdr),.fam E 59 (sz Gv) a none,O F i j 65 Gi z,O G k o 3 Int A] [.l J K P.Args,.l t u p.out_.Program.Records,.els x p.out_.Program.Funcs,.els2 a p.out_.Vars,.els z p.out_.Stmts,.els A p.open_])
def Ct_r04_exprs (m:Gt→(List Ge)→Int→Option ((List Ge) × Gt)):Prop:=∀ {M:World} {U:Nat→Prop} {B:Gt} {P:(List Ge)} {Q:Int} {N:Nat} {t:Option Addr} {u:Nat} {b:Option Addr} {c:Nat} {x:List (List Value)} {C:Nat} {d:Option Addr} {h:Nat} {a:List Rw} {D:Nat} {E:Nat} {i:Option Addr} {j:Nat} {z:List (List Value)} {F:Nat} {k:Option Addr} {o:Nat} {A:List (List Value)} {G:Nat} {H:Option Addr} {I:Nat} {R:(List Ge) × Gt},Pre M U [.box N 115 #[Z t B.out_.Program.Records u,Z b B.out_.Program.Funcs c,Z d B.out_.Vars h,Z i B.out_.Stmts j,V B.f,Z k B.open_ o,V B.line,V B.e],O C b c 82 Gn x,O D d h 60 (List Gv) (a.map Rw.hdr),.fam E 59 (sz Gv) a none,O F i j 65 Gi z,O G k o 3 Int A] [.l t u B.out_.Program.Records,.els x B.out_.Program.Funcs,.els2 a B.out_.Vars,.els z B.out_.Stmts,.els A B.open_,.l H I P]→C≤M.heap.size→D≤M.heap.size→E≤M.heap.size→F≤M.heap.size→G≤M.heap.size→m B P Q=some R→
 Calls Try.prog 117 #[Pt N,Z H P I,V Q] M (Ret fun v w=>pel R fun S p=>∃ (J:OA)(K:Nat)(L:LV),v=Z J S K∧Bx M w U (Gof [.box N 115 #[Z t B.out_.Program.Records u,Z b B.out_.Program.Funcs c,Z d B.out_.Vars h,Z i B.out_.Stmts j,V B.f,Z k B.open_ o,V B.line,V B.e],O C b c 82 Gn x,O D d h 60 (List Gv) (a.map Rw.hdr),.fam E 59 (sz Gv) a none,O F i j 65 Gi z,O G k o 3 Int A]) [O M.heap.size J K 138 Ge L,.box N 115 #[Z t p.out_.Program.Records u,Z b p.out_.Program.Funcs c,Z d p.out_.Vars h,Z i p.out_.Stmts j,V p.f,Z k p.open_ o,V p.line,V p.e],O C b c 82 Gn x,O D d h 60 (List Gv) (a.map Rw.hdr),.fam E 59 (sz Gv) a none,O F i j 65 Gi z,O G k o 3 Int A] [.els L S,.l t u p.out_.Program.Records,.els x p.out_.Program.Funcs,.els2 a p.out_.Vars,.els z p.out_.Stmts,.els A p.open_])
def F_r04_expr_J1 (fu:Nat)(r_r04_exprs:T_r04_exprs) (r_r04_expr:T_r04_expr) (a:Ge):Option (Ld (Bool) (Ge × Gt)):=
 if a.Op=1 then
  some (.go (decide (a.Op=1)))
 else
  if a.Op=2 then
   some (.go (decide (a.Op=2)))
  else
   some (.go (decide (a.Op=3)))
def F_r04_expr_L2 (fu:Nat)(r_r04_exprs:T_r04_exprs) (r_r04_expr:T_r04_expr) (d:Ge):List BA→Nat→Int→Option (Ld (Int) (Ge × Gt))
 | [],_,a=>some (.go a)
 | e :: c,b,a=>
 if e=d.Field then
  F_r04_expr_L2 fu r_r04_exprs r_r04_expr d c (b+1) (b:Int)
 else
  F_r04_expr_L2 fu r_r04_exprs r_r04_expr d c (b+1) a
def F_r04_expr_J0 (fu:Nat)(r_r04_exprs:T_r04_exprs) (r_r04_expr:T_r04_expr) (b:Gt) (h:Ge) (p:Int):Option (Ld (Int × Int × List Gr × Int × Int × Int × List Gn × List (List Gv) × List Gi × List Int) (Ge × Gt)):=
 (F_r04_expr_J1 fu r_r04_exprs r_r04_expr h).bind fun v=>v.el (fun l=>
 if l=true then
  (m_r04_lookup fu b h.Name).bind fun v=>
  pel v fun c i=>
  if (!i)=true then
   (m_r04_fail fu b p 8).bind fun j=>
   some (.out (h,j))
  else
   (ix b.out_.Vars b.f).bind fun t=>
   (ix t c).bind fun m=>
   if m.Kind≠(wr ((wr (1+h.Op)) - 1)) then
    (m_r04_fail fu b p 10).bind fun k=>
    some (.out (h,k))
   else
    if h.Op=2 then
     (ix b.out_.Program.Records m.Record).bind fun u=>
     (F_r04_expr_L2 fu r_r04_exprs r_r04_expr h u.Fields 0 (-1)).bind fun v=>v.el (fun d=>
     if d < 0 then
      (m_r04_fail fu b p 8).bind fun a=>
      some (.go (d,c,a.out_.Program.Records,a.f,a.line,a.e,a.out_.Program.Funcs,a.out_.Vars,a.out_.Stmts,a.open_))
     else
      some (.go (d,c,b.out_.Program.Records,b.f,b.line,b.e,b.out_.Program.Funcs,b.out_.Vars,b.out_.Stmts,b.open_))
     ) (fun o=>some (.out o))
    else
     some (.go (h.Number,c,b.out_.Program.Records,b.f,b.line,b.e,b.out_.Program.Funcs,b.out_.Vars,b.out_.Stmts,b.open_))
 else
  some (.go (h.Number,h.Var,b.out_.Program.Records,b.f,b.line,b.e,b.out_.Program.Funcs,b.out_.Vars,b.out_.Stmts,b.open_))
 ) (fun o=>some (.out o))
def F_r04_expr (fu:Nat)(r_r04_exprs:T_r04_exprs) (r_r04_expr:T_r04_expr) (u:Gt) (d:Ge) (v:Int):Option (Ge × Gt):=
 if u.e≠0 then
  some (d,u)
 else
  (F_r04_expr_J0 fu r_r04_exprs r_r04_expr u d v).bind fun w=>w.el (fun w=>
  pel w fun f w=>pel w fun h w=>pel w fun i w=>pel w fun j w=>pel w fun k w=>pel w fun l w=>pel w fun m w=>pel w fun p w=>pel w fun t a=>
  (r_r04_exprs (⟨(⟨(⟨i,m⟩:GProgram),p,t⟩:GSource),j,a,k,l⟩:Gt) d.Args v).bind fun w=>
  pel w fun b c=>
  some ((⟨d.Op,f,h,d.Name,d.Field,b⟩:Ge),c)
  ) (fun o=>some o)
def F_r04_exprs_L0 (fu:Nat)(r_r04_exprs:T_r04_exprs) (r_r04_expr:T_r04_expr) (p:Int):List Ge→Nat→(List Ge)→(List Gr)→Int→Int→Int→(List Gn)→(List (List Gv))→(List Gi)→(List Int)→Option (Ld (List Ge × List Gr × Int × Int × Int × List Gn × List (List Gv) × List Gi × List Int) ((List Ge) × Gt))
 | [],_,b,c,d,h,i,j,k,l,m=>some (.go (b,c,d,h,i,j,k,l,m))
 | t :: u,v,b,c,d,h,i,j,k,l,m=>
 (r_r04_expr (⟨(⟨(⟨c,j⟩:GProgram),k,l⟩:GSource),d,m,h,i⟩:Gt) t p).bind fun x=>
 pel x fun o a=>
 (app b ([o]:List Ge)).bind fun w=>
 F_r04_exprs_L0 fu r_r04_exprs r_r04_expr p u (v+1) w a.out_.Program.Records a.f a.line a.e a.out_.Program.Funcs a.out_.Vars a.out_.Stmts a.open_
def F_r04_exprs (fu:Nat)(r_r04_exprs:T_r04_exprs) (r_r04_expr:T_r04_expr) (a:Gt) (p:(List Ge)) (t:Int):Option ((List Ge) × Gt):=
 (F_r04_exprs_L0 fu r_r04_exprs r_r04_expr t p 0 ([]:List Ge) a.out_.Program.Records a.f a.line a.e a.out_.Program.Funcs a.out_.Vars a.out_.Stmts a.open_).bind fun u=>u.el (fun u=>
 pel u fun b u=>pel u fun c u=>pel u fun d u=>pel u fun h u=>pel u fun i u=>pel u fun j u=>pel u fun k u=>pel u fun l m=>
 some (b,(⟨(⟨(⟨c,j⟩:GProgram),k,l⟩:GSource),d,m,h,i⟩:Gt))
 ) (fun o=>some o)
def tab_r04_expr:Nat→(Gt→Ge→Int→Option (Ge × Gt)) × (Gt→(List Ge)→Int→Option ((List Ge) × Gt))
 | 0=>((fun _ _ _=>none),(fun _ _ _=>none))
 | fu+1=>(F_r04_expr fu ((tab_r04_expr fu).2) ((tab_r04_expr fu).1),F_r04_exprs fu ((tab_r04_expr fu).2) ((tab_r04_expr fu).1))
def m_r04_expr (fu:Nat):=(tab_r04_expr fu).1
def m_r04_exprs (fu:Nat):=(tab_r04_expr fu).2
theorem wk_r04_expr (fu:Nat)(r_r04_exprs:T_r04_exprs) (r_r04_expr:T_r04_expr) (H_r04_exprs:Ct_r04_exprs r_r04_exprs) (H_r04_expr:Ct_r04_expr r_r04_expr):Ct_r04_expr (F_r04_expr fu r_r04_exprs r_r04_expr):=by
 intro w0 bZ o b x2 ae I J z A K a5 B C p a6 a7 D E L a8 F H M a9 c j R hP Y a0 a1 a2 a3 Q
 unfold F_r04_expr at Q
 have a:=hP.bx
 clear hP
 generalize hG:Gof _=G at a ⊢
 refine cf Try.func132 r ?_
 refine wCut [(0,Pt ae),(1,.agg #[V b.Op,V b.Number,V b.Var,T b.Name,T b.Field,Z c b.Args j]),(2,V x2)] ⟨r,r,r,y⟩ fun c0=>?_
 refine q (g (sTo (aNewB a (mBox r)) ?_))
 rintro _ w1 ⟨b1,rfl,a⟩
 refine sTo (aNewB a (mAlloc ti138)) ?_
 rintro _ w2 ⟨b2,rfl,a⟩
 refine n (q (q (g (s (mp r) (s (xn r) (s (f115_7 r) (s (l37 r (a.bk 2 r) r) (s (xNeqD r r) (n ?_)))))))))
 rcases iv Q with ⟨h3,Q⟩|⟨h3,Q⟩
 ·refine wIfT (bt h3) (q (g (s (xLoadS [V b.Op,V b.Number,V b.Var,T b.Name,T b.Field,Z c b.Args j] u138_ r ti138 r r (Cells.part (a.bk 1 r).cells (o2:=0) r)) (sTs (tb a 0 [V b.Op,V b.Number,V b.Var,T b.Name,T b.Field,Z c b.Args j] r ti138 r r r r r (show _=#[V b.Op,V b.Number,V b.Var,T b.Name,T b.Field,Z c b.Args j] from r)) ?_))))
  intro w4 a
  try dsimp only [List.set] at a
  refine n (wRt ?_)
  obtain rfl:=sm Q
  refine resV1 r (rdA r u138_ r ti138 r (a.bk 0 r)) ?_
  exact pok (⟨c,j,r,(a.ad [2,3,4,5,6,7] [5,0,1,2,3,4])⟩)
 refine wIfF (bf h3) (wk (q (q (g (s (f138_0 r) (s (l3 r (a.bk 1 r) r) (n ?_)))))))
 obtain ⟨Y5,m,Q⟩:=bs Q
 refine wJd (fun f w=>∃ (aa:Int)(ab:Int)(aj:List Gr) (ap:Int)(aq:Int)(ar:Int)(ak:List Gn) (al:List (List Gv)) (am:List Gi) (ag:List Int),Has f [(0,Pt ae),(2,V x2),(4,Pt b1),(6,Pt b2)]∧Bx w0 w bZ G [.box b2 138 #[V 0,V 0,V 0,T be,T be,sn],.box b1 138 #[V b.Op,V aa,V ab,T b.Name,T b.Field,Z c b.Args j],.box ae 115 #[Z I aj J,Z z ak A,Z B al C,Z D am E,V ap,Z F ag H,V aq,V ar],O a5 z A 82 Gn K,O a6 B C 60 (List Gv) (p.map Rw.hdr),.fam a7 59 (sz Gv) p none,O a8 D E 65 Gi L,O a9 F H 3 Int M] [.l I J aj,.els K ak,.els2 p al,.els L am,.els M ag,.l c j b.Args]∧Ld.go (aa,ab,aj,ap,aq,ar,ak,al,am,ag)=Y5) (fun J5 az=>?_) ?_
 ·unfold F_r04_expr_J0 at m
  refine wBk (q ?_)
  obtain ⟨Y6,af,m⟩:=bs m
  refine wJd (fun f w=>∃ (au:Bool),Has f [(0,Pt ae),(2,V x2),(4,Pt b1),(6,Pt b2),(20,.bool au)]∧Bx w0 w bZ G [.box b2 138 #[V 0,V 0,V 0,T be,T be,sn],.box b1 138 #[V b.Op,V b.Number,V b.Var,T b.Name,T b.Field,Z c b.Args j],.box ae 115 #[Z I o.out_.Program.Records J,Z z o.out_.Program.Funcs A,Z B o.out_.Vars C,Z D o.out_.Stmts E,V o.f,Z F o.open_ H,V o.line,V o.e],O a5 z A 82 Gn K,O a6 B C 60 (List Gv) (p.map Rw.hdr),.fam a7 59 (sz Gv) p none,O a8 D E 65 Gi L,O a9 F H 3 Int M] [.l I J o.out_.Program.Records,.els K o.out_.Program.Funcs,.els2 p o.out_.Vars,.els L o.out_.Stmts,.els M o.open_,.l c j b.Args]∧Ld.go au=Y6) (fun J6 aF=>?_) ?_
  ·unfold F_r04_expr_J1 at af
   refine q (g (s (xEqlD r r) (s (xAsB r) (n ?_))))
   rcases iv af with ⟨h7,af⟩|⟨h7,af⟩
   ·refine wIfT (bt h7) (wk ?_)
    exact aF _ _ ⟨(decide (b.Op=1)),⟨r,r,r,r,r,y⟩,a,sm af⟩
   refine wIfF (bf h7) (q (g (s (xEqlD r r) (s (xAsB r) (n ?_)))))
   rcases iv af with ⟨h8,af⟩|⟨h8,af⟩
   ·refine wIfT (bt h8) (wk ?_)
    exact aF _ _ ⟨(decide (b.Op=2)),⟨r,r,r,r,r,y⟩,a,sm af⟩
   refine wIfF (bf h8) (g (s (xEqlD r r) (s (xAsB r) (n ?_))))
   exact aF _ _ ⟨(decide (b.Op=3)),⟨r,r,r,r,r,y⟩,a,sm af⟩
  clear a
  rintro f w ⟨au,hf,a,b3⟩
  obtain ⟨c0,rfl⟩:=has_updL _ _ hf
  clear hf
  subst b3
  replace m:=gi m
  rcases iv m with ⟨h9,m⟩|⟨h9,m⟩
  ·refine wIfT (cb h9) (q (g (s (mp r) (s (f138_3 r) (s (l9 r (a.bk 1 r) r) ?_)))))
   obtain ⟨⟨N,b4⟩,b5,m⟩:=bs m
   replace m:=pi m
   have hc:=(sp_r04_lookup fu) (a.pr [2,3,4,5,6,7] [0,1] [0,1,2,3,4] r) (a.le Y) (a.le a0) (a.le a1) (a.le a2) (a.le a3) b5
   refine sc (ec cal98 r) hc ?_
   rintro _ br ⟨rfl,hK⟩
   replace a:=a.cl [2,3,4,5,6,7] [0,1] r hK r
   try dsimp only [pick,nth,ca,na] at a
   refine s xMove (s (xExtract r r) (s (xExtract r r) (s (xi r) (s (xAsB r) (n (q (q (g (s (xMvB r) (s (xNot r) (n ?_)))))))))))
   rcases iv m with ⟨av,m⟩|⟨av,m⟩
   ·refine wIfT (cb av) (q (g (s (mp r) (s (mi r) ?_))))
    obtain ⟨b6,b7,m⟩:=bs m
    have hc:=(sp_r04_fail fu) (a.pr [0,1,2,3,4,5] [6,7] [5,1,2,3,4] r) (a.le Y) (a.le a0) (a.le a1) (a.le a2) (a.le a3) b7
    refine sc (ec cal72 r) hc ?_
    rintro _ bu ⟨rfl,hK⟩
    replace a:=a.cl [0,1,2,3,4,5] [6,7] r hK r
    try dsimp only [pick,nth,ca,na] at a
    refine n (q (g (s (xLoadS [V b.Op,V b.Number,V b.Var,T b.Name,T b.Field,Z c b.Args j] u138_ r ti138 r r (Cells.part (a.bk 7 r).cells (o2:=0) r)) (sTs (tb a 6 [V b.Op,V b.Number,V b.Var,T b.Name,T b.Field,Z c b.Args j] r ti138 r r r r r (show _=#[V b.Op,V b.Number,V b.Var,T b.Name,T b.Field,Z c b.Args j] from r)) ?_))))
    intro bv a
    try dsimp only [List.set] at a
    refine n (wRt ?_)
    obtain rfl:=sm m
    replace Q:=oi Q
    obtain rfl:=sm Q
    refine resV1 r (rdA r u138_ r ti138 r (a.bk 6 r)) ?_
    exact pok (⟨c,j,r,(a.ad [0,1,2,3,4,5] [15,0,1,2,3,4])⟩)
   replace av:=nt av
   refine wIfF (cb av) (wk (q ?_))
   obtain ⟨bw,aw,m⟩:=bs m
   obtain ⟨bz,aP,aw⟩:=ix_inv aw
   replace a:=a.arr [3,0,1,2,4,5,6,7] r
   try dsimp only [pick,nth,ca,na] at a
   obtain ⟨bA,bB,bC,ax,aQ,a⟩:=a.foc 2 rfl aw
   refine wDr1 a [0,1,2,4] [0,3] [] (by kernel_rfl) ?_
   replace a:=a.drew
   have W:=(a.ad [0,1,2,4] [0,3])
   refine pF 0 r (mp r) W (pF 1 r (xn r) W (pF 2 r (f115_0 r) W (pF 3 r (f30_2 r) W (uF 4 r (fun hS=>l27 r (hS.bk 2 r) r) W (pF 5 r (mp r) W (pF 6 r (xn r) W (pF 7 r (f115_4 r) W (uF 8 r (fun hS=>l3 r (hS.bk 2 r) r) W (pF 9 r (xIdH u27_ ti60 r r aP (a.bo 4 r) ax (a.d2 3 r).len) W (uF 10 r (fun hS=>xLoad u60_ r r (hS.hc 3 r ax aQ 0 _ r)) W (pF 11 r (mi r) W ?_)))))))))))
   obtain ⟨t,an,m⟩:=bs m
   obtain ⟨bD,aR,an⟩:=ix_inv an
   refine pF 12 r (xIdR u60_ ti59 r r aR (a.vw 0 0 r r) an) W (uF 13 r (fun hS=>xLoadS [T t.Name,V t.Kind,V t.Record,V t.Words,.bool t.Param,V t.From,V t.To] u59_ r ti59 r r (elF (ds:=[T t.Name,V t.Kind,V t.Record,V t.Words,.bool t.Param,V t.From,V t.To]) (hS.vw 0 0 r r) an (fun _ h=>h))) W ?_)
   refine hO 14 (oo r r (aNewB a (mAlloc ti59)) ?_)
   rintro _ bE ⟨bF,rfl,a⟩
   have W:=(a.ad [1,2,3,5] [0,3])
   refine ⟨(sF W),?_⟩
   refine hO 15 (os r r (tb a 0 [T t.Name,V t.Kind,V t.Record,V t.Words,.bool t.Param,V t.From,V t.To] r ti59 r r r r r (show _=#[T t.Name,V t.Kind,V t.Record,V t.Words,.bool t.Param,V t.From,V t.To] from r)) ?_)
   intro bG a
   try dsimp only [List.set] at a
   have W:=(a.ad [1,2,3,5] [0,3])
   refine ⟨(sF W),?_⟩
   refine hD (q (q (g (s (f59_1 r) (s (l3 r (a.bk 0 r) r) (s (f138_0 r) (s (l3 r (a.bk 9 r) r) (s (xAddW r r) (s (xSubW r r) (s (xNeqD r r) (n ?_)))))))))))
   replace a:=a.arr [1,2,0,3,4,5,6,7,8,9] r
   try dsimp only [pick,nth,ca,na] at a
   replace a:=a.unf0 3 0 r r ax
   rcases iv m with ⟨aG,m⟩|⟨aG,m⟩
   ·refine wIfT (bt aG) (q (g (s (mp r) (s (mi r) ?_))))
    obtain ⟨b8,b9,m⟩:=bs m
    have hc:=(sp_r04_fail fu) (a.pr [2,3,4,0,5,6] [1,7,8] [6,2,3,4,5] r) (a.le Y) (a.le a0) (a.le a1) (a.le a2) (a.le a3) b9
    refine sc (ec cal72 r) hc ?_
    rintro _ bH ⟨rfl,hK⟩
    replace a:=a.cl [2,3,4,0,5,6] [1,7,8] r hK r
    try dsimp only [pick,nth,ca,na] at a
    refine n (q (g (s (xLoadS [V b.Op,V b.Number,V b.Var,T b.Name,T b.Field,Z c b.Args j] u138_ r ti138 r r (Cells.part (a.bk 8 r).cells (o2:=0) r)) (sTs (tb a 7 [V b.Op,V b.Number,V b.Var,T b.Name,T b.Field,Z c b.Args j] r ti138 r r r r r (show _=#[V b.Op,V b.Number,V b.Var,T b.Name,T b.Field,Z c b.Args j] from r)) ?_))))
    intro bI a
    try dsimp only [List.set] at a
    refine n (wRt ?_)
    obtain rfl:=sm m
    replace Q:=oi Q
    obtain rfl:=sm Q
    refine resV1 r (rdA r u138_ r ti138 r (a.bk 7 r)) ?_
    exact pok (⟨c,j,r,(a.ad [0,1,2,3,4,5] [16,0,1,2,3,4])⟩)
   refine wIfF (bf aG) (wk (q (g (s (mi r) (s (f138_2 r) (sTs (tb a 8 [V N] r ti3 r r r r r (show _=#[V b.Op,V b.Number,V N,T b.Name,T b.Field,Z c b.Args j] from r)) ?_))))))
   intro bJ a
   try dsimp only [List.set] at a
   refine n (q (g (s (f138_0 r) (s (l3 r (a.bk 8 r) r) (s (xEqlD r r) (n ?_))))))
   rcases iv m with ⟨aH,m⟩|⟨aH,m⟩
   ·refine wIfT (bt aH) (q (g (s (f138_1 r) (sTs (tb a 8 [V (-1)] r ti3 r r r r r (show _=#[V b.Op,V (-1),V N,T b.Name,T b.Field,Z c b.Args j] from r)) ?_))))
    intro bK a
    try dsimp only [List.set] at a
    refine n (q (q ?_))
    obtain ⟨a4,ao,m⟩:=bs m
    obtain ⟨bL,aS,ao⟩:=ix_inv ao
    obtain ⟨bl,aT,a⟩:=a.nm 6 rfl ao
    obtain ⟨ah,ai,rfl,aI⟩:=GRecord.out aT
    replace a:=a.dadd (d:=.l ah ai a4.Fields) aI
    refine wDr1 a [1,2] [0,1,8] [] (by kernel_rfl) ?_
    replace a:=a.drew
    have W:=(a.ad [1,2] [0,1,8])
    refine pF 0 r (mp r) W (pF 1 r (xn r) W (pF 2 r (f115_0 r) W (pF 3 r (f30_0 r) W (pF 4 r (f26_0 r) W (uF 5 r (fun hS=>l23 r (hS.bk 1 r) r) W (pF 6 r (f59_2 r) W (uF 7 r (fun hS=>l3 r (hS.bk 0 r) r) W (pF 8 r (xIdR u23_ ti127 r r aS (a.dl 8 r) ao) W (pF 9 r (f127_1 r) W (uF 10 r (fun hS=>xLoad u70_ r r ((hS.dc 1 r) 1 _ r)) W (pF 11 r (xLnR u70_ r) W (pF 12 r (mi r) W (hD ?_)))))))))))))
    have bm:=(a.dl 0 r).bd
    obtain ⟨aU,S,m⟩:=bs m
    refine wJd (fun f w=>∃ (x:Int),Has f [(0,Pt ae),(2,V x2),(4,Pt b1),(6,Pt b2)]∧Bx w0 w bZ G [.fam a7 59 (sz Gv) p none,.box ae 115 #[Z I o.out_.Program.Records J,Z z o.out_.Program.Funcs A,Z B o.out_.Vars C,Z D o.out_.Stmts E,V o.f,Z F o.open_ H,V o.line,V o.e],O a5 z A 82 Gn K,O a6 B C 60 (List Gv) (p.map Rw.hdr),O a8 D E 65 Gi L,O a9 F H 3 Int M,.box b2 138 #[V 0,V 0,V 0,T be,T be,sn],.box b1 138 #[V b.Op,V x,V N,T b.Name,T b.Field,Z c b.Args j]] [.l ah ai a4.Fields,.els K o.out_.Program.Funcs,.els2 p o.out_.Vars,.els L o.out_.Stmts,.els M o.open_,.l I J o.out_.Program.Records,.l c j b.Args]∧Ld.go x=aU) (fun bM aV=>?_) ?_
    ·refine wBk (wLoopGd (fun c1 f w=>∃ (X:Nat)(x:Int),c1=a4.Fields.length - X∧X≤a4.Fields.length∧Has f [(80,V (X:Int)),(0,Pt ae),(2,V x2),(4,Pt b1),(6,Pt b2),(78,Z ah a4.Fields ai),(79,V (a4.Fields.length:Int))]∧Bx w0 w bZ G [.fam a7 59 (sz Gv) p none,.box ae 115 #[Z I o.out_.Program.Records J,Z z o.out_.Program.Funcs A,Z B o.out_.Vars C,Z D o.out_.Stmts E,V o.f,Z F o.open_ H,V o.line,V o.e],O a5 z A 82 Gn K,O a6 B C 60 (List Gv) (p.map Rw.hdr),O a8 D E 65 Gi L,O a9 F H 3 Int M,.box b2 138 #[V 0,V 0,V 0,T be,T be,sn],.box b1 138 #[V b.Op,V x,V N,T b.Name,T b.Field,Z c b.Args j]] [.l ah ai a4.Fields,.els K o.out_.Program.Funcs,.els2 p o.out_.Vars,.els L o.out_.Stmts,.els M o.open_,.l I J o.out_.Program.Records,.l c j b.Args]∧F_r04_expr_L2 fu r_r04_exprs r_r04_expr b (a4.Fields.drop X) X x=some aU) (a4.Fields.length) ⟨0,(-1),r,Nat.zero_le _,⟨r,r,r,r,r,r,r,y⟩,(a.ad [0,2,3,4,5,6,7,8] [0,4,5,6,7,8,13]),S⟩ ?_)
     clear a S
     rintro c1 f w ⟨X,x,rfl,bn,hf,a,S⟩ bN aD
     obtain ⟨c0,rfl⟩:=has_updL _ _ hf
     clear hf
     rcases Nat.lt_or_ge X a4.Fields.length with aE | aE
     ·obtain ⟨ba,ay⟩:=get_ex (l:=a4.Fields) aE
      rw [drop_id ay,F_r04_expr_L2] at S
      refine q (g (s (xLssT r r (by omega)) (n (q (wIfT r (wk (q (wBk (q (g (s (mi r) (s (xIdR u70_ ti9 r r r (a.dl 0 r) ay) (s (xLoad u9_ r r ((elF (ds:=[T ba]) (a.dl 0 r) ay (fun _ h=>h)) 0 _ r)) ?_)))))))))))))
      refine s (xi r) (s (xAsT r) (n (q (g (s (xMvT r) (s (f138_4 r) (s (l9 r (a.bk 7 r) r) (s (xEqlT' r r) (n ?_)))))))))
      rcases iv S with ⟨aJ,S⟩|⟨aJ,S⟩
      ·refine wIfT (bt aJ) (g (s (mi r) (s (f138_1 r) (sTs (tb a 7 [V (X:Int)] r ti3 r r r r r (show _=#[V b.Op,V (X:Int),V N,T b.Name,T b.Field,Z c b.Args j] from r)) ?_))))
       intro bO a
       try dsimp only [List.set] at a
       refine n (g (s (xAdd64 r r (by omega) (by omega)) (s (mi r) (n ?_))))
       exact aD (a4.Fields.length - (X+1)) _ _ (by omega) ⟨X+1,(X:Int),r,by omega,⟨r,r,r,r,r,r,r,y⟩,a,S⟩
      refine wIfF (bf aJ) (wk (g (s (xAdd64 r r (by omega) (by omega)) (s (mi r) (n ?_)))))
      exact aD (a4.Fields.length - (X+1)) _ _ (by omega) ⟨X+1,x,r,by omega,⟨r,r,r,r,r,r,r,y⟩,a,S⟩
     obtain rfl:X=a4.Fields.length:=by omega
     rw [drop_end,F_r04_expr_L2] at S
     refine q (g (s (xLssF r r (by omega)) (n (q (wIfF r (wEx ?_))))))
     exact aV _ _ ⟨x,⟨r,r,r,r,y⟩,a,sm S⟩
    clear a
    rintro f w ⟨x,hf,a,aW⟩
    obtain ⟨c0,rfl⟩:=has_updL _ _ hf
    clear hf
    subst aW
    replace m:=gi m
    refine q (g (s (f138_1 r) (s (l3 r (a.bk 7 r) r) (s (xLss r r) (n ?_)))))
    rcases iv m with ⟨aK,m⟩|⟨aK,m⟩
    ·refine wIfT (bt aK) (g (s (mp r) (s (mi r) ?_)))
     obtain ⟨U,bb,m⟩:=bs m
     have hc:=(sp_r04_fail fu) (a.pr [1,2,3,0,4,5] [6,7] [5,1,2,3,4] r) (a.le Y) (a.le a0) (a.le a1) (a.le a2) (a.le a3) bb
     refine sc (ec cal72 r) hc ?_
     rintro _ bP ⟨rfl,hK⟩
     replace a:=a.cl [1,2,3,0,4,5] [6,7] r hK r
     try dsimp only [pick,nth,ca,na] at a
     refine n ?_
     exact az _ _ ⟨x,N,U.out_.Program.Records,U.f,U.line,U.e,U.out_.Program.Funcs,U.out_.Vars,U.out_.Stmts,U.open_,⟨r,r,r,r,y⟩,(a.ad [6,7,0,1,2,3,4,5] [0,1,2,3,4,11]),sm m⟩
    refine wIfF (bf aK) (wk ?_)
    exact az _ _ ⟨x,N,o.out_.Program.Records,o.f,o.line,o.e,o.out_.Program.Funcs,o.out_.Vars,o.out_.Stmts,o.open_,⟨r,r,r,r,y⟩,(a.ad [6,7,1,2,3,0,4,5] [5,1,2,3,4,6]),sm m⟩
   refine wIfF (bf aH) (wk ?_)
   exact az _ _ ⟨b.Number,N,o.out_.Program.Records,o.f,o.line,o.e,o.out_.Program.Funcs,o.out_.Vars,o.out_.Stmts,o.open_,⟨r,r,r,r,y⟩,(a.ad [7,8,2,3,4,0,5,6] [6,2,3,4,5,11]),sm m⟩
  replace h9:=nt h9
  refine wIfF (cb h9) (wk ?_)
  exact az _ _ ⟨b.Number,b.Var,o.out_.Program.Records,o.f,o.line,o.e,o.out_.Program.Funcs,o.out_.Vars,o.out_.Stmts,o.open_,⟨r,r,r,r,y⟩,a,sm m⟩
 clear a
 rintro f w ⟨aa,ab,aj,ap,aq,ar,ak,al,am,ag,hf,a,bc⟩
 obtain ⟨c0,rfl⟩:=has_updL _ _ hf
 clear hf
 subst bc
 replace Q:=gi Q
 replace Q:=pi Q
 replace Q:=pi Q
 replace Q:=pi Q
 replace Q:=pi Q
 replace Q:=pi Q
 replace Q:=pi Q
 replace Q:=pi Q
 replace Q:=pi Q
 replace Q:=pi Q
 refine q (g (s (mp r) (s (f138_5 r) (s (l109 r (a.bk 1 r) r) (s (mi r) ?_)))))
 obtain ⟨⟨ac,bg⟩,bh,Q⟩:=bs Q
 replace Q:=pi Q
 have hc:=H_r04_exprs (a.pr [2,3,4,5,6,7] [0,1] [0,1,2,3,4,5] r) (a.le Y) (a.le a0) (a.le a1) (a.le a2) (a.le a3) bh
 refine sc (ec cal117 r) hc ?_
 rintro _ bQ ⟨u,v,aL,rfl,hK⟩
 have bi:=a.chg.size
 replace a:=a.cl [2,3,4,5,6,7] [0,1] r hK r
 try dsimp only [pick,nth,ca,na] at a
 replace a:=a.reb 0 w0.heap.size r bi
 try dsimp only [List.set] at a
 refine s (f138_5 r) (sTs (tb a 8 [Z u ac v] r ti109 r r r r r (show _=#[V b.Op,V aa,V ab,T b.Name,T b.Field,Z u ac v] from r)) ?_)
 intro bR a
 try dsimp only [List.set] at a
 refine n (q (g (s (xLoadS [V b.Op,V aa,V ab,T b.Name,T b.Field,Z u ac v] u138_ r ti138 r r (Cells.part (a.bk 8 r).cells (o2:=0) r)) (sTs (tb a 7 [V b.Op,V aa,V ab,T b.Name,T b.Field,Z u ac v] r ti138 r r r r r (show _=#[V b.Op,V aa,V ab,T b.Name,T b.Field,Z u ac v] from r)) ?_))))
 intro bS a
 try dsimp only [List.set] at a
 refine n (wRt ?_)
 replace a:=a.frz 0 0 r r
 try dsimp only [List.eraseIdx] at a
 obtain rfl:=sm Q
 refine resV1 r (rdA r u138_ r ti138 r (a.bk 6 r)) ?_
 exact pok (⟨u,v,r,(a.ad [0,1,2,3,4,5] [0,1,2,3,4,5])⟩)
theorem wk_r04_exprs (fu:Nat)(r_r04_exprs:T_r04_exprs) (r_r04_expr:T_r04_expr) (H_r04_exprs:Ct_r04_exprs r_r04_exprs) (H_r04_expr:Ct_r04_expr r_r04_expr):Ct_r04_exprs (F_r04_exprs fu r_r04_exprs r_r04_expr):=by
 intro w0 aQ x0 x1 x2 ab L M u v N a5 x z i a6 a7 A B Q a8 C D S a9 X Y R hP ae af ag ah ai W
 unfold F_r04_exprs at W
 have a:=hP.bx
 clear hP
 generalize hG:Gof _=G at a ⊢
 refine cf Try.func117 r ?_
 refine wCut [(0,Pt ab),(1,Z X x1 Y),(2,V x2)] ⟨r,r,r,y⟩ fun aR=>?_
 refine q (g (s (xAsS r) (n (q (g (s (xAsS r) (n (q (q (g (s (xMvS r) (s (xLnR u109_ r) (s (mi r) ?_)))))))))))))
 refine n ?_
 replace a:=a.owL Ge 138
 have ax:=(a.dl 6 r).bd
 obtain ⟨Y1,E,W⟩:=bs W
 refine wJd (fun f w=>∃ (j:List Ge) (b:OA)(c:Nat)(h:LV)(k:List Gr) (F:Int)(H:Int)(I:Int)(m:List Gn) (o:List (List Gv)) (p:List Gi) (t:List Int),Has f [(7,Z b j c)]∧Bx w0 w aQ G [O w0.heap.size b c 138 Ge h,.box ab 115 #[Z L k M,Z u m v,Z x o z,Z A p B,V F,Z C t D,V H,V I],O a5 u v 82 Gn N,O a6 x z 60 (List Gv) (i.map Rw.hdr),.fam a7 59 (sz Gv) i none,O a8 A B 65 Gi Q,O a9 C D 3 Int S] [.l L M k,.els h j,.els N m,.els2 i o,.els Q p,.els S t,.l X Y x1]∧Ld.go (j,k,F,H,I,m,o,p,t)=Y1) (fun J1 ao=>?_) ?_
 ·refine wBk (wLoopGd (fun aS f w=>∃ (k1:Nat)(j:List Ge) (b:OA)(c:Nat)(h:LV)(k:List Gr) (F:Int)(H:Int)(I:Int)(m:List Gn) (o:List (List Gv)) (p:List Gi) (t:List Int),aS=x1.length - k1∧k1≤x1.length∧Has f [(12,V (k1:Int)),(0,Pt ab),(2,V x2),(7,Z b j c),(10,Z X x1 Y),(11,V (x1.length:Int))]∧Bx w0 w aQ G [O w0.heap.size b c 138 Ge h,.box ab 115 #[Z L k M,Z u m v,Z x o z,Z A p B,V F,Z C t D,V H,V I],O a5 u v 82 Gn N,O a6 x z 60 (List Gv) (i.map Rw.hdr),.fam a7 59 (sz Gv) i none,O a8 A B 65 Gi Q,O a9 C D 3 Int S] [.l L M k,.els h j,.els N m,.els2 i o,.els Q p,.els S t,.l X Y x1]∧F_r04_exprs_L0 fu r_r04_exprs r_r04_expr x2 (x1.drop k1) k1 j k F H I m o p t=some Y1) (x1.length) ⟨0,([]:List Ge),none,0,[],x0.out_.Program.Records,x0.f,x0.line,x0.e,x0.out_.Program.Funcs,x0.out_.Vars,x0.out_.Stmts,x0.open_,r,Nat.zero_le _,⟨r,r,r,r,r,r,y⟩,(a.dp [1,0,2,3,4,5,6]),E⟩ ?_)
  clear a E
  rintro aS f w ⟨k1,j,b,c,h,k,F,H,I,m,o,p,t,rfl,ay,hf,a,E⟩ K1 ap
  obtain ⟨aR,rfl⟩:=has_updL _ _ hf
  clear hf
  rcases Nat.lt_or_ge k1 x1.length with ak | ak
  ·obtain ⟨K,aj⟩:=get_ex (l:=x1) ak
   rw [drop_id aj,F_r04_exprs_L0] at E
   obtain ⟨az,aq,a⟩:=a.nm 6 rfl aj
   obtain ⟨a0,a1,rfl,al⟩:=GExpr.out aq
   replace a:=a.dadd (d:=.l a0 a1 K.Args) al
   refine q (g (s (xLssT r r (by omega)) (n (q (wIfT r (wk (q (wBk (q (g (s (xIdR u109_ ti138 r r r (a.dl 8 r) aj) (s (xLoadS [V K.Op,V K.Number,V K.Var,T K.Name,T K.Field,Z a0 K.Args a1] u138_ r ti138 r r (a.dc 1 r)) (sTo (aNewB a (mAlloc ti138)) ?_)))))))))))))
   rintro _ w4 ⟨b4,rfl,a⟩
   refine sTs (tb a 0 [V K.Op,V K.Number,V K.Var,T K.Name,T K.Field,Z a0 K.Args a1] r ti138 r r r r r (show _=#[V K.Op,V K.Number,V K.Var,T K.Name,T K.Field,Z a0 K.Args a1] from r)) ?_
   intro w5 a
   try dsimp only [List.set] at a
   refine n (g (s (xMvS r) (s (mp r) (s (xLoadS [V K.Op,V K.Number,V K.Var,T K.Name,T K.Field,Z a0 K.Args a1] u138_ r ti138 r r (Cells.part (a.bk 0 r).cells (o2:=0) r)) (s (mi r) ?_)))))
   obtain ⟨⟨U,J⟩,h6,E⟩:=bs E
   replace E:=pi E
   have hc:=H_r04_expr (a.pr [2,3,4,5,6,7] [0,1] [2,4,5,6,7,0] r) (a.le ae) (a.le af) (a.le ag) (a.le ah) (a.le ai) h6
   refine sc (ec cal132 r) hc ?_
   rintro _ w6 ⟨a2,a3,rfl,hK⟩
   replace a:=a.cl [2,3,4,5,6,7] [0,1] r hK r
   try dsimp only [pick,nth,ca,na] at a
   refine sTo (aRowB a [[V U.Op,V U.Number,V U.Var,T U.Name,T U.Field,Z a2 U.Args a3]] ([U]:List Ge) (bs109_1_a r) r r (by decide) ⟨(GExpr.inn ⟨a2,a3,r,(a.dl 0 r)⟩),y⟩) ?_
   rintro _ w7 ⟨b7,rfl,a⟩
   obtain ⟨r8,ar,E⟩:=bs E
   refine sTo (aAppB a 8 10 r r u109_ ti138 r (by decide) (by decide) (Nat.le_refl _) r r (a.ysO 0 0 r r) ar) ?_
   rintro _ w8 ⟨A8,C8,Q8,rfl,a⟩
   refine s (xAsS r) (n (g (s (xAdd64 r r (by omega) (by omega)) (s (mi r) (n ?_)))))
   exact ap (x1.length - (k1+1)) _ _ (by omega) ⟨k1+1,r8,A8,C8,Q8,J.out_.Program.Records,J.f,J.line,J.e,J.out_.Program.Funcs,J.out_.Vars,J.out_.Stmts,J.open_,r,by omega,⟨r,r,r,r,r,r,y⟩,(a.ad [8,1,2,3,4,5,6] [2,10,3,4,5,6,15]),E⟩
  obtain rfl:k1=x1.length:=by omega
  rw [drop_end,F_r04_exprs_L0] at E
  refine q (g (s (xLssF r r (by omega)) (n (q (wIfF r (wEx ?_))))))
  exact ao _ _ ⟨j,b,c,h,k,F,H,I,m,o,p,t,⟨r,y⟩,a,sm E⟩
 clear a
 rintro f w ⟨j,b,c,h,k,F,H,I,m,o,p,t,hf,a,au⟩
 obtain ⟨aR,rfl⟩:=has_updL _ _ hf
 clear hf
 subst au
 replace W:=gi W
 replace W:=pi W
 replace W:=pi W
 replace W:=pi W
 replace W:=pi W
 replace W:=pi W
 replace W:=pi W
 replace W:=pi W
 replace W:=pi W
 refine q (g (s (xMvS r) (s (xAsS r) (n (wRt ?_)))))
 obtain rfl:=sm W
 refine resV1 r (rdT r) ?_
 exact pok (⟨b,c,h,r,(a.dp [1,0,2,3,4,5])⟩)
theorem sps_r04_expr (fu:Nat):Ct_r04_expr (m_r04_expr fu)∧Ct_r04_exprs (m_r04_exprs fu):=by
 induction fu with
 | zero=>exact ⟨by intro a b;intros;exact nn (by assumption),by intro a b;intros;exact nn (by assumption)⟩
 | succ fu ih=>exact ⟨wk_r04_expr fu (m_r04_exprs fu) (m_r04_expr fu) ih.2 ih.1,wk_r04_exprs fu (m_r04_exprs fu) (m_r04_expr fu) ih.2 ih.1⟩
theorem sp_r04_exprs (fu:Nat):Ct_r04_exprs (m_r04_exprs fu):=(sps_r04_expr fu).2
def Ct_r04_callee (m:Gt→Gs→Option (Gt × Gs)):Prop:=∀ {X:World} {Y:Nat→Prop} {L:Gt} {c:Gs} {U:Nat} {x:Option Addr} {z:Nat} {d:Option Addr} {h:Nat} {A:List (List Value)} {M:Nat} {i:Option Addr} {j:Nat} {a:List Rw} {N:Nat} {P:Nat} {k:Option Addr} {o:Nat} {B:List (List Value)} {Q:Nat} {p:Option Addr} {t:Nat} {C:List (List Value)} {S:Nat} {W:Nat} {D:Option Addr} {E:Nat} {F:Option Addr} {G:Nat} {H:Option Addr} {I:Nat} {J:Option Addr} {K:Nat} {R:Gt × Gs},Pre X Y [.box U 115 #[Z x L.out_.Program.Records z,Z d L.out_.Program.Funcs h,Z i L.out_.Vars j,Z k L.out_.Stmts o,V L.f,Z p L.open_ t,V L.line,V L.e],O M d h 82 Gn A,O N i j 60 (List Gv) (a.map Rw.hdr),.fam P 59 (sz Gv) a none,O Q k o 65 Gi B,O S p t 3 Int C,.box W 111 #[V c.Kind,V c.Line,V c.Id,T c.Name,T c.Type_,V c.Len,V c.Var,Z D c.Target E,T c.Func,V c.Callee,Z F c.Args G,Z H c.Body I,Z J c.Else K]] [.l x z L.out_.Program.Records,.els A L.out_.Program.Funcs,.els2 a L.out_.Vars,.els B L.out_.Stmts,.els C L.open_,.l D E c.Target,.l F G c.Args,.l H I c.Body,.l J K c.Else]→M≤X.heap.size→N≤X.heap.size→P≤X.heap.size→Q≤X.heap.size→S≤X.heap.size→m L c=some R→
 Calls Try.prog 118 #[Pt U,Pt W] X (Ret fun v w=>pel R fun u b=>v=.tuple #[]∧Bx X w Y (Gof [.box U 115 #[Z x L.out_.Program.Records z,Z d L.out_.Program.Funcs h,Z i L.out_.Vars j,Z k L.out_.Stmts o,V L.f,Z p L.open_ t,V L.line,V L.e],O M d h 82 Gn A,O N i j 60 (List Gv) (a.map Rw.hdr),.fam P 59 (sz Gv) a none,O Q k o 65 Gi B,O S p t 3 Int C,.box W 111 #[V c.Kind,V c.Line,V c.Id,T c.Name,T c.Type_,V c.Len,V c.Var,Z D c.Target E,T c.Func,V c.Callee,Z F c.Args G,Z H c.Body I,Z J c.Else K]]) [.box U 115 #[Z x u.out_.Program.Records z,Z d u.out_.Program.Funcs h,Z i u.out_.Vars j,Z k u.out_.Stmts o,V u.f,Z p u.open_ t,V u.line,V u.e],O M d h 82 Gn A,O N i j 60 (List Gv) (a.map Rw.hdr),.fam P 59 (sz Gv) a none,O Q k o 65 Gi B,O S p t 3 Int C,.box W 111 #[V b.Kind,V b.Line,V b.Id,T b.Name,T b.Type_,V b.Len,V b.Var,Z D b.Target E,T b.Func,V b.Callee,Z F b.Args G,Z H b.Body I,Z J b.Else K]] [.l x z u.out_.Program.Records,.els A u.out_.Program.Funcs,.els2 a u.out_.Vars,.els B u.out_.Stmts,.els C u.open_,.l D E b.Target,.l F G b.Args,.l H I b.Body,.l J K b.Else])
def m_r04_callee (fu:Nat)(c:Gt) (a:Gs):Option (Gt × Gs):=
 if c.e≠0 then
  some (c,a)
 else
  (m_r04_Find fu c.out_ a.Func).bind fun j=>
  pel j fun b d=>
  if (!d)=true then
   (m_r04_fail fu c a.Line 8).bind fun f=>
   some (f,(⟨a.Kind,a.Line,a.Id,a.Name,a.Type_,a.Len,a.Var,a.Target,a.Func,b,a.Args,a.Body,a.Else⟩:Gs))
  else
   (ix c.out_.Program.Funcs b).bind fun i=>
   if (a.Args.length:Int)≠(i.Params.length:Int) then
    (m_r04_fail fu c a.Line 11).bind fun h=>
    some (h,(⟨a.Kind,a.Line,a.Id,a.Name,a.Type_,a.Len,a.Var,a.Target,a.Func,b,a.Args,a.Body,a.Else⟩:Gs))
   else
    some (c,(⟨a.Kind,a.Line,a.Id,a.Name,a.Type_,a.Len,a.Var,a.Target,a.Func,b,a.Args,a.Body,a.Else⟩:Gs))
theorem sp_r04_callee (fu:Nat):Ct_r04_callee (m_r04_callee fu):=by
 intro w0 aH F b a6 H I m o X Y p t Q a0 a1 u v a2 a3 S U a4 a5 a7 w x z A B C D E R hP J K L M N h
 unfold m_r04_callee at h
 have a:=hP.bx
 clear hP
 generalize hG:Gof _=G at a ⊢
 refine cf Try.func118 r ?_
 refine wCut [(0,Pt a6),(1,Pt a7)] ⟨r,r,y⟩ fun aI=>?_
 refine q (q (g (s (mp r) (s (xn r) (s (f115_7 r) (s (l37 r (a.bk 0 r) r) (s (xNeqD r r) (n ?_))))))))
 rcases iv h with ⟨h1,h⟩|⟨h1,h⟩
 ·refine wIfT (bt h1) (wRt ?_)
  obtain rfl:=sm h
  refine res0 (P:=Try.prog) (fn:=Try.f118) r ?_
  exact pok (⟨r,a⟩)
 refine wIfF (bf h1) (wk (q (wDr1 a [0,6] [] [] (by kernel_rfl) ?_)))
 replace a:=a.drew
 have c:=(a.ad [0,6] [])
 refine pF 0 r (mp r) c (pF 1 r (xn r) c (pF 2 r (f115_0 r) c (uF 3 r (fun hS=>xLoadS [Z H F.out_.Program.Records I,Z m F.out_.Program.Funcs o,Z p F.out_.Vars t,Z u F.out_.Stmts v] u30_ r ti30 r r (Cells.part (hS.bk 0 r).cells (o2:=0) r)) c (pF 4 r (mp r) c (pF 5 r (xn r) c (pF 6 r (f111_8 r) c (uF 7 r (fun hS=>l9 r (hS.bk 1 r) r) c ?_)))))))
 obtain ⟨⟨j,an⟩,h2,h⟩:=bs h
 replace h:=pi h
 have hc:=(sp_r04_Find fu) (Pre.all (Dc:=[.l H I F.out_.Program.Records,.l m o F.out_.Program.Funcs,.l p t F.out_.Vars,.l u v F.out_.Stmts]) (dcons ((a.dl 0 r)).all (dcons ((a.vw 1 1 r r)).all (dcons ((a.vw2 2 3 2 r r r)).all (dcons ((a.vw 4 3 r r)).all dnil))))) h2
 refine hO 8 (oc r r (ec cal30 r) hc ?_)
 rintro _ w2 ⟨rfl,hK⟩
 replace a:=a.ext hK.ex
 have c:=(a.ad [0,6] [])
 refine ⟨(sF c),?_⟩
 refine pF 9 r (xMove) c (pF 10 r (xExtract r r) c (pF 11 r (xExtract r r) c (pF 12 r (xi r) c (pF 13 r (xAsB r) c (hD (q (wBk (q (g (s (xMvB r) (s (xNot r) (s (xAsB r) (n ?_)))))))))))))
 rcases iv h with ⟨h3,h⟩|⟨h3,h⟩
 ·refine wIfT (cb h3) (g (s (mp r) (s (mp r) (s (xn r) (s (f111_1 r) (s (l3 r (a.bk 6 r) r) ?_))))))
  obtain ⟨ao,h4,h⟩:=bs h
  have hc:=(sp_r04_fail fu) (a.pr [0,1,2,3,4,5] [6] [0,1,2,3,4] r) (a.le J) (a.le K) (a.le L) (a.le M) (a.le N) h4
  refine sc (ec cal72 r) hc ?_
  rintro _ w4 ⟨rfl,hK⟩
  replace a:=a.cl [0,1,2,3,4,5] [6] r hK r
  try dsimp only [pick,nth,ca,na] at a
  refine n (g (s (mp r) (s (mi r) (s (xn r) (s (f111_9 r) (sTs (tb a 6 [V j] r ti3 r r r r r (show _=#[V b.Kind,V b.Line,V b.Id,T b.Name,T b.Type_,V b.Len,V b.Var,Z w b.Target x,T b.Func,V j,Z z b.Args A,Z B b.Body C,Z D b.Else E] from r)) ?_))))))
  intro w5 a
  try dsimp only [List.set] at a
  refine n ?_
  obtain rfl:=sm h
  refine res0 (P:=Try.prog) (fn:=Try.f118) r ?_
  exact pok (⟨r,(a.dp [0,1,2,3,4,10,11,12,13])⟩)
 replace h3:=nt h3
 refine wIfF (cb h3) (q ?_)
 obtain ⟨e6,W,h⟩:=bs h
 obtain ⟨k6,ai,W⟩:=ix_inv W
 obtain ⟨av,aj,ak⟩:=(a.de 1 rfl).get W
 obtain ⟨aa,ab,ac,ae,rfl,af,ag⟩:=GFunc.out ak
 replace a:=a.dadd (d:=.l aa ab e6.Params) af
 replace a:=a.dadd (d:=.l ac ae e6.Body) ag
 refine wDr1 a [0,1,6] [0,1,3] [] (by kernel_rfl) ?_
 replace a:=a.drew
 have c:=(a.ad [0,1,6] [0,1,3])
 refine pF 0 r (mp r) c (pF 1 r (xn r) c (pF 2 r (f111_10 r) c (uF 3 r (fun hS=>l109 r (hS.bk 2 r) r) c (pF 4 r (xLnR u109_ r) c (pF 5 r (mp r) c (pF 6 r (xn r) c (pF 7 r (f115_0 r) c (pF 8 r (f30_0 r) c (pF 9 r (f26_1 r) c (uF 10 r (fun hS=>l24 r (hS.bk 0 r) r) c (pF 11 r (mi r) c (pF 12 r (xIdR u24_ ti82 r r ai (a.vw 1 3 r r) W) c (pF 13 r (f82_2 r) c ?_)))))))))))))
 refine uF 14 r (fun hS=>xLoad u70_ r r ((hS.oc 1 2 r r aj) 2 _ r)) c (pF 15 r (xLnR u70_ r) c (pF 16 r (xNeqD r r) c (pF 17 r (xAsB r) c (hD ?_))))
 rcases iv h with ⟨h8,h⟩|⟨h8,h⟩
 ·refine wIfT (bt h8) (g (s (mp r) (s (mp r) (s (xn r) (s (f111_1 r) (s (l3 r (a.bk 6 r) r) ?_))))))
  obtain ⟨aq,h9,h⟩:=bs h
  have hc:=(sp_r04_fail fu) (a.pr [0,1,2,3,4,5] [6] [2,3,4,5,6] r) (a.le J) (a.le K) (a.le L) (a.le M) (a.le N) h9
  refine sc (ec cal72 r) hc ?_
  rintro _ w9 ⟨rfl,hK⟩
  replace a:=a.cl [0,1,2,3,4,5] [6] r hK r
  try dsimp only [pick,nth,ca,na] at a
  refine n (g (s (mp r) (s (mi r) (s (xn r) (s (f111_9 r) (sTs (tb a 6 [V j] r ti3 r r r r r (show _=#[V b.Kind,V b.Line,V b.Id,T b.Name,T b.Type_,V b.Len,V b.Var,Z w b.Target x,T b.Func,V j,Z z b.Args A,Z B b.Body C,Z D b.Else E] from r)) ?_))))))
  intro ax a
  try dsimp only [List.set] at a
  refine n ?_
  obtain rfl:=sm h
  refine res0 (P:=Try.prog) (fn:=Try.f118) r ?_
  exact pok (⟨r,(a.dp [0,1,2,3,4,12,13,14,15])⟩)
 refine wIfF (bf h8) (wk (g (s (mp r) (s (mi r) (s (xn r) (s (f111_9 r) (sTs (tb a 6 [V j] r ti3 r r r r r (show _=#[V b.Kind,V b.Line,V b.Id,T b.Name,T b.Type_,V b.Len,V b.Var,Z w b.Target x,T b.Func,V j,Z z b.Args A,Z B b.Body C,Z D b.Else E] from r)) ?_)))))))
 intro ay a
 try dsimp only [List.set] at a
 refine n ?_
 obtain rfl:=sm h
 refine res0 (P:=Try.prog) (fn:=Try.f118) r ?_
 exact pok (⟨r,(a.dp [2,3,4,5,6,7,8,9,10])⟩)
def Ct_r04_heads (m:Gt→Option (Gt)):Prop:=∀ {I:World} {J:Nat→Prop} {B:Gt} {H:Nat} {t:Option Addr} {u:Nat} {c:Option Addr} {d:Nat} {x:List (List Value)} {C:Nat} {h:Option Addr} {i:Nat} {a:List Rw} {D:Nat} {E:Nat} {j:Option Addr} {k:Nat} {z:List (List Value)} {F:Nat} {o:Option Addr} {p:Nat} {A:List (List Value)} {G:Nat} {b:Gt},Pre I J [.box H 115 #[Z t B.out_.Program.Records u,Z c B.out_.Program.Funcs d,Z h B.out_.Vars i,Z j B.out_.Stmts k,V B.f,Z o B.open_ p,V B.line,V B.e],O C c d 82 Gn x,O D h i 60 (List Gv) (a.map Rw.hdr),.fam E 59 (sz Gv) a none,O F j k 65 Gi z,O G o p 3 Int A] [.l t u B.out_.Program.Records,.els x B.out_.Program.Funcs,.els2 a B.out_.Vars,.els z B.out_.Stmts,.els A B.open_]→C≤I.heap.size→D≤I.heap.size→E≤I.heap.size→F≤I.heap.size→G≤I.heap.size→m B=some b→
 Calls Try.prog 48 #[Pt H] I (Ret fun v w=>v=.tuple #[]∧Bx I w J (Gof [.box H 115 #[Z t B.out_.Program.Records u,Z c B.out_.Program.Funcs d,Z h B.out_.Vars i,Z j B.out_.Stmts k,V B.f,Z o B.open_ p,V B.line,V B.e],O C c d 82 Gn x,O D h i 60 (List Gv) (a.map Rw.hdr),.fam E 59 (sz Gv) a none,O F j k 65 Gi z,O G o p 3 Int A]) [.box H 115 #[Z t b.out_.Program.Records u,Z c b.out_.Program.Funcs d,Z h b.out_.Vars i,Z j b.out_.Stmts k,V b.f,Z o b.open_ p,V b.line,V b.e],O C c d 82 Gn x,O D h i 60 (List Gv) (a.map Rw.hdr),.fam E 59 (sz Gv) a none,O F j k 65 Gi z,O G o p 3 Int A] [.l t u b.out_.Program.Records,.els x b.out_.Program.Funcs,.els2 a b.out_.Vars,.els z b.out_.Stmts,.els A b.open_])
def m_r04_heads_J2 (fu:Nat)(a:Gr) (b:Nat):Option (Ld (Bool) (Gt)):=
 if 4≤(b:Int) then
  some (.go true)
 else
  some (.go (decide (4 < (a.Fields.length:Int))))
def m_r04_heads_J1 (fu:Nat)(b:List Gr) (c:Int)(d:Int)(h:Int)(i:List Gn) (j:List (List Gv)) (k:List Gi) (l:List Int) (p:Gr) (t:Nat):Option (Ld (List Gr × Int × Int × Int × List Gn × List (List Gv) × List Gi × List Int) (Gt)):=
 (m_r04_heads_J2 fu p t).bind fun u=>u.el (fun m=>
 if m=true then
  (m_r04_fail fu (⟨(⟨(⟨b,i⟩:GProgram),j,k⟩:GSource),c,l,d,h⟩:Gt) 0 5).bind fun a=>
  some (.go (a.out_.Program.Records,a.f,a.line,a.e,a.out_.Program.Funcs,a.out_.Vars,a.out_.Stmts,a.open_))
 else
  some (.go (b,c,d,h,i,j,k,l))
 ) (fun o=>some (.out o))
def m_r04_heads_L3 (fu:Nat)(p:Gt) (t:Gr) (u:Nat):Nat→Int→(List Gr)→Int→Int→Int→(List Gn)→(List (List Gv))→(List Gi)→(List Int)→Option (Ld (Int × List Gr × Int × Int × Int × List Gn × List (List Gv) × List Gi × List Int) (Gt))
 | 0,_,_,_,_,_,_,_,_,_=>none
 | o+1,b,c,d,h,i,j,k,l,m=>
 if b < (u:Int) then
  (ix p.out_.Program.Records b).bind fun v=>
  if v.Name=t.Name then
   (m_r04_fail fu (⟨(⟨(⟨c,j⟩:GProgram),k,l⟩:GSource),d,m,h,i⟩:Gt) 0 9).bind fun a=>
   m_r04_heads_L3 fu p t u o (wr (b+1)) a.out_.Program.Records a.f a.line a.e a.out_.Program.Funcs a.out_.Vars a.out_.Stmts a.open_
  else
   m_r04_heads_L3 fu p t u o (wr (b+1)) c d h i j k l m
 else
  some (.go (b,c,d,h,i,j,k,l,m))
def m_r04_heads_L5 (fu:Nat)(u:Gr) (o:BA) (p:Nat):Nat→Int→(List Gr)→Int→Int→Int→(List Gn)→(List (List Gv))→(List Gi)→(List Int)→Option (Ld (Int × List Gr × Int × Int × Int × List Gn × List (List Gv) × List Gi × List Int) (Gt))
 | 0,_,_,_,_,_,_,_,_,_=>none
 | t+1,b,c,d,h,i,j,k,l,m=>
 if b < (p:Int) then
  (ix u.Fields b).bind fun v=>
  if v=o then
   (m_r04_fail fu (⟨(⟨(⟨c,j⟩:GProgram),k,l⟩:GSource),d,m,h,i⟩:Gt) 0 9).bind fun a=>
   m_r04_heads_L5 fu u o p t (wr (b+1)) a.out_.Program.Records a.f a.line a.e a.out_.Program.Funcs a.out_.Vars a.out_.Stmts a.open_
  else
   m_r04_heads_L5 fu u o p t (wr (b+1)) c d h i j k l m
 else
  some (.go (b,c,d,h,i,j,k,l,m))
def m_r04_heads_L4 (fu:Nat)(B:Gr):List BA→Nat→(List Gr)→Int→Int→Int→(List Gn)→(List (List Gv))→(List Gi)→(List Int)→Option (Ld (List Gr × Int × Int × Int × List Gn × List (List Gv) × List Gi × List Int) (Gt))
 | [],_,a,b,c,d,e,f,h,i=>some (.go (a,b,c,d,e,f,h,i))
 | x :: z,w,a,b,c,d,e,f,h,i=>
 (m_r04_heads_L5 fu B x w fu 0 a b c d e f h i).bind fun C=>C.el (fun C=>
 pel C fun A C=>pel C fun j C=>pel C fun k C=>pel C fun l C=>pel C fun m C=>pel C fun p C=>pel C fun t C=>pel C fun u v=>
 m_r04_heads_L4 fu B z (w+1) j k l m p t u v
 ) (fun o=>some (.out o))
def m_r04_heads_L0 (fu:Nat)(R:Gt):List Gr→Nat→(List Gr)→Int→Int→Int→(List Gn)→(List (List Gv))→(List Gi)→(List Int)→Option (Ld (List Gr × Int × Int × Int × List Gn × List (List Gv) × List Gi × List Int) (Gt))
 | [],_,a,b,c,d,e,f,h,i=>some (.go (a,b,c,d,e,f,h,i))
 | N :: S,P,a,b,c,d,e,f,h,i=>
 (m_r04_heads_J1 fu a b c d e f h i N P).bind fun U=>U.el (fun U=>
 pel U fun F U=>pel U fun G U=>pel U fun H U=>pel U fun I U=>pel U fun J U=>pel U fun K U=>pel U fun L M=>
 (m_r04_heads_L3 fu R N P fu 0 F G H I J K L M).bind fun U=>U.el (fun U=>
 pel U fun Q U=>pel U fun j U=>pel U fun k U=>pel U fun l U=>pel U fun m U=>pel U fun p U=>pel U fun t U=>pel U fun u v=>
 (m_r04_heads_L4 fu N N.Fields 0 j k l m p t u v).bind fun U=>U.el (fun U=>
 pel U fun w U=>pel U fun x U=>pel U fun z U=>pel U fun A U=>pel U fun B U=>pel U fun C U=>pel U fun D E=>
 m_r04_heads_L0 fu R S (P+1) w x z A B C D E
 ) (fun o=>some (.out o))
 ) (fun o=>some (.out o))
 ) (fun o=>some (.out o))
def m_r04_heads_J7 (fu:Nat)(m:Int)(b:List Gr) (c:Int)(d:Int)(h:Int)(i:List Gn) (j:List (List Gv)) (k:List Gi) (l:List Int) (o:Gn):Option (Ld (List Gr × Int × Int × Int × List Gn × List (List Gv) × List Gi × List Int) (Gt)):=
 if 8≤m then
  (m_r04_fail fu (⟨(⟨(⟨b,i⟩:GProgram),j,k⟩:GSource),c,l,d,h⟩:Gt) o.Line 5).bind fun a=>
  some (.go (a.out_.Program.Records,a.f,a.line,a.e,a.out_.Program.Funcs,a.out_.Vars,a.out_.Stmts,a.open_))
 else
  some (.go (b,c,d,h,i,j,k,l))
def m_r04_heads_L8 (fu:Nat)(d:Int)(p:Gn):Nat→Int→(List Gr)→Int→Int→Int→(List Gn)→(List (List Gv))→(List Gi)→(List Int)→Option (Ld (Int × List Gr × Int × Int × Int × List Gn × List (List Gv) × List Gi × List Int) (Gt))
 | 0,_,_,_,_,_,_,_,_,_=>none
 | t+1,b,h,i,j,k,c,l,m,o=>
 if b < d then
  (ix c b).bind fun u=>
  if u.Name=p.Name then
   (m_r04_fail fu (⟨(⟨(⟨h,c⟩:GProgram),l,m⟩:GSource),i,o,j,k⟩:Gt) p.Line 9).bind fun a=>
   m_r04_heads_L8 fu d p t (wr (b+1)) a.out_.Program.Records a.f a.line a.e a.out_.Program.Funcs a.out_.Vars a.out_.Stmts a.open_
  else
   m_r04_heads_L8 fu d p t (wr (b+1)) h i j k c l m o
 else
  some (.go (b,h,i,j,k,c,l,m,o))
def m_r04_heads_L6 (fu:Nat)(k:List Gn):Nat→Int→(List Gr)→Int→Int→Int→(List Gn)→(List (List Gv))→(List Gi)→(List Int)→Option (Ld (Int × List Gr × Int × Int × Int × List Gn × List (List Gv) × List Gi × List Int) (Gt))
 | 0,_,_,_,_,_,_,_,_,_=>none
 | I+1,a,c,d,e,f,b,h,i,j=>
 if a < (k.length:Int) then
  (ix b a).bind fun H=>
  (m_r04_heads_J7 fu a c d e f b h i j H).bind fun K=>K.el (fun K=>
  pel K fun l K=>pel K fun m K=>pel K fun p K=>pel K fun t K=>pel K fun u K=>pel K fun v K=>pel K fun w x=>
  (m_r04_heads_L8 fu a H fu 0 l m p t u v w x).bind fun K=>K.el (fun K=>
  pel K fun J K=>pel K fun z K=>pel K fun A K=>pel K fun B K=>pel K fun C K=>pel K fun D K=>pel K fun E K=>pel K fun F G=>
  m_r04_heads_L6 fu k I (wr (a+1)) z A B C D E F G
  ) (fun o=>some (.out o))
  ) (fun o=>some (.out o))
 else
  some (.go (a,c,d,e,f,b,h,i,j))
def m_r04_heads (fu:Nat)(a:Gt):Option (Gt):=
 (m_r04_heads_L0 fu a a.out_.Program.Records 0 a.out_.Program.Records a.f a.line a.e a.out_.Program.Funcs a.out_.Vars a.out_.Stmts a.open_).bind fun B=>B.el (fun B=>
 pel B fun p B=>pel B fun t B=>pel B fun u B=>pel B fun v B=>pel B fun b B=>pel B fun w B=>pel B fun x z=>
 (m_r04_heads_L6 fu b fu 0 p t u v b w x z).bind fun B=>B.el (fun B=>
 pel B fun A B=>pel B fun c B=>pel B fun d B=>pel B fun h B=>pel B fun i B=>pel B fun j B=>pel B fun k B=>pel B fun l m=>
 some (⟨(⟨(⟨c,j⟩:GProgram),k,l⟩:GSource),d,m,h,i⟩:Gt)
 ) (fun o=>some o)
 ) (fun o=>some o)
theorem sp_r04_heads (fu:Nat):Ct_r04_heads (m_r04_heads fu):=by
 intro w0 e4 H S a b c j B K t u m L M v x C N z A D Q dr hP b7 b8 b9 ba bb hM
 unfold m_r04_heads at hM
 have o:=hP.bx
 clear hP
 generalize hG:Gof _=G at o ⊢
 refine cf Try.func48 r ?_
 refine wCut [(0,Pt S)] ⟨r,y⟩ fun e5=>?_
 refine q (g (s (mp r) (s (xn r) (s (f115_0 r) (s (f30_0 r) (s (xLoadS [Z a H.out_.Program.Records b,Z c H.out_.Program.Funcs j] u26_ r ti26 r r (Cells.part (o.bk 0 r).cells (o2:=0) r)) (sTo (aNewB o (mAlloc ti26)) ?_)))))))
 rintro _ w1 ⟨b1,rfl,o⟩
 refine sTs (tb o 0 [Z a H.out_.Program.Records b,Z c H.out_.Program.Funcs j] r ti26 r r r r r (show _=#[Z a H.out_.Program.Records b,Z c H.out_.Program.Funcs j] from r)) ?_
 intro w2 o
 try dsimp only [List.set] at o
 refine n (q (q (g (s (f26_0 r) (s (l23 r (o.bk 0 r) r) (s (xLnR u23_ r) (s (mi r) (n ?_))))))))
 have dt:=(o.dl 0 r).bd
 obtain ⟨Y3,E,hM⟩:=bs hM
 refine wJd (fun f w=>∃ (au:List Gr) (b0:Int)(b2:Int)(b3:Int)(I:List Gn) (av:List (List Gv)) (aw:List Gi) (ax:List Int),Has f [(0,Pt S),(2,Pt b1)]∧Bx w0 w e4 G [.box b1 26 #[Z a H.out_.Program.Records b,Z c I j],.box S 115 #[Z a au b,Z c I j,Z t av u,Z v aw x,V b0,Z z ax A,V b2,V b3],O K c j 82 Gn B,O L t u 60 (List Gv) (m.map Rw.hdr),.fam M 59 (sz Gv) m none,O N v x 65 Gi C,O Q z A 3 Int D] [.l a b au,.l a b H.out_.Program.Records,.els B I,.els2 m av,.els C aw,.els D ax]∧Ld.go (au,b0,b2,b3,I,av,aw,ax)=Y3) (fun J3 d0=>?_) ?_
 ·refine wBk (wLoopGd (fun e6 f w=>∃ (k3:Nat)(au:List Gr) (b0:Int)(b2:Int)(b3:Int)(I:List Gn) (av:List (List Gv)) (aw:List Gi) (ax:List Int),e6=H.out_.Program.Records.length - k3∧k3≤H.out_.Program.Records.length∧Has f [(19,V (k3:Int)),(0,Pt S),(2,Pt b1),(17,Z a H.out_.Program.Records b),(18,V (H.out_.Program.Records.length:Int))]∧Bx w0 w e4 G [.box b1 26 #[Z a H.out_.Program.Records b,Z c I j],.box S 115 #[Z a au b,Z c I j,Z t av u,Z v aw x,V b0,Z z ax A,V b2,V b3],O K c j 82 Gn B,O L t u 60 (List Gv) (m.map Rw.hdr),.fam M 59 (sz Gv) m none,O N v x 65 Gi C,O Q z A 3 Int D] [.l a b au,.l a b H.out_.Program.Records,.els B I,.els2 m av,.els C aw,.els D ax]∧m_r04_heads_L0 fu H (H.out_.Program.Records.drop k3) k3 au b0 b2 b3 I av aw ax=some Y3) (H.out_.Program.Records.length) ⟨0,H.out_.Program.Records,H.f,H.line,H.e,H.out_.Program.Funcs,H.out_.Vars,H.out_.Stmts,H.open_,r,Nat.zero_le _,⟨r,r,r,r,r,y⟩,(o.dp [0,0,1,2,3,4]),E⟩ ?_)
  clear o E
  rintro e6 f w ⟨k3,au,b0,b2,b3,I,av,aw,ax,rfl,du,hf,o,E⟩ K3 d1
  obtain ⟨e5,rfl⟩:=has_updL _ _ hf
  clear hf
  rcases Nat.lt_or_ge k3 H.out_.Program.Records.length with ct | ct
  ·obtain ⟨u3,c3⟩:=get_ex (l:=H.out_.Program.Records) ct
   rw [drop_id c3,m_r04_heads_L0] at E
   obtain ⟨dv,d2,o⟩:=o.nm 1 rfl c3
   obtain ⟨Y,a0,rfl,cu⟩:=GRecord.out d2
   replace o:=o.dadd (d:=.l Y a0 u3.Fields) cu
   refine q (g (s (xLssT r r (by omega)) (n (q (wIfT r (wk (q (wBk (q (g (s (mi r) (s (xIdR u23_ ti127 r r r (o.dl 3 r) c3) (s (xLoadS [T u3.Name,Z Y u3.Fields a0] u127_ r ti127 r r (o.dc 1 r)) ?_)))))))))))))
   refine sTo (aNewB o (mAlloc ti127)) ?_
   rintro _ w5 ⟨b5,rfl,o⟩
   refine s (xi r) (sTs (tb o 0 [T u3.Name,Z Y u3.Fields a0] r ti127 r r r r r (show _=#[T u3.Name,Z Y u3.Fields a0] from r)) ?_)
   intro w6 o
   try dsimp only [List.set] at o
   refine n (q ?_)
   obtain ⟨Y7,bi,E⟩:=bs E
   refine wJd (fun f w=>∃ (bv:List Gr) (bD:Int)(bE:Int)(bF:Int)(bp:List Gn) (bw:List (List Gv)) (bz:List Gi) (bA:List Int),Has f [(0,Pt S),(2,Pt b1),(3,V (k3:Int)),(4,Pt b5),(17,Z a H.out_.Program.Records b),(18,V (H.out_.Program.Records.length:Int)),(19,V (k3:Int))]∧Bx w0 w e4 G [.box b5 127 #[T u3.Name,Z Y u3.Fields a0],.box b1 26 #[Z a H.out_.Program.Records b,Z c bp j],.box S 115 #[Z a bv b,Z c bp j,Z t bw u,Z v bz x,V bD,Z z bA A,V bE,V bF],O K c j 82 Gn B,O L t u 60 (List Gv) (m.map Rw.hdr),.fam M 59 (sz Gv) m none,O N v x 65 Gi C,O Q z A 3 Int D] [.l a b bv,.l Y a0 u3.Fields,.l a b H.out_.Program.Records,.els B bp,.els2 m bw,.els C bz,.els D bA]∧Ld.go (bv,bD,bE,bF,bp,bw,bz,bA)=Y7) (fun J7 cv=>?_) ?_
   ·unfold m_r04_heads_J1 at bi
    refine q ?_
    obtain ⟨Y8,bK,bi⟩:=bs bi
    refine wJd (fun f w=>∃ (bL:Bool),Has f [(0,Pt S),(2,Pt b1),(3,V (k3:Int)),(4,Pt b5),(17,Z a H.out_.Program.Records b),(18,V (H.out_.Program.Records.length:Int)),(19,V (k3:Int)),(31,.bool bL)]∧Bx w0 w e4 G [.box b5 127 #[T u3.Name,Z Y u3.Fields a0],.box b1 26 #[Z a H.out_.Program.Records b,Z c I j],.box S 115 #[Z a au b,Z c I j,Z t av u,Z v aw x,V b0,Z z ax A,V b2,V b3],O K c j 82 Gn B,O L t u 60 (List Gv) (m.map Rw.hdr),.fam M 59 (sz Gv) m none,O N v x 65 Gi C,O Q z A 3 Int D] [.l Y a0 u3.Fields,.l a b au,.l a b H.out_.Program.Records,.els B I,.els2 m av,.els C aw,.els D ax]∧Ld.go bL=Y8) (fun J8 cw=>?_) ?_
    ·unfold m_r04_heads_J2 at bK
     refine g (s (mi r) (s (xGeq r r) (s (xMvB r) ?_)))
     rcases iv bK with ⟨h9,bK⟩|⟨h9,bK⟩
     ·rw [decide_eq_true h9]
      refine sNo r (sNo r (sNo r (sNo r (s (xPkTB r r) (n ?_)))))
      exact cw _ _ ⟨true,⟨r,r,r,r,r,r,r,r,y⟩,(o.dp [0,2,3,4,5,6,7]),sm bK⟩
     rw [decide_eq_false h9]
     refine sGo r (s (f127_1 r) (sGo r (s (l70 r (o.bk 0 r) r) (sGo r (s (xLnR u70_ r) (sGo r (s (xGtr r r) (s (xPkFB r r) (n ?_)))))))))
     exact cw _ _ ⟨(decide (4 < (u3.Fields.length:Int))),⟨r,r,r,r,r,r,r,r,y⟩,(o.dp [0,2,3,4,5,6,7]),sm bK⟩
    clear o
    rintro f w ⟨bL,hf,o,d4⟩
    obtain ⟨e5,rfl⟩:=has_updL _ _ hf
    clear hf
    subst d4
    replace bi:=gi bi
    rcases iv bi with ⟨bM,bi⟩|⟨bM,bi⟩
    ·refine wIfT (cb bM) (g (s (mp r) ?_))
     obtain ⟨aP,d5,bi⟩:=bs bi
     have hc:=(sp_r04_fail fu) (o.pr [2,3,4,5,6,7] [0,1] [1,3,4,5,6] r) (o.le b7) (o.le b8) (o.le b9) (o.le ba) (o.le bb) d5
     refine sc (ec cal72 r) hc ?_
     rintro _ dy ⟨rfl,hK⟩
     replace o:=o.cl [2,3,4,5,6,7] [0,1] r hK r
     try dsimp only [pick,nth,ca,na] at o
     have bT:I.length=aP.out_.Program.Funcs.length:=(o.de 8 r).len.symm.trans (o.de 1 r).len
     try dsimp only [Z] at o
     try rw [bT] at o
     try dsimp only [Z]
     try rw [bT]
     refine n ?_
     exact cv _ _ ⟨aP.out_.Program.Records,aP.f,aP.line,aP.e,aP.out_.Program.Funcs,aP.out_.Vars,aP.out_.Stmts,aP.open_,⟨r,r,r,r,r,r,r,y⟩,(o.ad [6,7,0,1,2,3,4,5] [0,5,7,1,2,3,4]),sm bi⟩
    replace bM:=nt bM
    refine wIfF (cb bM) (wk ?_)
    exact cv _ _ ⟨au,b0,b2,b3,I,av,aw,ax,⟨r,r,r,r,r,r,r,y⟩,(o.dp [1,0,2,3,4,5,6]),sm bi⟩
   clear o
   rintro f w ⟨bv,bD,bE,bF,bp,bw,bz,bA,hf,o,d6⟩
   obtain ⟨e5,rfl⟩:=has_updL _ _ hf
   clear hf
   subst d6
   replace E:=gi E
   replace E:=pi E
   replace E:=pi E
   replace E:=pi E
   replace E:=pi E
   replace E:=pi E
   replace E:=pi E
   replace E:=pi E
   refine q (q (g (s (xi r) (n ?_))))
   obtain ⟨cx,a3,E⟩:=bs E
   refine wJd (fun f w=>∃ (aQ:Int)(a6:List Gr) (ay:Int)(az:Int)(aA:Int)(U:List Gn) (a7:List (List Gv)) (a8:List Gi) (a9:List Int),Has f [(0,Pt S),(2,Pt b1),(4,Pt b5),(17,Z a H.out_.Program.Records b),(18,V (H.out_.Program.Records.length:Int)),(19,V (k3:Int))]∧Bx w0 w e4 G [.box b5 127 #[T u3.Name,Z Y u3.Fields a0],.box b1 26 #[Z a H.out_.Program.Records b,Z c U j],.box S 115 #[Z a a6 b,Z c U j,Z t a7 u,Z v a8 x,V ay,Z z a9 A,V az,V aA],O K c j 82 Gn B,O L t u 60 (List Gv) (m.map Rw.hdr),.fam M 59 (sz Gv) m none,O N v x 65 Gi C,O Q z A 3 Int D] [.l a b a6,.l Y a0 u3.Fields,.l a b H.out_.Program.Records,.els B U,.els2 m a7,.els C a8,.els D a9]∧Ld.go (aQ,a6,ay,az,aA,U,a7,a8,a9)=cx) (fun dz cy=>?_) ?_
   ·refine wBk (wLoopGd (fun e6 f w=>∃ (aQ:Int)(a6:List Gr) (ay:Int)(az:Int)(aA:Int)(U:List Gn) (a7:List (List Gv)) (a8:List Gi) (a9:List Int),Has f [(0,Pt S),(2,Pt b1),(3,V (k3:Int)),(4,Pt b5),(5,V aQ),(17,Z a H.out_.Program.Records b),(18,V (H.out_.Program.Records.length:Int)),(19,V (k3:Int))]∧Bx w0 w e4 G [.box b5 127 #[T u3.Name,Z Y u3.Fields a0],.box b1 26 #[Z a H.out_.Program.Records b,Z c U j],.box S 115 #[Z a a6 b,Z c U j,Z t a7 u,Z v a8 x,V ay,Z z a9 A,V az,V aA],O K c j 82 Gn B,O L t u 60 (List Gv) (m.map Rw.hdr),.fam M 59 (sz Gv) m none,O N v x 65 Gi C,O Q z A 3 Int D] [.l a b a6,.l Y a0 u3.Fields,.l a b H.out_.Program.Records,.els B U,.els2 m a7,.els C a8,.els D a9]∧m_r04_heads_L3 fu H u3 k3 e6 aQ a6 ay az aA U a7 a8 a9=some cx) fu ⟨0,bv,bD,bE,bF,bp,bw,bz,bA,⟨r,r,r,r,r,r,r,r,y⟩,o,a3⟩ ?_)
    clear o a3
    rintro bQ f w ⟨aQ,a6,ay,az,aA,U,a7,a8,a9,hf,o,a3⟩ dA bU
    obtain ⟨e5,rfl⟩:=has_updL _ _ hf
    clear hf
    cases bQ with
    | zero=>exact nn a3
    | succ bQ=>
     rw [m_r04_heads_L3] at a3
     refine q (q (g (s (mi r) (s (mi r) (s (xLss r r) (n ?_))))))
     rcases iv a3 with ⟨c4,a3⟩|⟨c4,a3⟩
     ·refine wIfT (bt c4) (wk (q (wBk (q ?_))))
      obtain ⟨d7,bG,a3⟩:=bs a3
      obtain ⟨dB,cz,bG⟩:=ix_inv bG
      obtain ⟨dj,cA,o⟩:=o.nm 2 rfl bG
      obtain ⟨c5,c6,rfl,c7⟩:=GRecord.out cA
      replace o:=o.dadd (d:=.l c5 c6 d7.Fields) c7
      refine wDr1 o [0,1] [0,1,4] [] (by kernel_rfl) ?_
      replace o:=o.drew
      have hs:=(o.ad [0,1] [0,1,4])
      refine pF 0 r (f26_0 r) hs (uF 1 r (fun hS=>l23 r (hS.bk 1 r) r) hs (pF 2 r (mi r) hs (pF 3 r (xIdR u23_ ti127 r r cz (o.dl 4 r) bG) hs (pF 4 r (f127_0 r) hs (uF 5 r (fun hS=>xLoad u9_ r r ((hS.dc 1 r) 0 _ r)) hs (pF 6 r (f127_0 r) hs (uF 7 r (fun hS=>l9 r (hS.bk 0 r) r) hs (pF 8 r (xEqlT' r r) hs (hD ?_)))))))))
      rcases iv a3 with ⟨c8,a3⟩|⟨c8,a3⟩
      ·refine wIfT (bt c8) (g (s (mp r) ?_))
       obtain ⟨aR,d8,a3⟩:=bs a3
       have hc:=(sp_r04_fail fu) (o.pr [2,3,4,5,6,7] [0,1] [2,5,6,7,8] r) (o.le b7) (o.le b8) (o.le b9) (o.le ba) (o.le bb) d8
       refine sc (ec cal72 r) hc ?_
       rintro _ dC ⟨rfl,hK⟩
       replace o:=o.cl [2,3,4,5,6,7] [0,1] r hK r
       try dsimp only [pick,nth,ca,na] at o
       have bV:U.length=aR.out_.Program.Funcs.length:=(o.de 10 r).len.symm.trans (o.de 1 r).len
       try dsimp only [Z] at o
       try rw [bV] at o
       try dsimp only [Z]
       try rw [bV]
       refine n (g (s (mi r) (s (xAddW r r) (s (xi r) (n ?_)))))
       exact bU bQ _ _ (Nat.lt_succ_self _) ⟨(wr (aQ+1)),aR.out_.Program.Records,aR.f,aR.line,aR.e,aR.out_.Program.Funcs,aR.out_.Vars,aR.out_.Stmts,aR.open_,⟨r,r,r,r,r,r,r,r,y⟩,(o.ad [6,7,0,1,2,3,4,5] [0,8,9,1,2,3,4]),a3⟩
      refine wIfF (bf c8) (wk (g (s (mi r) (s (xAddW r r) (s (xi r) (n ?_))))))
      exact bU bQ _ _ (Nat.lt_succ_self _) ⟨(wr (aQ+1)),a6,ay,az,aA,U,a7,a8,a9,⟨r,r,r,r,r,r,r,r,y⟩,(o.dp [2,3,4,5,6,7,8]),a3⟩
     refine wIfF (bf c4) (wEx ?_)
     exact cy _ _ ⟨aQ,a6,ay,az,aA,U,a7,a8,a9,⟨r,r,r,r,r,r,y⟩,o,sm a3⟩
   clear o
   rintro f w ⟨aQ,a6,ay,az,aA,U,a7,a8,a9,hf,o,cB⟩
   obtain ⟨e5,rfl⟩:=has_updL _ _ hf
   clear hf
   subst cB
   replace E:=gi E
   replace E:=pi E
   replace E:=pi E
   replace E:=pi E
   replace E:=pi E
   replace E:=pi E
   replace E:=pi E
   replace E:=pi E
   replace E:=pi E
   refine q (g (s (f127_1 r) (s (l70 r (o.bk 0 r) r) (s (xLnR u70_ r) (s (mi r) (n ?_))))))
   have dk:=(o.dl 1 r).bd
   obtain ⟨cC,F,E⟩:=bs E
   refine wJd (fun f w=>∃ (aa:List Gr) (aB:Int)(aC:Int)(aD:Int)(a1:List Gn) (ab:List (List Gv)) (ac:List Gi) (ae:List Int),Has f [(0,Pt S),(2,Pt b1),(17,Z a H.out_.Program.Records b),(18,V (H.out_.Program.Records.length:Int)),(19,V (k3:Int))]∧Bx w0 w e4 G [.box b5 127 #[T u3.Name,Z Y u3.Fields a0],.box b1 26 #[Z a H.out_.Program.Records b,Z c a1 j],.box S 115 #[Z a aa b,Z c a1 j,Z t ab u,Z v ac x,V aB,Z z ae A,V aC,V aD],O K c j 82 Gn B,O L t u 60 (List Gv) (m.map Rw.hdr),.fam M 59 (sz Gv) m none,O N v x 65 Gi C,O Q z A 3 Int D] [.l a b aa,.l Y a0 u3.Fields,.l a b H.out_.Program.Records,.els B a1,.els2 m ab,.els C ac,.els D ae]∧Ld.go (aa,aB,aC,aD,a1,ab,ac,ae)=cC) (fun dD cD=>?_) ?_
   ·refine wBk (wLoopGd (fun e6 f w=>∃ (bg:Nat)(aa:List Gr) (aB:Int)(aC:Int)(aD:Int)(a1:List Gn) (ab:List (List Gv)) (ac:List Gi) (ae:List Int),e6=u3.Fields.length - bg∧bg≤u3.Fields.length∧Has f [(53,V (bg:Int)),(0,Pt S),(2,Pt b1),(4,Pt b5),(17,Z a H.out_.Program.Records b),(18,V (H.out_.Program.Records.length:Int)),(19,V (k3:Int)),(52,V (u3.Fields.length:Int))]∧Bx w0 w e4 G [.box b5 127 #[T u3.Name,Z Y u3.Fields a0],.box b1 26 #[Z a H.out_.Program.Records b,Z c a1 j],.box S 115 #[Z a aa b,Z c a1 j,Z t ab u,Z v ac x,V aB,Z z ae A,V aC,V aD],O K c j 82 Gn B,O L t u 60 (List Gv) (m.map Rw.hdr),.fam M 59 (sz Gv) m none,O N v x 65 Gi C,O Q z A 3 Int D] [.l a b aa,.l Y a0 u3.Fields,.l a b H.out_.Program.Records,.els B a1,.els2 m ab,.els C ac,.els D ae]∧m_r04_heads_L4 fu u3 (u3.Fields.drop bg) bg aa aB aC aD a1 ab ac ae=some cC) (u3.Fields.length) ⟨0,a6,ay,az,aA,U,a7,a8,a9,r,Nat.zero_le _,⟨r,r,r,r,r,r,r,r,y⟩,o,F⟩ ?_)
    clear o F
    rintro e6 f w ⟨bg,aa,aB,aC,aD,a1,ab,ac,ae,rfl,dm,hf,o,F⟩ dE cE
    obtain ⟨e5,rfl⟩:=has_updL _ _ hf
    clear hf
    rcases Nat.lt_or_ge bg u3.Fields.length with bW | bW
    ·obtain ⟨cF,bN⟩:=get_ex (l:=u3.Fields) bW
     rw [drop_id bN,m_r04_heads_L4] at F
     refine q (g (s (xLssT r r (by omega)) (n (q (wIfT r (wk (q (wBk (q (g (s (mi r) (s (xi r) (n ?_)))))))))))))
     refine q (g (s (xi r) (n ?_)))
     obtain ⟨cG,a4,F⟩:=bs F
     refine wJd (fun f w=>∃ (aS:Int)(af:List Gr) (aE:Int)(aF:Int)(aG:Int)(W:List Gn) (ag:List (List Gv)) (ah:List Gi) (ai:List Int),Has f [(0,Pt S),(2,Pt b1),(4,Pt b5),(17,Z a H.out_.Program.Records b),(18,V (H.out_.Program.Records.length:Int)),(19,V (k3:Int)),(52,V (u3.Fields.length:Int)),(53,V (bg:Int))]∧Bx w0 w e4 G [.box b5 127 #[T u3.Name,Z Y u3.Fields a0],.box b1 26 #[Z a H.out_.Program.Records b,Z c W j],.box S 115 #[Z a af b,Z c W j,Z t ag u,Z v ah x,V aE,Z z ai A,V aF,V aG],O K c j 82 Gn B,O L t u 60 (List Gv) (m.map Rw.hdr),.fam M 59 (sz Gv) m none,O N v x 65 Gi C,O Q z A 3 Int D] [.l a b af,.l Y a0 u3.Fields,.l a b H.out_.Program.Records,.els B W,.els2 m ag,.els C ah,.els D ai]∧Ld.go (aS,af,aE,aF,aG,W,ag,ah,ai)=cG) (fun dF cH=>?_) ?_
     ·refine wBk (wLoopGd (fun e6 f w=>∃ (aS:Int)(af:List Gr) (aE:Int)(aF:Int)(aG:Int)(W:List Gn) (ag:List (List Gv)) (ah:List Gi) (ai:List Int),Has f [(0,Pt S),(2,Pt b1),(4,Pt b5),(6,V (bg:Int)),(7,V aS),(17,Z a H.out_.Program.Records b),(18,V (H.out_.Program.Records.length:Int)),(19,V (k3:Int)),(52,V (u3.Fields.length:Int)),(53,V (bg:Int))]∧Bx w0 w e4 G [.box b5 127 #[T u3.Name,Z Y u3.Fields a0],.box b1 26 #[Z a H.out_.Program.Records b,Z c W j],.box S 115 #[Z a af b,Z c W j,Z t ag u,Z v ah x,V aE,Z z ai A,V aF,V aG],O K c j 82 Gn B,O L t u 60 (List Gv) (m.map Rw.hdr),.fam M 59 (sz Gv) m none,O N v x 65 Gi C,O Q z A 3 Int D] [.l a b af,.l Y a0 u3.Fields,.l a b H.out_.Program.Records,.els B W,.els2 m ag,.els C ah,.els D ai]∧m_r04_heads_L5 fu u3 cF bg e6 aS af aE aF aG W ag ah ai=some cG) fu ⟨0,aa,aB,aC,aD,a1,ab,ac,ae,⟨r,r,r,r,r,r,r,r,r,r,y⟩,o,a4⟩ ?_)
      clear o a4
      rintro bR f w ⟨aS,af,aE,aF,aG,W,ag,ah,ai,hf,o,a4⟩ dG bX
      obtain ⟨e5,rfl⟩:=has_updL _ _ hf
      clear hf
      cases bR with
      | zero=>exact nn a4
      | succ bR=>
       rw [m_r04_heads_L5] at a4
       refine q (q (g (s (mi r) (s (mi r) (s (xLss r r) (n ?_))))))
       rcases iv a4 with ⟨c9,a4⟩|⟨c9,a4⟩
       ·refine wIfT (bt c9) (wk (q (wBk (q (wDr1 o [0] [1] [] (by kernel_rfl) ?_)))))
        replace o:=o.drew
        have hs:=(o.ad [0] [1])
        refine pF 0 r (f127_1 r) hs (uF 1 r (fun hS=>l70 r (hS.bk 0 r) r) hs (pF 2 r (mi r) hs ?_))
        obtain ⟨d9,bH,a4⟩:=bs a4
        obtain ⟨dH,cI,bH⟩:=ix_inv bH
        refine pF 3 r (xIdR u70_ ti9 r r cI (o.dl 1 r) bH) hs (tU 4 r (fun _ hS=>xLoad u9_ r r ((elF (ds:=[T d9]) (hS.dl 0 r) bH (fun _ h=>h)) 0 _ r)) (sF hs) (pF 5 r (f127_1 r) hs (uF 6 r (fun hS=>l70 r (hS.bk 0 r) r) hs (pF 7 r (mi r) hs (pF 8 r (xIdR u70_ ti9 r r r (o.dl 1 r) bN) hs (tU 9 r (fun _ hS=>xLoad u9_ r r ((elF (ds:=[T cF]) (hS.dl 0 r) bN (fun _ h=>h)) 0 _ r)) (sF hs) (pF 10 r (xEqlT' r r) hs (hD ?_))))))))
        rcases iv a4 with ⟨cc,a4⟩|⟨cc,a4⟩
        ·refine wIfT (bt cc) (g (s (mp r) ?_))
         obtain ⟨aT,da,a4⟩:=bs a4
         have hc:=(sp_r04_fail fu) (o.pr [2,3,4,5,6,7] [0,1] [0,3,4,5,6] r) (o.le b7) (o.le b8) (o.le b9) (o.le ba) (o.le bb) da
         refine sc (ec cal72 r) hc ?_
         rintro _ dI ⟨rfl,hK⟩
         replace o:=o.cl [2,3,4,5,6,7] [0,1] r hK r
         try dsimp only [pick,nth,ca,na] at o
         have bY:W.length=aT.out_.Program.Funcs.length:=(o.de 8 r).len.symm.trans (o.de 1 r).len
         try dsimp only [Z] at o
         try rw [bY] at o
         try dsimp only [Z]
         try rw [bY]
         refine n (g (s (mi r) (s (xAddW r r) (s (xi r) (n ?_)))))
         exact bX bR _ _ (Nat.lt_succ_self _) ⟨(wr (aS+1)),aT.out_.Program.Records,aT.f,aT.line,aT.e,aT.out_.Program.Funcs,aT.out_.Vars,aT.out_.Stmts,aT.open_,⟨r,r,r,r,r,r,r,r,r,r,y⟩,(o.ad [6,7,0,1,2,3,4,5] [0,6,7,1,2,3,4]),a4⟩
        refine wIfF (bf cc) (wk (g (s (mi r) (s (xAddW r r) (s (xi r) (n ?_))))))
        exact bX bR _ _ (Nat.lt_succ_self _) ⟨(wr (aS+1)),af,aE,aF,aG,W,ag,ah,ai,⟨r,r,r,r,r,r,r,r,r,r,y⟩,o,a4⟩
       refine wIfF (bf c9) (wEx ?_)
       exact cH _ _ ⟨aS,af,aE,aF,aG,W,ag,ah,ai,⟨r,r,r,r,r,r,r,r,y⟩,o,sm a4⟩
     clear o
     rintro f w ⟨aS,af,aE,aF,aG,W,ag,ah,ai,hf,o,cJ⟩
     obtain ⟨e5,rfl⟩:=has_updL _ _ hf
     clear hf
     subst cJ
     replace F:=gi F
     replace F:=pi F
     replace F:=pi F
     replace F:=pi F
     replace F:=pi F
     replace F:=pi F
     replace F:=pi F
     replace F:=pi F
     replace F:=pi F
     refine g (s (xAdd64 r r (by omega) (by omega)) (s (mi r) (n ?_)))
     exact cE (u3.Fields.length - (bg+1)) _ _ (by omega) ⟨bg+1,af,aE,aF,aG,W,ag,ah,ai,r,by omega,⟨r,r,r,r,r,r,r,r,y⟩,o,F⟩
    obtain rfl:bg=u3.Fields.length:=by omega
    rw [drop_end,m_r04_heads_L4] at F
    refine q (g (s (xLssF r r (by omega)) (n (q (wIfF r (wEx ?_))))))
    exact cD _ _ ⟨aa,aB,aC,aD,a1,ab,ac,ae,⟨r,r,r,r,r,y⟩,o,sm F⟩
   clear o
   rintro f w ⟨aa,aB,aC,aD,a1,ab,ac,ae,hf,o,cK⟩
   obtain ⟨e5,rfl⟩:=has_updL _ _ hf
   clear hf
   subst cK
   replace E:=gi E
   replace E:=pi E
   replace E:=pi E
   replace E:=pi E
   replace E:=pi E
   replace E:=pi E
   replace E:=pi E
   replace E:=pi E
   refine g (s (xAdd64 r r (by omega) (by omega)) (s (mi r) (n ?_)))
   exact d1 (H.out_.Program.Records.length - (k3+1)) _ _ (by omega) ⟨k3+1,aa,aB,aC,aD,a1,ab,ac,ae,r,by omega,⟨r,r,r,r,r,y⟩,(o.ad [1,2,3,4,5,6,7] [0,2,3,4,5,6]),E⟩
  obtain rfl:k3=H.out_.Program.Records.length:=by omega
  rw [drop_end,m_r04_heads_L0] at E
  refine q (g (s (xLssF r r (by omega)) (n (q (wIfF r (wEx ?_))))))
  exact d0 _ _ ⟨au,b0,b2,b3,I,av,aw,ax,⟨r,r,y⟩,o,sm E⟩
 clear o
 rintro f w ⟨au,b0,b2,b3,I,av,aw,ax,hf,o,db⟩
 obtain ⟨e5,rfl⟩:=has_updL _ _ hf
 clear hf
 subst db
 replace hM:=gi hM
 replace hM:=pi hM
 replace hM:=pi hM
 replace hM:=pi hM
 replace hM:=pi hM
 replace hM:=pi hM
 replace hM:=pi hM
 replace hM:=pi hM
 refine q (g (s (f26_1 r) (s (l24 r (o.bk 0 r) r) (s (xLnR u24_ r) (s (mi r) (n ?_))))))
 obtain ⟨cL,p,hM⟩:=bs hM
 refine wJd (fun f w=>∃ (a2:Int)(an:List Gr) (aU:Int)(aV:Int)(aW:Int)(X:List Gn) (ao:List (List Gv)) (ap:List Gi) (aq:List Int),Has f []∧Bx w0 w e4 G [.box b1 26 #[Z a H.out_.Program.Records b,Z c X j],.box S 115 #[Z a an b,Z c X j,Z t ao u,Z v ap x,V aU,Z z aq A,V aV,V aW],O K c j 82 Gn B,O L t u 60 (List Gv) (m.map Rw.hdr),.fam M 59 (sz Gv) m none,O N v x 65 Gi C,O Q z A 3 Int D] [.l a b an,.l a b H.out_.Program.Records,.els B X,.els2 m ao,.els C ap,.els D aq]∧Ld.go (a2,an,aU,aV,aW,X,ao,ap,aq)=cL) (fun dJ cM=>?_) ?_
 ·refine wBk (wLoopGd (fun e6 f w=>∃ (a2:Int)(an:List Gr) (aU:Int)(aV:Int)(aW:Int)(X:List Gn) (ao:List (List Gv)) (ap:List Gi) (aq:List Int),Has f [(0,Pt S),(2,Pt b1),(77,Z c X j),(78,V (I.length:Int)),(79,V a2)]∧Bx w0 w e4 G [.box b1 26 #[Z a H.out_.Program.Records b,Z c X j],.box S 115 #[Z a an b,Z c X j,Z t ao u,Z v ap x,V aU,Z z aq A,V aV,V aW],O K c j 82 Gn B,O L t u 60 (List Gv) (m.map Rw.hdr),.fam M 59 (sz Gv) m none,O N v x 65 Gi C,O Q z A 3 Int D] [.l a b an,.l a b H.out_.Program.Records,.els B X,.els2 m ao,.els C ap,.els D aq]∧m_r04_heads_L6 fu I e6 a2 an aU aV aW X ao ap aq=some cL) fu ⟨0,au,b0,b2,b3,I,av,aw,ax,⟨r,r,r,r,r,y⟩,o,p⟩ ?_)
  clear o p
  rintro cd f w ⟨a2,an,aU,aV,aW,X,ao,ap,aq,hf,o,p⟩ dK cN
  obtain ⟨e5,rfl⟩:=has_updL _ _ hf
  clear hf
  cases cd with
  | zero=>exact nn p
  | succ cd=>
   rw [m_r04_heads_L6] at p
   refine q (g (s (xLss r r) (n (q ?_))))
   rcases iv p with ⟨ce,p⟩|⟨ce,p⟩
   ·refine wIfT (bt ce) (wk (q (wBk (q (g (s (mi r) ?_))))))
    obtain ⟨R,bI,p⟩:=bs p
    obtain ⟨dL,cO,bI⟩:=ix_inv bI
    obtain ⟨dn,cP,cQ⟩:=(o.de 2 rfl).get bI
    obtain ⟨aH,aI,aJ,aK,rfl,cg,ch⟩:=GFunc.out cQ
    replace o:=o.dadd (d:=.l aH aI R.Params) cg
    replace o:=o.dadd (d:=.l aJ aK R.Body) ch
    refine s (xIdR u24_ ti82 r r cO (o.vw 2 4 r r) bI) (s (xLoadS [T R.Name,V R.Line,Z aH R.Params aI,Z aJ R.Body aK] u82_ r ti82 r r (o.oc 2 4 r r cP)) (sTo (aNewB o (mAlloc ti82)) ?_))
    rintro _ dM ⟨bO,rfl,o⟩
    refine s (xi r) (sTs (tb o 0 [T R.Name,V R.Line,Z aH R.Params aI,Z aJ R.Body aK] r ti82 r r r r r (show _=#[T R.Name,V R.Line,Z aH R.Params aI,Z aJ R.Body aK] from r)) ?_)
    intro dN o
    try dsimp only [List.set] at o
    refine n (q ?_)
    obtain ⟨dd,bh,p⟩:=bs p
    refine wJd (fun f w=>∃ (bj:List Gr) (bq:Int)(br:Int)(bu:Int)(b6:List Gn) (bl:List (List Gv)) (bm:List Gi) (bn:List Int),Has f [(0,Pt S),(2,Pt b1),(8,V a2),(9,Pt bO),(77,Z c b6 j),(78,V (I.length:Int)),(79,V a2)]∧Bx w0 w e4 G [.box bO 82 #[T R.Name,V R.Line,Z aH R.Params aI,Z aJ R.Body aK],.box b1 26 #[Z a H.out_.Program.Records b,Z c b6 j],.box S 115 #[Z a bj b,Z c b6 j,Z t bl u,Z v bm x,V bq,Z z bn A,V br,V bu],O K c j 82 Gn B,O L t u 60 (List Gv) (m.map Rw.hdr),.fam M 59 (sz Gv) m none,O N v x 65 Gi C,O Q z A 3 Int D] [.l a b bj,.l aJ aK R.Body,.l aH aI R.Params,.l a b H.out_.Program.Records,.els B b6,.els2 m bl,.els C bm,.els D bn]∧Ld.go (bj,bq,br,bu,b6,bl,bm,bn)=dd) (fun dO bZ=>?_) ?_
    ·unfold m_r04_heads_J7 at bh
     refine q (g (s (mi r) (s (xGeq r r) (n ?_))))
     rcases iv bh with ⟨ci,bh⟩|⟨ci,bh⟩
     ·refine wIfT (bt ci) (g (s (mp r) (s (f82_1 r) (s (l3 r (o.bk 0 r) r) ?_))))
      obtain ⟨aX,df,bh⟩:=bs bh
      have hc:=(sp_r04_fail fu) (o.pr [2,3,4,5,6,7] [0,1] [2,4,5,6,7] r) (o.le b7) (o.le b8) (o.le b9) (o.le ba) (o.le bb) df
      refine sc (ec cal72 r) hc ?_
      rintro _ dP ⟨rfl,hK⟩
      replace o:=o.cl [2,3,4,5,6,7] [0,1] r hK r
      try dsimp only [pick,nth,ca,na] at o
      have c0:X.length=aX.out_.Program.Funcs.length:=(o.de 9 r).len.symm.trans (o.de 1 r).len
      try dsimp only [Z] at o
      try rw [c0] at o
      try dsimp only [Z]
      try rw [c0]
      refine n ?_
      exact bZ _ _ ⟨aX.out_.Program.Records,aX.f,aX.line,aX.e,aX.out_.Program.Funcs,aX.out_.Vars,aX.out_.Stmts,aX.open_,⟨r,r,r,r,r,r,r,y⟩,(o.ad [6,7,0,1,2,3,4,5] [0,5,6,8,1,2,3,4]),sm bh⟩
     refine wIfF (bf ci) (wk ?_)
     exact bZ _ _ ⟨an,aU,aV,aW,X,ao,ap,aq,⟨r,r,r,r,r,r,r,y⟩,(o.dp [2,0,1,3,4,5,6,7]),sm bh⟩
    clear o
    rintro f w ⟨bj,bq,br,bu,b6,bl,bm,bn,hf,o,cR⟩
    obtain ⟨e5,rfl⟩:=has_updL _ _ hf
    clear hf
    subst cR
    replace p:=gi p
    replace p:=pi p
    replace p:=pi p
    replace p:=pi p
    replace p:=pi p
    replace p:=pi p
    replace p:=pi p
    replace p:=pi p
    refine q (g (s (xi r) (n ?_)))
    obtain ⟨cS,a5,p⟩:=bs p
    refine wJd (fun f w=>∃ (aY:Int)(aj:List Gr) (aL:Int)(aM:Int)(aN:Int)(J:List Gn) (ak:List (List Gv)) (al:List Gi) (am:List Int),Has f [(0,Pt S),(2,Pt b1),(77,Z c J j),(78,V (I.length:Int)),(79,V a2)]∧Bx w0 w e4 G [.box bO 82 #[T R.Name,V R.Line,Z aH R.Params aI,Z aJ R.Body aK],.box b1 26 #[Z a H.out_.Program.Records b,Z c J j],.box S 115 #[Z a aj b,Z c J j,Z t ak u,Z v al x,V aL,Z z am A,V aM,V aN],O K c j 82 Gn B,O L t u 60 (List Gv) (m.map Rw.hdr),.fam M 59 (sz Gv) m none,O N v x 65 Gi C,O Q z A 3 Int D] [.l a b aj,.l aJ aK R.Body,.l aH aI R.Params,.l a b H.out_.Program.Records,.els B J,.els2 m ak,.els C al,.els D am]∧Ld.go (aY,aj,aL,aM,aN,J,ak,al,am)=cS) (fun dQ cT=>?_) ?_
    ·refine wBk (wLoopGd (fun e6 f w=>∃ (aY:Int)(aj:List Gr) (aL:Int)(aM:Int)(aN:Int)(J:List Gn) (ak:List (List Gv)) (al:List Gi) (am:List Int),Has f [(0,Pt S),(2,Pt b1),(8,V a2),(9,Pt bO),(10,V aY),(77,Z c J j),(78,V (I.length:Int)),(79,V a2)]∧Bx w0 w e4 G [.box bO 82 #[T R.Name,V R.Line,Z aH R.Params aI,Z aJ R.Body aK],.box b1 26 #[Z a H.out_.Program.Records b,Z c J j],.box S 115 #[Z a aj b,Z c J j,Z t ak u,Z v al x,V aL,Z z am A,V aM,V aN],O K c j 82 Gn B,O L t u 60 (List Gv) (m.map Rw.hdr),.fam M 59 (sz Gv) m none,O N v x 65 Gi C,O Q z A 3 Int D] [.l a b aj,.l aJ aK R.Body,.l aH aI R.Params,.l a b H.out_.Program.Records,.els B J,.els2 m ak,.els C al,.els D am]∧m_r04_heads_L8 fu a2 R e6 aY aj aL aM aN J ak al am=some cS) fu ⟨0,bj,bq,br,bu,b6,bl,bm,bn,⟨r,r,r,r,r,r,r,r,y⟩,o,a5⟩ ?_)
     clear o a5
     rintro bS f w ⟨aY,aj,aL,aM,aN,J,ak,al,am,hf,o,a5⟩ dR c1
     obtain ⟨e5,rfl⟩:=has_updL _ _ hf
     clear hf
     cases bS with
     | zero=>exact nn a5
     | succ bS=>
      rw [m_r04_heads_L8] at a5
      refine q (q (g (s (mi r) (s (mi r) (s (xLss r r) (n ?_))))))
      rcases iv a5 with ⟨cj,a5⟩|⟨cj,a5⟩
      ·refine wIfT (bt cj) (wk (q (wBk (q ?_))))
       obtain ⟨cU,bJ,a5⟩:=bs a5
       obtain ⟨dS,cV,bJ⟩:=ix_inv bJ
       obtain ⟨dq,cW,cX⟩:=(o.de 4 rfl).get bJ
       obtain ⟨ck,cm,cn,co,rfl,cp,cq⟩:=GFunc.out cX
       replace o:=o.dadd (d:=.l ck cm cU.Params) cp
       replace o:=o.dadd (d:=.l cn co cU.Body) cq
       refine wDr1 o [0,1,3] [0,1,6] [] (by kernel_rfl) ?_
       replace o:=o.drew
       have hs:=(o.ad [0,1,3] [0,1,6])
       refine pF 0 r (f26_1 r) hs (uF 1 r (fun hS=>l24 r (hS.bk 1 r) r) hs (pF 2 r (mi r) hs (pF 3 r (xIdR u24_ ti82 r r cV (o.vw 3 6 r r) bJ) hs (pF 4 r (f82_0 r) hs (uF 5 r (fun hS=>xLoad u9_ r r ((hS.oc 2 2 r r cW) 0 _ r)) hs (pF 6 r (f82_0 r) hs (uF 7 r (fun hS=>l9 r (hS.bk 0 r) r) hs (pF 8 r (xEqlT' r r) hs (hD ?_)))))))))
       rcases iv a5 with ⟨cr,a5⟩|⟨cr,a5⟩
       ·refine wIfT (bt cr) (g (s (mp r) (s (f82_1 r) (s (l3 r (o.bk 0 r) r) ?_))))
        obtain ⟨aZ,dg,a5⟩:=bs a5
        have hc:=(sp_r04_fail fu) (o.pr [2,3,4,5,6,7] [0,1] [2,6,7,8,9] r) (o.le b7) (o.le b8) (o.le b9) (o.le ba) (o.le bb) dg
        refine sc (ec cal72 r) hc ?_
        rintro _ dT ⟨rfl,hK⟩
        replace o:=o.cl [2,3,4,5,6,7] [0,1] r hK r
        try dsimp only [pick,nth,ca,na] at o
        have c2:J.length=aZ.out_.Program.Funcs.length:=(o.de 11 r).len.symm.trans (o.de 1 r).len
        try dsimp only [Z] at o
        try rw [c2] at o
        try dsimp only [Z]
        try rw [c2]
        refine n (g (s (mi r) (s (xAddW r r) (s (xi r) (n ?_)))))
        exact c1 bS _ _ (Nat.lt_succ_self _) ⟨(wr (aY+1)),aZ.out_.Program.Records,aZ.f,aZ.line,aZ.e,aZ.out_.Program.Funcs,aZ.out_.Vars,aZ.out_.Stmts,aZ.open_,⟨r,r,r,r,r,r,r,r,y⟩,(o.ad [6,7,0,1,2,3,4,5] [0,8,9,10,1,2,3,4]),a5⟩
       refine wIfF (bf cr) (wk (g (s (mi r) (s (xAddW r r) (s (xi r) (n ?_))))))
       exact c1 bS _ _ (Nat.lt_succ_self _) ⟨(wr (aY+1)),aj,aL,aM,aN,J,ak,al,am,⟨r,r,r,r,r,r,r,r,y⟩,(o.dp [2,3,4,5,6,7,8,9]),a5⟩
      refine wIfF (bf cj) (wEx ?_)
      exact cT _ _ ⟨aY,aj,aL,aM,aN,J,ak,al,am,⟨r,r,r,r,r,y⟩,o,sm a5⟩
    clear o
    rintro f w ⟨aY,aj,aL,aM,aN,J,ak,al,am,hf,o,cY⟩
    obtain ⟨e5,rfl⟩:=has_updL _ _ hf
    clear hf
    subst cY
    replace p:=gi p
    replace p:=pi p
    replace p:=pi p
    replace p:=pi p
    replace p:=pi p
    replace p:=pi p
    replace p:=pi p
    replace p:=pi p
    replace p:=pi p
    refine g (s (xAddW r r) (s (mi r) (n ?_)))
    exact cN cd _ _ (Nat.lt_succ_self _) ⟨(wr (a2+1)),aj,aL,aM,aN,J,ak,al,am,⟨r,r,r,r,r,y⟩,(o.ad [1,2,3,4,5,6,7] [0,3,4,5,6,7]),p⟩
   refine wIfF (bf ce) (wEx ?_)
   exact cM _ _ ⟨a2,an,aU,aV,aW,X,ao,ap,aq,y,o,sm p⟩
 clear o
 rintro f w ⟨a2,an,aU,aV,aW,X,ao,ap,aq,hf,o,cZ⟩
 obtain ⟨e5,rfl⟩:=has_updL _ _ hf
 clear hf
 subst cZ
 replace hM:=gi hM
 replace hM:=pi hM
 replace hM:=pi hM
 replace hM:=pi hM
 replace hM:=pi hM
 replace hM:=pi hM
 replace hM:=pi hM
 replace hM:=pi hM
 replace hM:=pi hM
 obtain rfl:=sm hM
 refine res0 (P:=Try.prog) (fn:=Try.f48) r ?_
 exact ⟨r,(o.ad [1,2,3,4,5,6] [0,2,3,4,5])⟩
end
end Go.Proofs.Ytfglbdkfnphjgaa
