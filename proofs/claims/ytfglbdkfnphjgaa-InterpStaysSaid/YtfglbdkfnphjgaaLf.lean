/- Contracts, printed by gen3.py. -/
import Derived.Test.YtfglbdkfnphjgaaZ5
import Derived.Test.YtfglbdkfnphjgaaLa
set_option linter.unusedVariables false
set_option maxHeartbeats 12800000
set_option linter.unusedSimpArgs false
set_option maxRecDepth 4000
namespace Go.Proofs.Ytfglbdkfnphjgaa
open Go.RowKit Go.Fw
noncomputable section
def Km (m:jO→BA→Option (Int × Bool)):Prop:=∀ {k:World} {u:Nat→Prop} {j:jO} {o:BA} {a:Option Addr} {b:Nat} {c:Option Addr} {d:Nat} {e:Option Addr} {f:Nat} {h:Option Addr} {i:Nat} {R:Int × Bool},Pre k u [] [.l a b j.a.a,.l c d j.a.b,.l e f j.c,.l h i j.b]→m j o=some R→
 Calls Try.prog 30 #[.agg #[Z a j.a.a b,Z c j.a.b d,Z e j.c f,Z h j.b i],T o] k (qW fun v w=>jy R fun p t=>v=.tuple #[V p,.bool t]∧Bx k w u (lT []) [] [])
def rO (fu:Nat)(a:BA):List Gn→Nat→Option (Ld (Unit) (Int × Bool))
 | [],_=>some (.go ())
 | c :: d,b=>
 if c.b=a then
  some (.out ((b:Int),true))
 else
  rO fu a d (b+1)
def zC (fu:Nat)(a:jO) (b:BA):Option (Int × Bool):=
 (rO fu b a.a.b 0).bind fun c=>c.el (fun _=>
 some (0,false)
 ) (fun o=>some o)
theorem Ky (fu:Nat):Km (zC fu):=by
 intro S a9 h J x z c e A B C D R U v
 unfold zC at v
 have a:=U.bx
 clear U
 generalize hG:lT _=G at a ⊢
 refine cf Try.func30 r (lK [(0,.agg #[Z x h.a.a z,Z c h.a.b e,Z A h.c B,Z C h.b D]),(1,T J)] ⟨r,r,y⟩ fun aa=>q (g (tu a (y5 r) fun w1 b1 a=>s (xi r) (s (kC r) (n (q (q (g (s (FN r) (s (Af r) (s (OJ r (a.bk 0 r) r) (s (lX Cq r) (s (mi r) (n ?_))))))))))))))
 have X:=(a.dl 1 r).bd
 obtain ⟨W,b,v⟩:=bs v
 refine oq (fun f w=>Has f []∧Bx S w a9 G [] [.l c e h.a.b]∧Ld.go ()=W) (fun J2 K=>?_) ?_
 ·refine oM (kM (fun ab f w=>∃ (u:Nat),ab=h.a.b.length - u∧u≤h.a.b.length∧Has f [(12,V (u:Int)),(1,T J),(10,Z c h.a.b e),(11,V (h.a.b.length:Int))]∧Bx S w a9 G [] [.l c e h.a.b]∧rO fu J (h.a.b.drop u) u=some W) (h.a.b.length) ⟨0,r,Nat.zero_le _,⟨r,r,r,r,y⟩,(a.ad [] [1]),b⟩ ?_)
  clear a b
  rintro ab f w ⟨u,rfl,Y,hf,a,b⟩ K2 L
  obtain ⟨aa,rfl⟩:=iA _ _ hf
  clear hf
  rcases Nat.lt_or_ge u h.a.b.length with F | F
  ·obtain ⟨j,E⟩:=mh (l:=h.a.b) F
   rw [mP E,rO] at b
   obtain ⟨a0,M,a⟩:=a.nm 0 rfl E
   obtain ⟨m,o,p,t,rfl,H,I⟩:=lI.out M
   replace a:=a.ku (d:=.l m o j.a) H
   replace a:=a.ku (d:=.l p t j.e) I
   refine q (g (s (sS r r (by omega)) (n (q (jN r (wk (q (oM (q (g (s (mi r) (s (kW Cq nY r r r (a.dl 3 r) E) (s (nN [T j.b,V j.f,Z m j.a o,Z p j.e t] Ez r nY r r (a.dc 2 r)) (tu a (jV nY) fun w4 b4 a=>s (xi r) (lg (nX a 0 [T j.b,V j.f,Z m j.a o,Z p j.e t] r nY r r) fun w5 a=>n (q (g (s (JY r) (s (l9 r (a.bk 0 r) r) (s (kY r) (s (rR r r) (n ?_))))))))))))))))))))))
   rcases iv b with ⟨N,b⟩|⟨N,b⟩
   ·refine jN (bt N) (q (g (s (mi r) (s (xi r) (s (kC r) (n (kT ?_)))))))
    obtain rfl:=sm b
    replace v:=oi v
    obtain rfl:=sm v
    exact qj r (lq r) (lq r) (mM (⟨r,(a.ad [] [])⟩))
   exact jK (bf N) (wk (g (s (mR r r (by omega) (by omega)) (s (mi r) (n (L (h.a.b.length - (u+1)) _ _ (by omega) ⟨u+1,r,by omega,⟨r,r,r,r,y⟩,(a.ad [] [3]),b⟩))))))
  obtain rfl:u=h.a.b.length:=by omega
  rw [lV,rO] at b
  exact q (g (s (sU r r (by omega)) (n (q (jK r (tT (K _ _ ⟨y,a,sm b⟩)))))))
 clear a
 rintro f w ⟨hf,a,Q⟩
 obtain ⟨aa,rfl⟩:=iA _ _ hf
 clear hf
 subst Q
 replace v:=gi v
 refine q (g (s (xi r) (s (kC r) (n (kT ?_)))))
 obtain rfl:=sm v
 exact qj r (lq r) (lq r) (mM (⟨r,(a.dp [])⟩))
def Lp (m:Gt→Int→Int→Option (Gt)):Prop:=∀ {I:World} {L:Nat→Prop} {B:Gt} {J:Int} {K:Int} {H:Nat} {t:Option Addr} {u:Nat} {c:Option Addr} {d:Nat} {x:List (List Value)} {C:Nat} {h:Option Addr} {i:Nat} {a:List Rw} {D:Nat} {E:Nat} {j:Option Addr} {k:Nat} {z:List (List Value)} {F:Nat} {o:Option Addr} {p:Nat} {A:List (List Value)} {G:Nat} {b:Gt},Pre I L [.box H 115 #[Z t B.a.a.a u,Z c B.a.a.b d,Z h B.a.c i,Z j B.a.b k,V B.f,Z o B.b p,V B.c,V B.e],O C c d 82 Gn x,O D h i 60 (List Gv) (a.map Rw.hdr),.qX E 59 (sz Gv) a none,O F j k 65 Gi z,O G o p 3 Int A] [.l t u B.a.a.a,.els x B.a.a.b,.mU a B.a.c,.els z B.a.b,.els A B.b]→C≤I.heap.size→D≤I.heap.size→E≤I.heap.size→F≤I.heap.size→G≤I.heap.size→m B J K=some b→
 Calls Try.prog 72 #[Pt H,V J,V K] I (qW fun v w=>v=.tuple #[]∧Bx I w L (lT [.box H 115 #[Z t B.a.a.a u,Z c B.a.a.b d,Z h B.a.c i,Z j B.a.b k,V B.f,Z o B.b p,V B.c,V B.e],O C c d 82 Gn x,O D h i 60 (List Gv) (a.map Rw.hdr),.qX E 59 (sz Gv) a none,O F j k 65 Gi z,O G o p 3 Int A]) [.box H 115 #[Z t b.a.a.a u,Z c b.a.a.b d,Z h b.a.c i,Z j b.a.b k,V b.f,Z o b.b p,V b.c,V b.e],O C c d 82 Gn x,O D h i 60 (List Gv) (a.map Rw.hdr),.qX E 59 (sz Gv) a none,O F j k 65 Gi z,O G o p 3 Int A] [.l t u b.a.a.a,.els x b.a.a.b,.mU a b.a.c,.els z b.a.b,.els A b.b])
def lY (fu:Nat)(a:Gt) (b:Int)(c:Int):Option (Gt):=
 if a.e=0 then
  some (⟨a.a,a.f,a.b,b,c⟩:Gt)
 else
  some a
theorem mZ (fu:Nat):Lp (lY fu):=by
 intro W a1 a Q I H p t b c w x d h u z A j l B C m o D E U S J K L M N F
 unfold lY at F
 have v:=S.bx
 clear S
 generalize X:lT _=G at v ⊢
 refine cf Try.func72 r (lK [(0,Pt H),(1,V Q),(2,V I)] ⟨r,r,r,y⟩ fun a2=>q (g (s (mp r) (s (xn r) (s (yY r) (s (BM r (v.bk 0 r) r) (s (kD r r) (n ?_))))))))
 rcases iv F with ⟨R,F⟩|⟨R,F⟩
 ·refine jN (bt R) (g (s (mp r) (s (mp r) (s (mi r) (s (mi r) (s (xn r) (s (yY r) (lg (t_n v 0 [V I] r Mi r r) fun Y v=>s (xn r) (s (Pz r) (lg (t_n v 0 [V Q] r nO r r) fun w3 v=>n ?_))))))))))
  obtain rfl:=sm F
  exact ze (P:=Try.prog) (fn:=Try.f72) r ⟨r,v⟩
 refine jK (bf R) (wk ?_)
 obtain rfl:=sm F
 exact ze (P:=Try.prog) (fn:=Try.f72) r ⟨r,v⟩
def Hq (m:Gt→BA→Option (Int × Bool)):Prop:=∀ {H:World} {L:Nat→Prop} {a:Gt} {I:BA} {G:Nat} {t:Option Addr} {u:Nat} {c:Option Addr} {d:Nat} {x:List (List Value)} {B:Nat} {h:Option Addr} {i:Nat} {b:List Rw} {C:Nat} {D:Nat} {j:Option Addr} {k:Nat} {z:List (List Value)} {E:Nat} {o:Option Addr} {p:Nat} {A:List (List Value)} {F:Nat} {R:Int × Bool},Pre H L [.box G 115 #[Z t a.a.a.a u,Z c a.a.a.b d,Z h a.a.c i,Z j a.a.b k,V a.f,Z o a.b p,V a.c,V a.e],O B c d 82 Gn x,O C h i 60 (List Gv) (b.map Rw.hdr),.qX D 59 (sz Gv) b none,O E j k 65 Gi z,O F o p 3 Int A] [.l t u a.a.a.a,.els x a.a.a.b,.mU b a.a.c,.els z a.a.b,.els A a.b]→B≤H.heap.size→C≤H.heap.size→D≤H.heap.size→E≤H.heap.size→F≤H.heap.size→m a I=some R→
 Calls Try.prog 116 #[Pt G,T I] H (qW fun v w=>jy R fun J K=>v=.tuple #[V J,.bool K]∧Bx H w L (lT [.box G 115 #[Z t a.a.a.a u,Z c a.a.a.b d,Z h a.a.c i,Z j a.a.b k,V a.f,Z o a.b p,V a.c,V a.e],O B c d 82 Gn x,O C h i 60 (List Gv) (b.map Rw.hdr),.qX D 59 (sz Gv) b none,O E j k 65 Gi z,O F o p 3 Int A]) [.box G 115 #[Z t a.a.a.a u,Z c a.a.a.b d,Z h a.a.c i,Z j a.a.b k,V a.f,Z o a.b p,V a.c,V a.e],O B c d 82 Gn x,O C h i 60 (List Gv) (b.map Rw.hdr),.qX D 59 (sz Gv) b none,O E j k 65 Gi z,O F o p 3 Int A] [.l t u a.a.a.a,.els x a.a.a.b,.mU b a.a.c,.els z a.a.b,.els A a.b])
def qg (fu:Nat)(a:BA):List Gr→Nat→Option (Ld (Unit) (Int × Bool))
 | [],_=>some (.go ())
 | c :: d,b=>
 if c.b=a then
  some (.out ((b:Int),true))
 else
  qg fu a d (b+1)
def xB (fu:Nat)(a:Gt) (b:BA):Option (Int × Bool):=
 (qg fu b a.a.a.a 0).bind fun c=>c.el (fun _=>
 some (0,false)
 ) (fun o=>some o)
theorem GK (fu:Nat):Hq (xB fu):=by
 intro w0 am a x1 M c h j k z D m o b E F p t A H u v B I R hP X Y a0 a1 a2 N
 unfold xB at N
 have x:=hP.bx
 clear hP
 generalize hG:lT _=G at x ⊢
 refine cf Try.func116 r (lK [(0,Pt M),(1,T x1)] ⟨r,r,y⟩ fun an=>q (g (s (xi r) (s (kC r) (n (q (q (g (s (mp r) (s (xn r) (s (pW r) (s (FN r) (s (CX r) (s (Tj r (x.bk 0 r) r) (s (lX G8 r) (s (mi r) (n ?_)))))))))))))))))
 have ac:=(x.dl 0 r).bd
 obtain ⟨Y1,C,N⟩:=bs N
 refine oq (fun f w=>Has f []∧Bx w0 w am G [.box M 115 #[Z c a.a.a.a h,Z j a.a.a.b k,Z m a.a.c o,Z p a.a.b t,V a.f,Z u a.b v,V a.c,V a.e],O D j k 82 Gn z,O E m o 60 (List Gv) (b.map Rw.hdr),.qX F 59 (sz Gv) b none,O H p t 65 Gi A,O I u v 3 Int B] [.l c h a.a.a.a,.els z a.a.a.b,.mU b a.a.c,.els A a.a.b,.els B a.b]∧Ld.go ()=Y1) (fun J1 a4=>?_) ?_
 ·refine oM (kM (fun ao f w=>∃ (L:Nat),ao=a.a.a.a.length - L∧L≤a.a.a.a.length∧Has f [(15,V (L:Int)),(1,T x1),(13,Z c a.a.a.a h),(14,V (a.a.a.a.length:Int))]∧Bx w0 w am G [.box M 115 #[Z c a.a.a.a h,Z j a.a.a.b k,Z m a.a.c o,Z p a.a.b t,V a.f,Z u a.b v,V a.c,V a.e],O D j k 82 Gn z,O E m o 60 (List Gv) (b.map Rw.hdr),.qX F 59 (sz Gv) b none,O H p t 65 Gi A,O I u v 3 Int B] [.l c h a.a.a.a,.els z a.a.a.b,.mU b a.a.c,.els A a.a.b,.els B a.b]∧qg fu x1 (a.a.a.a.drop L) L=some Y1) (a.a.a.a.length) ⟨0,r,Nat.zero_le _,⟨r,r,r,r,y⟩,x,C⟩ ?_)
  clear x C
  rintro ao f w ⟨L,rfl,ae,hf,x,C⟩ K1 a5
  obtain ⟨an,rfl⟩:=iA _ _ hf
  clear hf
  rcases Nat.lt_or_ge L a.a.a.a.length with U | U
  ·obtain ⟨Q,S⟩:=mh (l:=a.a.a.a) U
   rw [mP S,qg] at C
   obtain ⟨af,a6,x⟩:=x.nm 0 rfl S
   obtain ⟨J,K,rfl,W⟩:=kV.out a6
   replace x:=x.ku (d:=.l J K Q.a) W
   refine q (g (s (sS r r (by omega)) (n (q (jN r (wk (q (oM (q (g (s (mi r) (s (kW G8 wT r r r (x.dl 2 r) S) (s (nN [T Q.b,Z J Q.a K] Nb r wT r r (x.dc 1 r)) (tu x (jV wT) fun w3 b3 x=>s (xi r) (lg (nX x 0 [T Q.b,Z J Q.a K] r wT r r) fun w4 x=>n (q (g (s (Iz r) (s (l9 r (x.bk 0 r) r) (s (kY r) (s (rR r r) (n ?_))))))))))))))))))))))
   rcases iv C with ⟨h5,C⟩|⟨h5,C⟩
   ·refine jN (bt h5) (q (g (s (mi r) (s (xi r) (s (kC r) (n (kT ?_)))))))
    obtain rfl:=sm C
    replace N:=oi N
    obtain rfl:=sm N
    exact qj r (lq r) (lq r) (mM (⟨r,(x.ad [1,2,3,4,5,6] [2,3,4,5,6])⟩))
   exact jK (bf h5) (wk (g (s (mR r r (by omega) (by omega)) (s (mi r) (n (a5 (a.a.a.a.length - (L+1)) _ _ (by omega) ⟨L+1,r,by omega,⟨r,r,r,r,y⟩,(x.ad [1,2,3,4,5,6] [2,3,4,5,6]),C⟩))))))
  obtain rfl:L=a.a.a.a.length:=by omega
  rw [lV,qg] at C
  exact q (g (s (sU r r (by omega)) (n (q (jK r (tT (a4 _ _ ⟨y,x,sm C⟩)))))))
 clear x
 rintro f w ⟨hf,x,a8⟩
 obtain ⟨an,rfl⟩:=iA _ _ hf
 clear hf
 subst a8
 replace N:=gi N
 refine q (g (s (xi r) (s (kC r) (n (kT ?_)))))
 obtain rfl:=sm N
 exact qj r (lq r) (lq r) (mM (⟨r,x⟩))
def GX (m:Gt→BA→Option (Int × Bool)):Prop:=∀ {H:World} {L:Nat→Prop} {a:Gt} {I:BA} {G:Nat} {t:Option Addr} {u:Nat} {c:Option Addr} {d:Nat} {x:List (List Value)} {B:Nat} {h:Option Addr} {i:Nat} {b:List Rw} {C:Nat} {D:Nat} {j:Option Addr} {k:Nat} {z:List (List Value)} {E:Nat} {o:Option Addr} {p:Nat} {A:List (List Value)} {F:Nat} {R:Int × Bool},Pre H L [.box G 115 #[Z t a.a.a.a u,Z c a.a.a.b d,Z h a.a.c i,Z j a.a.b k,V a.f,Z o a.b p,V a.c,V a.e],O B c d 82 Gn x,O C h i 60 (List Gv) (b.map Rw.hdr),.qX D 59 (sz Gv) b none,O E j k 65 Gi z,O F o p 3 Int A] [.l t u a.a.a.a,.els x a.a.a.b,.mU b a.a.c,.els z a.a.b,.els A a.b]→B≤H.heap.size→C≤H.heap.size→D≤H.heap.size→E≤H.heap.size→F≤H.heap.size→m a I=some R→
 Calls Try.prog 98 #[Pt G,T I] H (qW fun v w=>jy R fun J K=>v=.tuple #[V J,.bool K]∧Bx H w L (lT [.box G 115 #[Z t a.a.a.a u,Z c a.a.a.b d,Z h a.a.c i,Z j a.a.b k,V a.f,Z o a.b p,V a.c,V a.e],O B c d 82 Gn x,O C h i 60 (List Gv) (b.map Rw.hdr),.qX D 59 (sz Gv) b none,O E j k 65 Gi z,O F o p 3 Int A]) [.box G 115 #[Z t a.a.a.a u,Z c a.a.a.b d,Z h a.a.c i,Z j a.a.b k,V a.f,Z o a.b p,V a.c,V a.e],O B c d 82 Gn x,O C h i 60 (List Gv) (b.map Rw.hdr),.qX D 59 (sz Gv) b none,O E j k 65 Gi z,O F o p 3 Int A] [.l t u a.a.a.a,.els x a.a.a.b,.mU b a.a.c,.els z a.a.b,.els A a.b])
def p9 (fu:Nat)(a:Gt) (b:BA):List Int→Nat→Option (Ld (Unit) (Int × Bool))
 | [],_=>some (.go ())
 | c :: d,e=>
 (ix a.a.c a.f).bind fun h=>
 (ix h c).bind fun i=>
 if i.b=b then
  some (.out (c,true))
 else
  p9 fu a b d (e+1)
def uJ (fu:Nat)(a:Gt) (b:BA):Option (Int × Bool):=
 (p9 fu a b a.b 0).bind fun c=>c.el (fun _=>
 some (0,false)
 ) (fun o=>some o)
theorem BP (fu:Nat):GX (uJ fu):=by
 intro w0 aw a x1 L z A o p B F t u b H I v x C J c d D K R hP a0 a1 a2 a4 a5 N
 unfold uJ at N
 have j:=hP.bx
 clear hP
 generalize hG:lT _=G at j ⊢
 refine cf Try.func98 r (lK [(0,Pt L),(1,T x1)] ⟨r,r,y⟩ fun ax=>q (g (s (xi r) (s (kC r) (n (q (q (g (s (mp r) (s (xn r) (s (zY r) (s (OP r (j.bk 0 r) r) (s (lX ug r) (s (mi r) (n ?_)))))))))))))))
 have ai:=(j.vw 5 4 r r).bd
 obtain ⟨Y1,m,N⟩:=bs N
 refine oq (fun f w=>Has f []∧Bx w0 w aw G [.box L 115 #[Z z a.a.a.a A,Z o a.a.a.b p,Z t a.a.c u,Z v a.a.b x,V a.f,Z c a.b d,V a.c,V a.e],O F o p 82 Gn B,O H t u 60 (List Gv) (b.map Rw.hdr),.qX I 59 (sz Gv) b none,O J v x 65 Gi C,O K c d 3 Int D] [.l z A a.a.a.a,.els B a.a.a.b,.mU b a.a.c,.els C a.a.b,.els D a.b]∧Ld.go ()=Y1) (fun J1 a7=>?_) ?_
 ·refine oM (kM (fun ay f w=>∃ (M:Nat),ay=a.b.length - M∧M≤a.b.length∧Has f [(13,V (M:Int)),(0,Pt L),(1,T x1),(11,Z c a.b d),(12,V (a.b.length:Int))]∧Bx w0 w aw G [.box L 115 #[Z z a.a.a.a A,Z o a.a.a.b p,Z t a.a.c u,Z v a.a.b x,V a.f,Z c a.b d,V a.c,V a.e],O F o p 82 Gn B,O H t u 60 (List Gv) (b.map Rw.hdr),.qX I 59 (sz Gv) b none,O J v x 65 Gi C,O K c d 3 Int D] [.l z A a.a.a.a,.els B a.a.a.b,.mU b a.a.c,.els C a.a.b,.els D a.b]∧p9 fu a x1 (a.b.drop M) M=some Y1) (a.b.length) ⟨0,r,Nat.zero_le _,⟨r,r,r,r,r,y⟩,j,m⟩ ?_)
  clear j m
  rintro ay f w ⟨M,rfl,aj,hf,j,m⟩ K1 a8
  obtain ⟨ax,rfl⟩:=iA _ _ hf
  clear hf
  rcases Nat.lt_or_ge M a.b.length with Y | Y
  ·obtain ⟨u1,S⟩:=mh (l:=a.b) Y
   rw [mP S,p9] at m
   refine q (g (s (sS r r (by omega)) (n (q (jN r (wk (q (oM (q (g (s (kW ug nO r r r (j.vw 5 4 r r) S) (s (jT EC r r ((uy (ds:=[V u1]) (j.vw 5 4 r r) S (fun _ h=>h)) 0 _ r)) (s (xi r) (n (q ?_)))))))))))))))
   obtain ⟨e2,U,m⟩:=bs m
   obtain ⟨k2,a9,U⟩:=kJ U
   replace j:=j.arr [3,0,1,2,4,5] r
   try dsimp only [pick,nth,ca,na] at j
   obtain ⟨a3,c3,q3,W,aa,j⟩:=j.Ub 2 rfl U
   refine pX j [0,1,2,4] [0,3] [] (by kernel_rfl) ?_
   replace j:=j.drew
   have E:=(j.ad [0,1,2,4] [0,3])
   refine pF 0 r (mp r) E (pF 1 r (xn r) E (pF 2 r (pW r) E (pF 3 r (AX r) E (uF 4 r (fun hS=>PD r (hS.bk 2 r) r) E (pF 5 r (mp r) E (pF 6 r (xn r) E (pF 7 r (Ab r) E (uF 8 r (fun hS=>l3 r (hS.bk 2 r) r) E (pF 9 r (LK EJ Es r r a9 (j.bo 4 r) W (j.d2 3 r).len) E (uF 10 r (fun hS=>jT Bj r r (hS.hc 3 r W aa 0 _ r)) E (pF 11 r (mi r) E ?_)))))))))))
   obtain ⟨X,Q,m⟩:=bs m
   obtain ⟨k4,ab,Q⟩:=kJ Q
   refine pF 12 r (kW Bj z8 r r ab (j.vw 0 0 r r) Q) E (pF 13 r (S9 r) E (tU 14 r (fun _ hS=>jT uq r r ((uy (ds:=[T X.b,V X.c,V X.d,V X.a,.bool X.f,V X.e,V X.g]) (hS.vw 0 0 r r) Q (fun _ h=>h)) 0 _ r)) (sF E) (pF 15 r (kY r) E (pF 16 r (rR r r) E (hD ?_)))))
   replace j:=j.arr [0,1,2,3,4,5,6] r
   try dsimp only [pick,nth,ca,na] at j
   replace j:=j.Vx 3 0 r r W
   rcases iv m with ⟨h7,m⟩|⟨h7,m⟩
   ·refine jN (bt h7) (q (g (s (mi r) (s (xi r) (s (kC r) (n (kT ?_)))))))
    obtain rfl:=sm m
    replace N:=oi N
    obtain rfl:=sm N
    exact qj r (lq r) (lq r) (mM (⟨r,(j.ad [1,2,3,0,4,5] [1,2,3,4,5])⟩))
   exact jK (bf h7) (wk (g (s (mR r r (by omega) (by omega)) (s (mi r) (n (a8 (a.b.length - (M+1)) _ _ (by omega) ⟨M+1,r,by omega,⟨r,r,r,r,r,y⟩,(j.ad [1,2,3,0,4,5] [1,2,3,4,5]),m⟩))))))
  obtain rfl:M=a.b.length:=by omega
  rw [lV,p9] at m
  exact q (g (s (sU r r (by omega)) (n (q (jK r (tT (a7 _ _ ⟨y,j,sm m⟩)))))))
 clear j
 rintro f w ⟨hf,j,ae⟩
 obtain ⟨ax,rfl⟩:=iA _ _ hf
 clear hf
 subst ae
 replace N:=gi N
 refine q (g (s (xi r) (s (kC r) (n (kT ?_)))))
 obtain rfl:=sm N
 exact qj r (lq r) (lq r) (mM (⟨r,j⟩))
def EW (m:Gt→Int→Gv→Option (Int × Gt)):Prop:=∀ {P:World} {W:Nat→Prop} {t:Gt} {S:Int} {Q:Gv} {N:Nat} {i:Option Addr} {j:Nat} {a:Option Addr} {b:Nat} {k:List (List Value)} {u:Nat} {x:Option Addr} {z:Nat} {o:List Rw} {A:Nat} {B:Nat} {c:Option Addr} {d:Nat} {p:List (List Value)} {C:Nat} {D:Option Addr} {E:Nat} {H:List (List Value)} {F:Nat} {R:Int × Gt},Pre P W [.box N 115 #[Z i t.a.a.a j,Z a t.a.a.b b,Z x t.a.c z,Z c t.a.b d,V t.f,Z D t.b E,V t.c,V t.e],O u a b 82 Gn k,O A x z 60 (List Gv) (o.map Rw.hdr),.qX B 59 (sz Gv) o none,O C c d 65 Gi p,O F D E 3 Int H] [.l i j t.a.a.a,.els k t.a.a.b,.mU o t.a.c,.els p t.a.b,.els H t.b]→u≤P.heap.size→A≤P.heap.size→B≤P.heap.size→C≤P.heap.size→F≤P.heap.size→m t S Q=some R→
 Calls Try.prog 73 #[Pt N,V S,.agg #[T Q.b,V Q.c,V Q.d,V Q.a,.bool Q.f,V Q.e,V Q.g]] P (qW fun v w=>jy R fun U h=>∃ (I:OA)(J:Nat)(G:List Rw) (K:OA)(L:Nat)(M:LV),v=V U∧Bx P w W (lT [.box N 115 #[Z i t.a.a.a j,Z a t.a.a.b b,Z x t.a.c z,Z c t.a.b d,V t.f,Z D t.b E,V t.c,V t.e],O u a b 82 Gn k,O A x z 60 (List Gv) (o.map Rw.hdr),.qX B 59 (sz Gv) o none,O C c d 65 Gi p,O F D E 3 Int H]) [.box N 115 #[Z i h.a.a.a j,Z a h.a.a.b b,Z I h.a.c J,Z c h.a.b d,V h.f,Z K h.b L,V h.c,V h.e],O u a b 82 Gn k,O A I J 60 (List Gv) (G.map Rw.hdr),.qX B 59 (sz Gv) G none,O C c d 65 Gi p,O F K L 3 Int M] [.l i j h.a.a.a,.els k h.a.a.b,.mU G h.a.c,.els p h.a.b,.els M h.b])
def og (fu:Nat)(a:Gt) (l:Int)(m:Gv):Option (Int × Gt):=
 (uJ fu a m.b).bind fun p=>
 jy p fun o c=>
 (ix a.a.c a.f).bind fun h=>
 if a.e≠0 then
  some (0,a)
 else
  if c=true then
   (lY fu a l 9).bind fun d=>
   some (0,d)
  else
   if 24≤(h.length:Int) then
    (lY fu a l 5).bind fun b=>
    some (0,b)
   else
    (app h ([m]:List Gv)).bind fun i=>
    (app a.b ([(h.length:Int)]:List Int)).bind fun j=>
    (st a.a.c a.f i).bind fun k=>
    some ((h.length:Int),(⟨(⟨a.a.a,k,a.a.b⟩:jO),a.f,j,a.c,a.e⟩:Gt))
theorem zI (fu:Nat):EW (og fu):=by
 intro w0 aZ A x1 u a5 I J B C M N c d h Q S D E U W o p v X R hP w x l z m j
 unfold og at j
 have a:=hP.bx
 clear hP
 generalize hG:lT _=G at a ⊢
 refine cf Try.func73 r (lK [(0,Pt a5),(1,V x1),(2,.agg #[T u.b,V u.c,V u.d,V u.a,.bool u.f,V u.e,V u.g])] ⟨r,r,r,y⟩ fun b0=>q (g (tu a (y5 r) fun w1 b1 a=>s (xi r) (n (q (g (s (mp r) (s (S9 r) (s (l9 r (a.bk 0 r) r) ?_)))))))))
 obtain ⟨au,av,h2,j⟩:=lZ j
 have hc:=(BP fu) (a.pr [1,2,3,4,5,6] [0] [0,1,2,3,4] r) (a.le w) (a.le x) (a.le l) (a.le z) (a.le m) h2
 refine sc (ec TF r) hc ?_
 rintro _ w2 ⟨rfl,hK⟩
 replace a:=a.cn [1,2,3,4,5,6] [0] hK
 refine s sZ (s (jZ r r) (s (jZ r r) (s (xi r) (s (kC r) (n (q ?_))))))
 obtain ⟨e3,K,j⟩:=bs j
 obtain ⟨k3,Y,K⟩:=kJ K
 replace a:=a.arr [3,0,1,2,4,5,6] r
 try dsimp only [pick,nth,ca,na] at a
 obtain ⟨a4,c4,q4,a0,aj,a⟩:=a.Ub 2 rfl K
 refine pX a [0,1,2,4] [0,3] [] (by kernel_rfl) ?_
 replace a:=a.drew
 have b:=(a.ad [0,1,2,4] [0,3])
 refine pF 0 r (mp r) b (pF 1 r (xn r) b (pF 2 r (pW r) b (pF 3 r (AX r) b (uF 4 r (fun hS=>PD r (hS.bk 2 r) r) b (pF 5 r (mp r) b (pF 6 r (xn r) b (pF 7 r (Ab r) b (uF 8 r (fun hS=>l3 r (hS.bk 2 r) r) b (pF 9 r (LK EJ Es r r Y (a.bo 4 r) a0 (a.d2 3 r).len) b (uF 10 r (fun hS=>jT Bj r r (hS.hc 3 r a0 aj 0 _ r)) b (pF 11 r (lX Bj r) b (pF 12 r (xi r) b (hD (q ?_))))))))))))))
 replace a:=a.arr [0,1,2,3,4,5,6,7] r
 try dsimp only [pick,nth,ca,na] at a
 replace a:=a.Vx 3 0 r r a0
 refine oM (q (g (s (mp r) (s (xn r) (s (yY r) (s (BM r (a.bk 1 r) r) (s (rY r r) (s (kC r) (n ?_)))))))))
 rcases iv j with ⟨h7,j⟩|⟨h7,j⟩
 ·refine jN (bt h7) (q (g (s (xi r) (n (kT ?_)))))
  obtain rfl:=sm j
  exact jI r (lq r) (mM (⟨c,d,h,o,p,v,r,(a.ad [1,2,3,0,4,5] [6,2,3,4,5])⟩))
 refine jK (bf h7) (q (g (s (kL r) (s (kC r) (n ?_)))))
 rcases iv j with ⟨h8,j⟩|⟨h8,j⟩
 ·refine jN (cb h8) (q (g (s (mp r) (s (mi r) ?_))))
  obtain ⟨ax,h9,j⟩:=bs j
  have hc:=(mZ fu) (a.pr [1,2,3,0,4,5] [6] [6,2,3,4,5] r) (a.le w) (a.le x) (a.le l) (a.le z) (a.le m) h9
  refine sc (ec yZ r) hc ?_
  rintro _ w9 ⟨rfl,hK⟩
  replace a:=a.cn [1,2,3,0,4,5] [6] hK
  refine n (q (g (s (xi r) (n (kT ?_)))))
  obtain rfl:=sm j
  exact jI r (lq r) (mM (⟨c,d,h,o,p,v,r,(a.ad [0,1,2,3,4,5] [0,1,2,3,4])⟩))
 replace h8:=nt h8
 refine jK (cb h8) (q (g (s (mi r) (s (Bq r r) (s (kC r) (n ?_))))))
 rcases iv j with ⟨a1,j⟩|⟨a1,j⟩
 ·refine jN (bt a1) (q (g (s (mp r) (s (mi r) ?_))))
  obtain ⟨al,am,j⟩:=bs j
  have hc:=(mZ fu) (a.pr [1,2,3,0,4,5] [6] [6,2,3,4,5] r) (a.le w) (a.le x) (a.le l) (a.le z) (a.le m) am
  refine sc (ec yZ r) hc ?_
  rintro _ aC ⟨rfl,hK⟩
  replace a:=a.cn [1,2,3,0,4,5] [6] hK
  refine n (q (g (s (xi r) (n (kT ?_)))))
  obtain rfl:=sm j
  exact jI r (lq r) (mM (⟨c,d,h,o,p,v,r,(a.ad [0,1,2,3,4,5] [0,1,2,3,4])⟩))
 refine jK (bf a1) (wk (q ?_))
 obtain ⟨aD,aE,aF,F,a8,a⟩:=a.Ub 3 rfl K
 refine Kr a [1,2,7] [] [0,1,2,4,7] [0,4] [22,24] (by kernel_rfl) ?_
 replace a:=a.drew
 have b:=(a.ad [1,2,7] [])
 have t:=(a.ad [0,1,2,4,7] [0,4])
 refine pL 0 r (mp r) b t (pL 1 r (xn r) b t (pL 2 r (pW r) b t (pL 3 r (AX r) b t (tU 4 r (fun _ hS=>PD r (hS.bk 1 r) r) (nu b t) (pL 5 r (mp r) b t (pL 6 r (xn r) b t (pL 7 r (Ab r) b t (tU 8 r (fun _ hS=>l3 r (hS.bk 1 r) r) (nu b t) (pL 9 r (mp r) b t (pL 10 r (xn r) b t (pL 11 r (pW r) b t (pL 12 r (AX r) b t (tU 13 r (fun _ hS=>PD r (hS.bk 1 r) r) (nu b t) (pL 14 r (mp r) b t (pL 15 r (xn r) b t (pL 16 r (Ab r) b t (tU 17 r (fun _ hS=>l3 r (hS.bk 1 r) r) (nu b t) (pL 18 r (LK EJ Es r r Y (a.bo 4 r) F (a.d2 4 r).len) b t (tS 1 19 r (fun _ hS=>jT Bj r r (hS.hc 3 r F a8 0 _ r)) (nu b t) (tU 20 r (fun _ hS=>ng [T u.b,V u.c,V u.d,V u.a,.bool u.f,V u.e,V u.g] RB z8 r (hS.bk 2 r)) (nu b t) (hO 21 (oo r r (jP a [[T u.b,V u.c,V u.d,V u.a,.bool u.f,V u.e,V u.g]] ([u]:List Gv) (P7 r) r r (by decide) ⟨r,y⟩) ?_))))))))))))))))))))))
 rintro _ aG ⟨aH,rfl,a⟩
 have b:=(a.ad [2,3,8] [])
 have t:=(a.ad [1,2,3,5,8] [1,5])
 refine ⟨(nu b t),?_⟩
 obtain ⟨aI,a9,j⟩:=bs j
 refine hO 22 (oo r r (kP a 1 1 r r Bj z8 r (by decide) (by decide) l r r (a.zP 0 0 r r) a9) ?_)
 rintro _ aJ ⟨aa,ab,ac,rfl,a⟩
 have b:=(a.ad [2,3,8] [])
 refine ⟨(sy 22 b),(tP 23 r (fun _=>LK EJ Es r r Y (a.bo 5 r) F (a.d2 5 r).len) (sy 22 b) (hO 24 (os r r (ZN a 5 r F Es r r) ?_)))⟩
 intro aK a
 try dsimp only [List.set] at a
 have b:=(a.ad [2,3,8] [])
 refine ⟨(sy 22 b),(hD (q (g (s (mp r) (s (mp r) (s (xn r) (s (zY r) (s (OP r (a.bk 3 r) r) (s (mi r) (nU (jP a [[V (e3.length:Int)]] ([(e3.length:Int)]:List Int) (Ah r) r r (by decide) ⟨r,y⟩) ?_))))))))))⟩
 rintro _ aL ⟨aM,rfl,a⟩
 obtain ⟨ae,af,j⟩:=bs j
 refine nU (kP a 8 8 r r ug nO r (by decide) (by decide) m r r (a.zP 0 0 r r) af) ?_
 rintro _ aN ⟨a2,a3,an,rfl,a⟩
 refine s (xn r) (s (zY r) (lg (t_n a 4 [Z a2 ae a3] r AZ r r) fun aO a=>n (q (g (s (mi r) (s (xi r) (n (kT ?_))))))))
 obtain ⟨ao,H,j⟩:=bs j
 obtain ⟨ap,ay,_,H⟩:=uY H
 obtain rfl:k3=ap:=by omega
 have ag:=(a.de 2 r).len
 replace a:=a.hd 6 (H':=((h.set k3 ⟨aa,ab,ac⟩).map Rw.hdr)) r (Zc ag)
 try dsimp only [List.set] at a
 replace a:=a.arr [2,3,0,1,4,5,6,7,8,9] r
 try dsimp only [pick,nth,ca,na] at a
 replace a:=a.Yq 6 2 r r
 try dsimp only [List.set] at a
 rw [H] at a
 obtain ⟨aq,ah⟩:∃ R,(h.set k3 ⟨aa,ab,ac⟩)=R:=⟨_,rfl⟩
 rw [ah] at a
 have L:A.a.c.length=ao.length:=by rw [← H,List.length_set]
 try dsimp only [Z] at a
 try rw [L] at a
 try dsimp only [Z]
 try rw [L]
 obtain rfl:=sm j
 exact jI r (lq r) (mM (⟨c,d,aq,a2,a3,an,r,(a.ad [3,4,5,0,6,7] [9,5,6,7,8])⟩))
abbrev uo:=fV→jB→Int→Option (jB × fV)
abbrev sG:=fV→(List jB)→Int→Option ((List jB) × fV)
def zS (m:Gt→Ge→Int→Option (Ge × Gt)):Prop:=∀ {M:World} {S:Nat→Prop} {B:Gt} {N:Ge} {Q:Int} {L:Nat} {t:Option Addr} {u:Nat} {b:Option Addr} {c:Nat} {x:List (List Value)} {C:Nat} {d:Option Addr} {h:Nat} {a:List Rw} {D:Nat} {E:Nat} {i:Option Addr} {j:Nat} {z:List (List Value)} {F:Nat} {k:Option Addr} {o:Nat} {A:List (List Value)} {G:Nat} {H:Option Addr} {I:Nat} {R:Ge × Gt},Pre M S [.box L 115 #[Z t B.a.a.a u,Z b B.a.a.b c,Z d B.a.c h,Z i B.a.b j,V B.f,Z k B.b o,V B.c,V B.e],O C b c 82 Gn x,O D d h 60 (List Gv) (a.map Rw.hdr),.qX E 59 (sz Gv) a none,O F i j 65 Gi z,O G k o 3 Int A] [.l t u B.a.a.a,.els x B.a.a.b,.mU a B.a.c,.els z B.a.b,.els A B.b,.l H I N.a]→C≤M.heap.size→D≤M.heap.size→E≤M.heap.size→F≤M.heap.size→G≤M.heap.size→m B N Q=some R→
 Calls Try.prog 132 #[Pt L,.agg #[V N.e,V N.d,V N.g,T N.b,T N.c,Z H N.a I],V Q] M (qW fun v w=>jy R fun P p=>∃ (J:OA)(K:Nat),v=.agg #[V P.e,V P.d,V P.g,T P.b,T P.c,Z J P.a K]∧Bx M w S (lT [.box L 115 #[Z t B.a.a.a u,Z b B.a.a.b c,Z d B.a.c h,Z i B.a.b j,V B.f,Z k B.b o,V B.c,V B.e],O C b c 82 Gn x,O D d h 60 (List Gv) (a.map Rw.hdr),.qX E 59 (sz Gv) a none,O F i j 65 Gi z,O G k o 3 Int A]) [.box L 115 #[Z t p.a.a.a u,Z b p.a.a.b c,Z d p.a.c h,Z i p.a.b j,V p.f,Z k p.b o,V p.c,V p.e],O C b c 82 Gn x,O D d h 60 (List Gv) (a.map Rw.hdr),.qX E 59 (sz Gv) a none,O F i j 65 Gi z,O G k o 3 Int A] [.l J K P.a,.l t u p.a.a.a,.els x p.a.a.b,.mU a p.a.c,.els z p.a.b,.els A p.b])
def wR (m:Gt→(List Ge)→Int→Option ((List Ge) × Gt)):Prop:=∀ {M:World} {U:Nat→Prop} {B:Gt} {P:(List Ge)} {Q:Int} {N:Nat} {t:Option Addr} {u:Nat} {b:Option Addr} {c:Nat} {x:List (List Value)} {C:Nat} {d:Option Addr} {h:Nat} {a:List Rw} {D:Nat} {E:Nat} {i:Option Addr} {j:Nat} {z:List (List Value)} {F:Nat} {k:Option Addr} {o:Nat} {A:List (List Value)} {G:Nat} {H:Option Addr} {I:Nat} {R:(List Ge) × Gt},Pre M U [.box N 115 #[Z t B.a.a.a u,Z b B.a.a.b c,Z d B.a.c h,Z i B.a.b j,V B.f,Z k B.b o,V B.c,V B.e],O C b c 82 Gn x,O D d h 60 (List Gv) (a.map Rw.hdr),.qX E 59 (sz Gv) a none,O F i j 65 Gi z,O G k o 3 Int A] [.l t u B.a.a.a,.els x B.a.a.b,.mU a B.a.c,.els z B.a.b,.els A B.b,.l H I P]→C≤M.heap.size→D≤M.heap.size→E≤M.heap.size→F≤M.heap.size→G≤M.heap.size→m B P Q=some R→
 Calls Try.prog 117 #[Pt N,Z H P I,V Q] M (qW fun v w=>jy R fun S p=>∃ (J:OA)(K:Nat)(L:LV),v=Z J S K∧Bx M w U (lT [.box N 115 #[Z t B.a.a.a u,Z b B.a.a.b c,Z d B.a.c h,Z i B.a.b j,V B.f,Z k B.b o,V B.c,V B.e],O C b c 82 Gn x,O D d h 60 (List Gv) (a.map Rw.hdr),.qX E 59 (sz Gv) a none,O F i j 65 Gi z,O G k o 3 Int A]) [O M.heap.size J K 138 Ge L,.box N 115 #[Z t p.a.a.a u,Z b p.a.a.b c,Z d p.a.c h,Z i p.a.b j,V p.f,Z k p.b o,V p.c,V p.e],O C b c 82 Gn x,O D d h 60 (List Gv) (a.map Rw.hdr),.qX E 59 (sz Gv) a none,O F i j 65 Gi z,O G k o 3 Int A] [.els L S,.l t u p.a.a.a,.els x p.a.a.b,.mU a p.a.c,.els z p.a.b,.els A p.b])
def rQ (fu:Nat)(r_r04_exprs:sG) (r_r04_expr:uo) (a:Ge):Option (Ld (Bool) (Ge × Gt)):=
 if a.e=1 then
  some (.go (decide (a.e=1)))
 else
  if a.e=2 then
   some (.go (decide (a.e=2)))
  else
   some (.go (decide (a.e=3)))
def nL (fu:Nat)(r_r04_exprs:sG) (r_r04_expr:uo) (d:Ge):List BA→Nat→Int→Option (Ld (Int) (Ge × Gt))
 | [],_,a=>some (.go a)
 | e :: c,b,a=>
 if e=d.c then
  nL fu r_r04_exprs r_r04_expr d c (b+1) (b:Int)
 else
  nL fu r_r04_exprs r_r04_expr d c (b+1) a
def oh (fu:Nat)(r_r04_exprs:sG) (r_r04_expr:uo) (b:Gt) (h:Ge) (p:Int):Option (Ld (Int × Int × List Gr × Int × Int × Int × List Gn × List (List Gv) × List Gi × List Int) (Ge × Gt)):=
 (rQ fu r_r04_exprs r_r04_expr h).bind fun v=>v.el (fun l=>
 if l=true then
  (uJ fu b h.b).bind fun v=>
  jy v fun c i=>
  if (!i)=true then
   (lY fu b p 8).bind fun j=>
   some (.out (h,j))
  else
   (ix b.a.c b.f).bind fun t=>
   (ix t c).bind fun m=>
   if m.c≠(wr ((wr (1+h.e)) - 1)) then
    (lY fu b p 10).bind fun k=>
    some (.out (h,k))
   else
    if h.e=2 then
     (ix b.a.a.a m.d).bind fun u=>
     (nL fu r_r04_exprs r_r04_expr h u.a 0 (-1)).bind fun v=>v.el (fun d=>
     if d < 0 then
      (lY fu b p 8).bind fun a=>
      some (.go (d,c,a.a.a.a,a.f,a.c,a.e,a.a.a.b,a.a.c,a.a.b,a.b))
     else
      some (.go (d,c,b.a.a.a,b.f,b.c,b.e,b.a.a.b,b.a.c,b.a.b,b.b))
     ) (fun o=>some (.out o))
    else
     some (.go (h.d,c,b.a.a.a,b.f,b.c,b.e,b.a.a.b,b.a.c,b.a.b,b.b))
 else
  some (.go (h.d,h.g,b.a.a.a,b.f,b.c,b.e,b.a.a.b,b.a.c,b.a.b,b.b))
 ) (fun o=>some (.out o))
def sK (fu:Nat)(r_r04_exprs:sG) (r_r04_expr:uo) (u:Gt) (d:Ge) (v:Int):Option (Ge × Gt):=
 if u.e≠0 then
  some (d,u)
 else
  (oh fu r_r04_exprs r_r04_expr u d v).bind fun w=>w.el (fun w=>
  jy w fun f w=>jy w fun h w=>jy w fun i w=>jy w fun j w=>jy w fun k w=>jy w fun l w=>jy w fun m w=>jy w fun p w=>jy w fun t a=>
  (r_r04_exprs (⟨(⟨(⟨i,m⟩:jR),p,t⟩:jO),j,a,k,l⟩:Gt) d.a v).bind fun w=>
  jy w fun b c=>
  some ((⟨d.e,f,h,d.b,d.c,b⟩:Ge),c)
  ) (fun o=>some o)
def nK (fu:Nat)(r_r04_exprs:sG) (r_r04_expr:uo) (p:Int):List Ge→Nat→(List Ge)→(List Gr)→Int→Int→Int→(List Gn)→(List (List Gv))→(List Gi)→(List Int)→Option (Ld (List Ge × List Gr × Int × Int × Int × List Gn × List (List Gv) × List Gi × List Int) ((List Ge) × Gt))
 | [],_,b,c,d,h,i,j,k,l,m=>some (.go (b,c,d,h,i,j,k,l,m))
 | t :: u,v,b,c,d,h,i,j,k,l,m=>
 (r_r04_expr (⟨(⟨(⟨c,j⟩:jR),k,l⟩:jO),d,m,h,i⟩:Gt) t p).bind fun x=>
 jy x fun o a=>
 (app b ([o]:List Ge)).bind fun w=>
 nK fu r_r04_exprs r_r04_expr p u (v+1) w a.a.a.a a.f a.c a.e a.a.a.b a.a.c a.a.b a.b
def qZ (fu:Nat)(r_r04_exprs:sG) (r_r04_expr:uo) (a:Gt) (p:(List Ge)) (t:Int):Option ((List Ge) × Gt):=
 (nK fu r_r04_exprs r_r04_expr t p 0 ([]:List Ge) a.a.a.a a.f a.c a.e a.a.a.b a.a.c a.a.b a.b).bind fun u=>u.el (fun u=>
 jy u fun b u=>jy u fun c u=>jy u fun d u=>jy u fun h u=>jy u fun i u=>jy u fun j u=>jy u fun k u=>jy u fun l m=>
 some (b,(⟨(⟨(⟨c,j⟩:jR),k,l⟩:jO),d,m,h,i⟩:Gt))
 ) (fun o=>some o)
def uM:Nat→(Gt→Ge→Int→Option (Ge × Gt)) × (Gt→(List Ge)→Int→Option ((List Ge) × Gt))
 | 0=>((fun _ _ _=>none),(fun _ _ _=>none))
 | fu+1=>(sK fu ((uM fu).2) ((uM fu).1),qZ fu ((uM fu).2) ((uM fu).1))
def xJ (fu:Nat):=(uM fu).1
def rE (fu:Nat):=(uM fu).2
theorem KD (fu:Nat)(r_r04_exprs:sG) (r_r04_expr:uo) (H_r04_exprs:wR r_r04_exprs) (H_r04_expr:zS r_r04_expr):zS (sK fu r_r04_exprs r_r04_expr):=by
 intro w0 bZ o b x2 ae I J z A K a5 B C p a6 a7 D E L a8 F H M a9 c j R hP Y a0 a1 a2 a3 Q
 unfold sK at Q
 have a:=hP.bx
 clear hP
 generalize hG:lT _=G at a ⊢
 refine cf Try.func132 r (lK [(0,Pt ae),(1,.agg #[V b.e,V b.d,V b.g,T b.b,T b.c,Z c b.a j]),(2,V x2)] ⟨r,r,r,y⟩ fun c0=>q (g (tu a (y5 r) fun w1 b1 a=>tu a (jV jU) fun w2 b2 a=>n (q (q (g (s (mp r) (s (xn r) (s (yY r) (s (BM r (a.bk 2 r) r) (s (rY r r) (n ?_))))))))))))
 rcases iv Q with ⟨h3,Q⟩|⟨h3,Q⟩
 ·refine jN (bt h3) (q (g (s (ng [V b.e,V b.d,V b.g,T b.b,T b.c,Z c b.a j] mV jU r (a.bk 1 r)) (lg (nX a 0 [V b.e,V b.d,V b.g,T b.b,T b.c,Z c b.a j] r jU r r) fun w4 a=>n (kT ?_)))))
  obtain rfl:=sm Q
  exact jI r (tV r mV r jU r (a.bk 0 r)) (mM (⟨c,j,r,(a.ad [2,3,4,5,6,7] [5,0,1,2,3,4])⟩))
 refine jK (bf h3) (wk (q (q (g (s (Ac r) (s (l3 r (a.bk 1 r) r) (n ?_)))))))
 obtain ⟨Y5,m,Q⟩:=bs Q
 refine oq (fun f w=>∃ (aa:Int)(ab:Int)(aj:List Gr) (ap:Int)(aq:Int)(ar:Int)(ak:List Gn) (al:List (List Gv)) (am:List Gi) (ag:List Int),Has f [(0,Pt ae),(2,V x2),(4,Pt b1),(6,Pt b2)]∧Bx w0 w bZ G [.box b2 138 #[V 0,V 0,V 0,T be,T be,sn],.box b1 138 #[V b.e,V aa,V ab,T b.b,T b.c,Z c b.a j],.box ae 115 #[Z I aj J,Z z ak A,Z B al C,Z D am E,V ap,Z F ag H,V aq,V ar],O a5 z A 82 Gn K,O a6 B C 60 (List Gv) (p.map Rw.hdr),.qX a7 59 (sz Gv) p none,O a8 D E 65 Gi L,O a9 F H 3 Int M] [.l I J aj,.els K ak,.mU p al,.els L am,.els M ag,.l c j b.a]∧Ld.go (aa,ab,aj,ap,aq,ar,ak,al,am,ag)=Y5) (fun J5 az=>?_) ?_
 ·unfold oh at m
  refine oM (q ?_)
  obtain ⟨Y6,af,m⟩:=bs m
  refine oq (fun f w=>∃ (au:Bool),Has f [(0,Pt ae),(2,V x2),(4,Pt b1),(6,Pt b2),(20,.bool au)]∧Bx w0 w bZ G [.box b2 138 #[V 0,V 0,V 0,T be,T be,sn],.box b1 138 #[V b.e,V b.d,V b.g,T b.b,T b.c,Z c b.a j],.box ae 115 #[Z I o.a.a.a J,Z z o.a.a.b A,Z B o.a.c C,Z D o.a.b E,V o.f,Z F o.b H,V o.c,V o.e],O a5 z A 82 Gn K,O a6 B C 60 (List Gv) (p.map Rw.hdr),.qX a7 59 (sz Gv) p none,O a8 D E 65 Gi L,O a9 F H 3 Int M] [.l I J o.a.a.a,.els K o.a.a.b,.mU p o.a.c,.els L o.a.b,.els M o.b,.l c j b.a]∧Ld.go au=Y6) (fun J6 aF=>?_) ?_
  ·unfold rQ at af
   refine q (g (s (kD r r) (s (kC r) (n ?_))))
   rcases iv af with ⟨h7,af⟩|⟨h7,af⟩
   ·exact jN (bt h7) (wk (aF _ _ ⟨(decide (b.e=1)),⟨r,r,r,r,r,y⟩,a,sm af⟩))
   refine jK (bf h7) (q (g (s (kD r r) (s (kC r) (n ?_)))))
   rcases iv af with ⟨h8,af⟩|⟨h8,af⟩
   ·exact jN (bt h8) (wk (aF _ _ ⟨(decide (b.e=2)),⟨r,r,r,r,r,y⟩,a,sm af⟩))
   exact jK (bf h8) (g (s (kD r r) (s (kC r) (n (aF _ _ ⟨(decide (b.e=3)),⟨r,r,r,r,r,y⟩,a,sm af⟩)))))
  clear a
  rintro f w ⟨au,hf,a,b3⟩
  obtain ⟨c0,rfl⟩:=iA _ _ hf
  clear hf
  subst b3
  replace m:=gi m
  rcases iv m with ⟨h9,m⟩|⟨h9,m⟩
  ·refine jN (cb h9) (q (g (s (mp r) (s (Iu r) (s (l9 r (a.bk 1 r) r) ?_)))))
   obtain ⟨N,b4,b5,m⟩:=lZ m
   have hc:=(BP fu) (a.pr [2,3,4,5,6,7] [0,1] [0,1,2,3,4] r) (a.le Y) (a.le a0) (a.le a1) (a.le a2) (a.le a3) b5
   refine sc (ec TF r) hc ?_
   rintro _ br ⟨rfl,hK⟩
   replace a:=a.cn [2,3,4,5,6,7] [0,1] hK
   refine s sZ (s (jZ r r) (s (jZ r r) (s (xi r) (s (kC r) (n (q (q (g (s (kL r) (s (Al r) (n ?_)))))))))))
   rcases iv m with ⟨av,m⟩|⟨av,m⟩
   ·refine jN (cb av) (q (g (s (mp r) (s (mi r) ?_))))
    obtain ⟨b6,b7,m⟩:=bs m
    have hc:=(mZ fu) (a.pr [0,1,2,3,4,5] [6,7] [5,1,2,3,4] r) (a.le Y) (a.le a0) (a.le a1) (a.le a2) (a.le a3) b7
    refine sc (ec yZ r) hc ?_
    rintro _ bu ⟨rfl,hK⟩
    replace a:=a.cn [0,1,2,3,4,5] [6,7] hK
    refine n (q (g (s (ng [V b.e,V b.d,V b.g,T b.b,T b.c,Z c b.a j] mV jU r (a.bk 7 r)) (lg (nX a 6 [V b.e,V b.d,V b.g,T b.b,T b.c,Z c b.a j] r jU r r) fun bv a=>n (kT ?_)))))
    obtain rfl:=sm m
    replace Q:=oi Q
    obtain rfl:=sm Q
    exact jI r (tV r mV r jU r (a.bk 6 r)) (mM (⟨c,j,r,(a.ad [0,1,2,3,4,5] [15,0,1,2,3,4])⟩))
   replace av:=nt av
   refine jK (cb av) (wk (q ?_))
   obtain ⟨bw,aw,m⟩:=bs m
   obtain ⟨bz,aP,aw⟩:=kJ aw
   replace a:=a.arr [3,0,1,2,4,5,6,7] r
   try dsimp only [pick,nth,ca,na] at a
   obtain ⟨bA,bB,bC,ax,aQ,a⟩:=a.Ub 2 rfl aw
   refine pX a [0,1,2,4] [0,3] [] (by kernel_rfl) ?_
   replace a:=a.drew
   have W:=(a.ad [0,1,2,4] [0,3])
   refine pF 0 r (mp r) W (pF 1 r (xn r) W (pF 2 r (pW r) W (pF 3 r (AX r) W (uF 4 r (fun hS=>PD r (hS.bk 2 r) r) W (pF 5 r (mp r) W (pF 6 r (xn r) W (pF 7 r (Ab r) W (uF 8 r (fun hS=>l3 r (hS.bk 2 r) r) W (pF 9 r (LK EJ Es r r aP (a.bo 4 r) ax (a.d2 3 r).len) W (uF 10 r (fun hS=>jT Bj r r (hS.hc 3 r ax aQ 0 _ r)) W (pF 11 r (mi r) W ?_)))))))))))
   obtain ⟨t,an,m⟩:=bs m
   obtain ⟨bD,aR,an⟩:=kJ an
   refine pF 12 r (kW Bj z8 r r aR (a.vw 0 0 r r) an) W (uF 13 r (fun hS=>XQ [T t.b,V t.c,V t.d,V t.a,.bool t.f,V t.e,V t.g] RB z8 r (hS.vw 0 0 r r) an) W (hO 14 (oo r r (nM a (jV z8)) ?_)))
   rintro _ bE ⟨bF,rfl,a⟩
   have W:=(a.ad [1,2,3,5] [0,3])
   refine ⟨(sF W),(hO 15 (os r r (nX a 0 [T t.b,V t.c,V t.d,V t.a,.bool t.f,V t.e,V t.g] r z8 r r) fun bG a=>?_))⟩
   have W:=(a.ad [1,2,3,5] [0,3])
   refine ⟨(sF W),(hD (q (q (g (s (Qw r) (s (l3 r (a.bk 0 r) r) (s (Ac r) (s (l3 r (a.bk 9 r) r) (s (kE r r) (s (vW r r) (s (rY r r) (n ?_))))))))))))⟩
   replace a:=a.arr [1,2,0,3,4,5,6,7,8,9] r
   try dsimp only [pick,nth,ca,na] at a
   replace a:=a.Vx 3 0 r r ax
   rcases iv m with ⟨aG,m⟩|⟨aG,m⟩
   ·refine jN (bt aG) (q (g (s (mp r) (s (mi r) ?_))))
    obtain ⟨b8,b9,m⟩:=bs m
    have hc:=(mZ fu) (a.pr [2,3,4,0,5,6] [1,7,8] [6,2,3,4,5] r) (a.le Y) (a.le a0) (a.le a1) (a.le a2) (a.le a3) b9
    refine sc (ec yZ r) hc ?_
    rintro _ bH ⟨rfl,hK⟩
    replace a:=a.cn [2,3,4,0,5,6] [1,7,8] hK
    refine n (q (g (s (ng [V b.e,V b.d,V b.g,T b.b,T b.c,Z c b.a j] mV jU r (a.bk 8 r)) (lg (nX a 7 [V b.e,V b.d,V b.g,T b.b,T b.c,Z c b.a j] r jU r r) fun bI a=>n (kT ?_)))))
    obtain rfl:=sm m
    replace Q:=oi Q
    obtain rfl:=sm Q
    exact jI r (tV r mV r jU r (a.bk 7 r)) (mM (⟨c,j,r,(a.ad [0,1,2,3,4,5] [16,0,1,2,3,4])⟩))
   refine jK (bf aG) (wk (q (g (s (mi r) (s (VY r) (lg (t_n a 8 [V N] r nO r r) fun bJ a=>n (q (g (s (Ac r) (s (l3 r (a.bk 8 r) r) (s (kD r r) (n ?_))))))))))))
   rcases iv m with ⟨aH,m⟩|⟨aH,m⟩
   ·refine jN (bt aH) (q (g (s (IB r) (lg (t_n a 8 [V (-1)] r nO r r) fun bK a=>n (q (q ?_))))))
    obtain ⟨a4,ao,m⟩:=bs m
    obtain ⟨bL,aS,ao⟩:=kJ ao
    obtain ⟨bl,aT,a⟩:=a.nm 6 rfl ao
    obtain ⟨ah,ai,rfl,aI⟩:=kV.out aT
    replace a:=a.ku (d:=.l ah ai a4.a) aI
    refine pX a [1,2] [0,1,8] [] (by kernel_rfl) ?_
    replace a:=a.drew
    have W:=(a.ad [1,2] [0,1,8])
    refine pF 0 r (mp r) W (pF 1 r (xn r) W (pF 2 r (pW r) W (pF 3 r (FN r) W (pF 4 r (CX r) W (uF 5 r (fun hS=>Tj r (hS.bk 1 r) r) W (pF 6 r (SK r) W (uF 7 r (fun hS=>l3 r (hS.bk 0 r) r) W (pF 8 r (kW G8 wT r r aS (a.dl 8 r) ao) W (pF 9 r (Bp r) W (uF 10 r (fun hS=>jT kQ r r ((hS.dc 1 r) 1 _ r)) W (pF 11 r (lX kQ r) W (pF 12 r (mi r) W (hD ?_)))))))))))))
    have bm:=(a.dl 0 r).bd
    obtain ⟨aU,S,m⟩:=bs m
    refine oq (fun f w=>∃ (x:Int),Has f [(0,Pt ae),(2,V x2),(4,Pt b1),(6,Pt b2)]∧Bx w0 w bZ G [.qX a7 59 (sz Gv) p none,.box ae 115 #[Z I o.a.a.a J,Z z o.a.a.b A,Z B o.a.c C,Z D o.a.b E,V o.f,Z F o.b H,V o.c,V o.e],O a5 z A 82 Gn K,O a6 B C 60 (List Gv) (p.map Rw.hdr),O a8 D E 65 Gi L,O a9 F H 3 Int M,.box b2 138 #[V 0,V 0,V 0,T be,T be,sn],.box b1 138 #[V b.e,V x,V N,T b.b,T b.c,Z c b.a j]] [.l ah ai a4.a,.els K o.a.a.b,.mU p o.a.c,.els L o.a.b,.els M o.b,.l I J o.a.a.a,.l c j b.a]∧Ld.go x=aU) (fun bM aV=>?_) ?_
    ·refine oM (kM (fun c1 f w=>∃ (X:Nat)(x:Int),c1=a4.a.length - X∧X≤a4.a.length∧Has f [(80,V (X:Int)),(0,Pt ae),(2,V x2),(4,Pt b1),(6,Pt b2),(78,Z ah a4.a ai),(79,V (a4.a.length:Int))]∧Bx w0 w bZ G [.qX a7 59 (sz Gv) p none,.box ae 115 #[Z I o.a.a.a J,Z z o.a.a.b A,Z B o.a.c C,Z D o.a.b E,V o.f,Z F o.b H,V o.c,V o.e],O a5 z A 82 Gn K,O a6 B C 60 (List Gv) (p.map Rw.hdr),O a8 D E 65 Gi L,O a9 F H 3 Int M,.box b2 138 #[V 0,V 0,V 0,T be,T be,sn],.box b1 138 #[V b.e,V x,V N,T b.b,T b.c,Z c b.a j]] [.l ah ai a4.a,.els K o.a.a.b,.mU p o.a.c,.els L o.a.b,.els M o.b,.l I J o.a.a.a,.l c j b.a]∧nL fu r_r04_exprs r_r04_expr b (a4.a.drop X) X x=some aU) (a4.a.length) ⟨0,(-1),r,Nat.zero_le _,⟨r,r,r,r,r,r,r,y⟩,(a.ad [0,2,3,4,5,6,7,8] [0,4,5,6,7,8,13]),S⟩ ?_)
     clear a S
     rintro c1 f w ⟨X,x,rfl,bn,hf,a,S⟩ bN aD
     obtain ⟨c0,rfl⟩:=iA _ _ hf
     clear hf
     rcases Nat.lt_or_ge X a4.a.length with aE | aE
     ·obtain ⟨ba,ay⟩:=mh (l:=a4.a) aE
      rw [mP ay,nL] at S
      refine q (g (s (sS r r (by omega)) (n (q (jN r (wk (q (oM (q (g (s (mi r) (s (kW kQ oQ r r r (a.dl 0 r) ay) (s (jT uq r r ((uy (ds:=[T ba]) (a.dl 0 r) ay (fun _ h=>h)) 0 _ r)) (s (xi r) (s (mF r) (n (q (g (s (kY r) (s (Qb r) (s (l9 r (a.bk 7 r) r) (s (rR r r) (n ?_)))))))))))))))))))))))
      rcases iv S with ⟨aJ,S⟩|⟨aJ,S⟩
      ·exact jN (bt aJ) (g (s (mi r) (s (IB r) (lg (t_n a 7 [V (X:Int)] r nO r r) fun bO a=>n (g (s (mR r r (by omega) (by omega)) (s (mi r) (n (aD (a4.a.length - (X+1)) _ _ (by omega) ⟨X+1,(X:Int),r,by omega,⟨r,r,r,r,r,r,r,y⟩,a,S⟩)))))))))
      exact jK (bf aJ) (wk (g (s (mR r r (by omega) (by omega)) (s (mi r) (n (aD (a4.a.length - (X+1)) _ _ (by omega) ⟨X+1,x,r,by omega,⟨r,r,r,r,r,r,r,y⟩,a,S⟩))))))
     obtain rfl:X=a4.a.length:=by omega
     rw [lV,nL] at S
     exact q (g (s (sU r r (by omega)) (n (q (jK r (tT (aV _ _ ⟨x,⟨r,r,r,r,y⟩,a,sm S⟩)))))))
    clear a
    rintro f w ⟨x,hf,a,aW⟩
    obtain ⟨c0,rfl⟩:=iA _ _ hf
    clear hf
    subst aW
    replace m:=gi m
    refine q (g (s (IB r) (s (l3 r (a.bk 7 r) r) (s (qo r r) (n ?_)))))
    rcases iv m with ⟨aK,m⟩|⟨aK,m⟩
    ·refine jN (bt aK) (g (s (mp r) (s (mi r) ?_)))
     obtain ⟨U,bb,m⟩:=bs m
     have hc:=(mZ fu) (a.pr [1,2,3,0,4,5] [6,7] [5,1,2,3,4] r) (a.le Y) (a.le a0) (a.le a1) (a.le a2) (a.le a3) bb
     refine sc (ec yZ r) hc ?_
     rintro _ bP ⟨rfl,hK⟩
     replace a:=a.cn [1,2,3,0,4,5] [6,7] hK
     exact n (az _ _ ⟨x,N,U.a.a.a,U.f,U.c,U.e,U.a.a.b,U.a.c,U.a.b,U.b,⟨r,r,r,r,y⟩,(a.ad [6,7,0,1,2,3,4,5] [0,1,2,3,4,11]),sm m⟩)
    exact jK (bf aK) (wk (az _ _ ⟨x,N,o.a.a.a,o.f,o.c,o.e,o.a.a.b,o.a.c,o.a.b,o.b,⟨r,r,r,r,y⟩,(a.ad [6,7,1,2,3,0,4,5] [5,1,2,3,4,6]),sm m⟩))
   exact jK (bf aH) (wk (az _ _ ⟨b.d,N,o.a.a.a,o.f,o.c,o.e,o.a.a.b,o.a.c,o.a.b,o.b,⟨r,r,r,r,y⟩,(a.ad [7,8,2,3,4,0,5,6] [6,2,3,4,5,11]),sm m⟩))
  replace h9:=nt h9
  exact jK (cb h9) (wk (az _ _ ⟨b.d,b.g,o.a.a.a,o.f,o.c,o.e,o.a.a.b,o.a.c,o.a.b,o.b,⟨r,r,r,r,y⟩,a,sm m⟩))
 clear a
 rintro f w ⟨aa,ab,aj,ap,aq,ar,ak,al,am,ag,hf,a,bc⟩
 obtain ⟨c0,rfl⟩:=iA _ _ hf
 clear hf
 subst bc
 replace Q:=gi Q
 replace Q:=mG (mG (mG Q))
 refine q (g (s (mp r) (s (Ar r) (s (AY r (a.bk 1 r) r) (s (mi r) ?_)))))
 obtain ⟨ac,bg,bh,Q⟩:=lZ Q
 have hc:=H_r04_exprs (a.pr [2,3,4,5,6,7] [0,1] [0,1,2,3,4,5] r) (a.le Y) (a.le a0) (a.le a1) (a.le a2) (a.le a3) bh
 refine sc (ec MW r) hc ?_
 rintro _ bQ ⟨u,v,aL,rfl,hK⟩
 have bi:=a.rD.size
 replace a:=a.cn [2,3,4,5,6,7] [0,1] hK
 replace a:=a.rb 0 w0.heap.size r bi
 refine s (Ar r) (lg (t_n a 8 [Z u ac v] r uw r r) fun bR a=>n (q (g (s (ng [V b.e,V aa,V ab,T b.b,T b.c,Z u ac v] mV jU r (a.bk 8 r)) (lg (nX a 7 [V b.e,V aa,V ab,T b.b,T b.c,Z u ac v] r jU r r) fun bS a=>n (kT ?_))))))
 replace a:=a.fz 0 0 r r
 obtain rfl:=sm Q
 exact jI r (tV r mV r jU r (a.bk 6 r)) (mM (⟨u,v,r,(a.ad [0,1,2,3,4,5] [0,1,2,3,4,5])⟩))
theorem Ja (fu:Nat)(r_r04_exprs:sG) (r_r04_expr:uo) (H_r04_exprs:wR r_r04_exprs) (H_r04_expr:zS r_r04_expr):wR (qZ fu r_r04_exprs r_r04_expr):=by
 intro w0 aQ x0 x1 x2 ab L M u v N a5 x z i a6 a7 A B Q a8 C D S a9 X Y R hP ae af ag ah ai W
 unfold qZ at W
 have a:=hP.bx
 clear hP
 generalize hG:lT _=G at a ⊢
 refine cf Try.func117 r (lK [(0,Pt ab),(1,Z X x1 Y),(2,V x2)] ⟨r,r,r,y⟩ fun aR=>q (g (s (nk r) (n (q (g (s (nk r) (n (q (q (g (s (nC r) (s (lX tY r) (s (mi r) (n ?_)))))))))))))))
 replace a:=a.Ca Ge 138
 have ax:=(a.dl 6 r).bd
 obtain ⟨Y1,E,W⟩:=bs W
 refine oq (fun f w=>∃ (j:List Ge) (b:OA)(c:Nat)(h:LV)(k:List Gr) (F:Int)(H:Int)(I:Int)(m:List Gn) (o:List (List Gv)) (p:List Gi) (t:List Int),Has f [(7,Z b j c)]∧Bx w0 w aQ G [O w0.heap.size b c 138 Ge h,.box ab 115 #[Z L k M,Z u m v,Z x o z,Z A p B,V F,Z C t D,V H,V I],O a5 u v 82 Gn N,O a6 x z 60 (List Gv) (i.map Rw.hdr),.qX a7 59 (sz Gv) i none,O a8 A B 65 Gi Q,O a9 C D 3 Int S] [.l L M k,.els h j,.els N m,.mU i o,.els Q p,.els S t,.l X Y x1]∧Ld.go (j,k,F,H,I,m,o,p,t)=Y1) (fun J1 ao=>?_) ?_
 ·refine oM (kM (fun aS f w=>∃ (k1:Nat)(j:List Ge) (b:OA)(c:Nat)(h:LV)(k:List Gr) (F:Int)(H:Int)(I:Int)(m:List Gn) (o:List (List Gv)) (p:List Gi) (t:List Int),aS=x1.length - k1∧k1≤x1.length∧Has f [(12,V (k1:Int)),(0,Pt ab),(2,V x2),(7,Z b j c),(10,Z X x1 Y),(11,V (x1.length:Int))]∧Bx w0 w aQ G [O w0.heap.size b c 138 Ge h,.box ab 115 #[Z L k M,Z u m v,Z x o z,Z A p B,V F,Z C t D,V H,V I],O a5 u v 82 Gn N,O a6 x z 60 (List Gv) (i.map Rw.hdr),.qX a7 59 (sz Gv) i none,O a8 A B 65 Gi Q,O a9 C D 3 Int S] [.l L M k,.els h j,.els N m,.mU i o,.els Q p,.els S t,.l X Y x1]∧nK fu r_r04_exprs r_r04_expr x2 (x1.drop k1) k1 j k F H I m o p t=some Y1) (x1.length) ⟨0,([]:List Ge),none,0,[],x0.a.a.a,x0.f,x0.c,x0.e,x0.a.a.b,x0.a.c,x0.a.b,x0.b,r,Nat.zero_le _,⟨r,r,r,r,r,r,y⟩,(a.dp [1,0,2,3,4,5,6]),E⟩ ?_)
  clear a E
  rintro aS f w ⟨k1,j,b,c,h,k,F,H,I,m,o,p,t,rfl,ay,hf,a,E⟩ K1 ap
  obtain ⟨aR,rfl⟩:=iA _ _ hf
  clear hf
  rcases Nat.lt_or_ge k1 x1.length with ak | ak
  ·obtain ⟨K,aj⟩:=mh (l:=x1) ak
   rw [mP aj,nK] at E
   obtain ⟨az,aq,a⟩:=a.nm 6 rfl aj
   obtain ⟨a0,a1,rfl,al⟩:=jB.out aq
   replace a:=a.ku (d:=.l a0 a1 K.a) al
   refine q (g (s (sS r r (by omega)) (n (q (jN r (wk (q (oM (q (g (s (kW tY jU r r r (a.dl 8 r) aj) (s (nN [V K.e,V K.d,V K.g,T K.b,T K.c,Z a0 K.a a1] mV r jU r r (a.dc 1 r)) (tu a (jV jU) fun w4 b4 a=>lg (nX a 0 [V K.e,V K.d,V K.g,T K.b,T K.c,Z a0 K.a a1] r jU r r) fun w5 a=>n (g (s (nC r) (s (mp r) (s (ng [V K.e,V K.d,V K.g,T K.b,T K.c,Z a0 K.a a1] mV jU r (a.bk 0 r)) (s (mi r) ?_))))))))))))))))))
   obtain ⟨U,J,h6,E⟩:=lZ E
   have hc:=H_r04_expr (a.pr [2,3,4,5,6,7] [0,1] [2,4,5,6,7,0] r) (a.le ae) (a.le af) (a.le ag) (a.le ah) (a.le ai) h6
   refine sc (ec VA r) hc ?_
   rintro _ w6 ⟨a2,a3,rfl,hK⟩
   replace a:=a.cn [2,3,4,5,6,7] [0,1] hK
   refine nU (jP a [[V U.e,V U.d,V U.g,T U.b,T U.c,Z a2 U.a a3]] ([U]:List Ge) (kS r) r r (by decide) ⟨(jB.inn ⟨a2,a3,r,(a.dl 0 r)⟩),y⟩) ?_
   rintro _ w7 ⟨b7,rfl,a⟩
   obtain ⟨r8,ar,E⟩:=bs E
   refine nU (kP a 8 10 r r tY jU r (by decide) (by decide) (Nat.le_refl _) r r (a.zP 0 0 r r) ar) ?_
   rintro _ w8 ⟨A8,C8,Q8,rfl,a⟩
   exact s (nk r) (n (g (s (mR r r (by omega) (by omega)) (s (mi r) (n (ap (x1.length - (k1+1)) _ _ (by omega) ⟨k1+1,r8,A8,C8,Q8,J.a.a.a,J.f,J.c,J.e,J.a.a.b,J.a.c,J.a.b,J.b,r,by omega,⟨r,r,r,r,r,r,y⟩,(a.ad [8,1,2,3,4,5,6] [2,10,3,4,5,6,15]),E⟩))))))
  obtain rfl:k1=x1.length:=by omega
  rw [lV,nK] at E
  exact q (g (s (sU r r (by omega)) (n (q (jK r (tT (ao _ _ ⟨j,b,c,h,k,F,H,I,m,o,p,t,⟨r,y⟩,a,sm E⟩)))))))
 clear a
 rintro f w ⟨j,b,c,h,k,F,H,I,m,o,p,t,hf,a,au⟩
 obtain ⟨aR,rfl⟩:=iA _ _ hf
 clear hf
 subst au
 replace W:=gi W
 replace W:=Bh (mG (mG W))
 refine q (g (s (nC r) (s (nk r) (n (kT ?_)))))
 obtain rfl:=sm W
 exact jI r (lq r) (mM (⟨b,c,h,r,(a.dp [1,0,2,3,4,5])⟩))
theorem Jj (fu:Nat):zS (xJ fu)∧wR (rE fu):=by
 induction fu with
 | zero=>exact ⟨by intro a b;intros;exact nn (by assumption),by intro a b;intros;exact nn (by assumption)⟩
 | succ fu ih=>exact ⟨KD fu (rE fu) (xJ fu) ih.2 ih.1,Ja fu (rE fu) (xJ fu) ih.2 ih.1⟩
theorem Dq (fu:Nat):wR (rE fu):=(Jj fu).2
def GQ (m:Gt→Gs→Option (Gt × Gs)):Prop:=∀ {X:World} {Y:Nat→Prop} {L:Gt} {c:Gs} {U:Nat} {x:Option Addr} {z:Nat} {d:Option Addr} {h:Nat} {A:List (List Value)} {M:Nat} {i:Option Addr} {j:Nat} {a:List Rw} {N:Nat} {P:Nat} {k:Option Addr} {o:Nat} {B:List (List Value)} {Q:Nat} {p:Option Addr} {t:Nat} {C:List (List Value)} {S:Nat} {W:Nat} {D:Option Addr} {E:Nat} {F:Option Addr} {G:Nat} {H:Option Addr} {I:Nat} {J:Option Addr} {K:Nat} {R:Gt × Gs},Pre X Y [.box U 115 #[Z x L.a.a.a z,Z d L.a.a.b h,Z i L.a.c j,Z k L.a.b o,V L.f,Z p L.b t,V L.c,V L.e],O M d h 82 Gn A,O N i j 60 (List Gv) (a.map Rw.hdr),.qX P 59 (sz Gv) a none,O Q k o 65 Gi B,O S p t 3 Int C,.box W 111 #[V c.c,V c.f,V c.n,T c.b,T c.k,V c.m,V c.g,Z D c.d E,T c.j,V c.i,Z F c.a G,Z H c.e I,Z J c.h K]] [.l x z L.a.a.a,.els A L.a.a.b,.mU a L.a.c,.els B L.a.b,.els C L.b,.l D E c.d,.l F G c.a,.l H I c.e,.l J K c.h]→M≤X.heap.size→N≤X.heap.size→P≤X.heap.size→Q≤X.heap.size→S≤X.heap.size→m L c=some R→
 Calls Try.prog 118 #[Pt U,Pt W] X (qW fun v w=>jy R fun u b=>v=.tuple #[]∧Bx X w Y (lT [.box U 115 #[Z x L.a.a.a z,Z d L.a.a.b h,Z i L.a.c j,Z k L.a.b o,V L.f,Z p L.b t,V L.c,V L.e],O M d h 82 Gn A,O N i j 60 (List Gv) (a.map Rw.hdr),.qX P 59 (sz Gv) a none,O Q k o 65 Gi B,O S p t 3 Int C,.box W 111 #[V c.c,V c.f,V c.n,T c.b,T c.k,V c.m,V c.g,Z D c.d E,T c.j,V c.i,Z F c.a G,Z H c.e I,Z J c.h K]]) [.box U 115 #[Z x u.a.a.a z,Z d u.a.a.b h,Z i u.a.c j,Z k u.a.b o,V u.f,Z p u.b t,V u.c,V u.e],O M d h 82 Gn A,O N i j 60 (List Gv) (a.map Rw.hdr),.qX P 59 (sz Gv) a none,O Q k o 65 Gi B,O S p t 3 Int C,.box W 111 #[V b.c,V b.f,V b.n,T b.b,T b.k,V b.m,V b.g,Z D b.d E,T b.j,V b.i,Z F b.a G,Z H b.e I,Z J b.h K]] [.l x z u.a.a.a,.els A u.a.a.b,.mU a u.a.c,.els B u.a.b,.els C u.b,.l D E b.d,.l F G b.a,.l H I b.e,.l J K b.h])
def qm (fu:Nat)(c:Gt) (a:Gs):Option (Gt × Gs):=
 if c.e≠0 then
  some (c,a)
 else
  (zC fu c.a a.j).bind fun j=>
  jy j fun b d=>
  if (!d)=true then
   (lY fu c a.f 8).bind fun f=>
   some (f,(⟨a.c,a.f,a.n,a.b,a.k,a.m,a.g,a.d,a.j,b,a.a,a.e,a.h⟩:Gs))
  else
   (ix c.a.a.b b).bind fun i=>
   if (a.a.length:Int)≠(i.a.length:Int) then
    (lY fu c a.f 11).bind fun h=>
    some (h,(⟨a.c,a.f,a.n,a.b,a.k,a.m,a.g,a.d,a.j,b,a.a,a.e,a.h⟩:Gs))
   else
    some (c,(⟨a.c,a.f,a.n,a.b,a.k,a.m,a.g,a.d,a.j,b,a.a,a.e,a.h⟩:Gs))
theorem Hw (fu:Nat):GQ (qm fu):=by
 intro w0 aH F b a6 H I m o X Y p t Q a0 a1 u v a2 a3 S U a4 a5 a7 w x z A B C D E R hP J K L M N h
 unfold qm at h
 have a:=hP.bx
 clear hP
 generalize hG:lT _=G at a ⊢
 refine cf Try.func118 r (lK [(0,Pt a6),(1,Pt a7)] ⟨r,r,y⟩ fun aI=>q (q (g (s (mp r) (s (xn r) (s (yY r) (s (BM r (a.bk 0 r) r) (s (rY r r) (n ?_)))))))))
 rcases iv h with ⟨h1,h⟩|⟨h1,h⟩
 ·refine jN (bt h1) (kT ?_)
  obtain rfl:=sm h
  exact ze (P:=Try.prog) (fn:=Try.f118) r (mM (⟨r,a⟩))
 refine jK (bf h1) (wk (q (pX a [0,6] [] [] (by kernel_rfl) ?_)))
 replace a:=a.drew
 have c:=(a.ad [0,6] [])
 refine pF 0 r (mp r) c (pF 1 r (xn r) c (pF 2 r (pW r) c (uF 3 r (fun hS=>ng [Z H F.a.a.a I,Z m F.a.a.b o,Z p F.a.c t,Z u F.a.b v] Ep xD r (hS.bk 0 r)) c (pF 4 r (mp r) c (pF 5 r (xn r) c (pF 6 r (Cv r) c (uF 7 r (fun hS=>l9 r (hS.bk 1 r) r) c ?_)))))))
 obtain ⟨j,an,h2,h⟩:=lZ h
 have hc:=(Ky fu) (Pre.all (Dc:=[.l H I F.a.a.a,.l m o F.a.a.b,.l p t F.a.c,.l u v F.a.b]) (Nn ((a.dl 0 r)).all (Nn ((a.vw 1 1 r r)).all (Nn ((a.vw2 2 3 2 r r r)).all (Nn ((a.vw 4 3 r r)).all ZF))))) h2
 refine hO 8 (oc r r (ec Yt r) hc ?_)
 rintro _ w2 ⟨rfl,hK⟩
 replace a:=a.ext hK.ex
 have c:=(a.ad [0,6] [])
 refine ⟨(sF c),(pF 9 r (sZ) c (pF 10 r (jZ r r) c (pF 11 r (jZ r r) c (pF 12 r (xi r) c (pF 13 r (kC r) c (hD (q (oM (q (g (s (kL r) (s (Al r) (s (kC r) (n ?_))))))))))))))⟩
 rcases iv h with ⟨h3,h⟩|⟨h3,h⟩
 ·refine jN (cb h3) (g (s (mp r) (s (mp r) (s (xn r) (s (Aa r) (s (l3 r (a.bk 6 r) r) ?_))))))
  obtain ⟨ao,h4,h⟩:=bs h
  have hc:=(mZ fu) (a.pr [0,1,2,3,4,5] [6] [0,1,2,3,4] r) (a.le J) (a.le K) (a.le L) (a.le M) (a.le N) h4
  refine sc (ec yZ r) hc ?_
  rintro _ w4 ⟨rfl,hK⟩
  replace a:=a.cn [0,1,2,3,4,5] [6] hK
  refine n (g (s (mp r) (s (mi r) (s (xn r) (s (L6 r) (lg (t_n a 6 [V j] r nO r r) fun w5 a=>n ?_))))))
  obtain rfl:=sm h
  exact ze (P:=Try.prog) (fn:=Try.f118) r (mM (⟨r,(a.dp [0,1,2,3,4,10,11,12,13])⟩))
 replace h3:=nt h3
 refine jK (cb h3) (q ?_)
 obtain ⟨e6,W,h⟩:=bs h
 obtain ⟨k6,ai,W⟩:=kJ W
 obtain ⟨av,aj,ak⟩:=(a.de 1 rfl).get W
 obtain ⟨aa,ab,ac,ae,rfl,af,ag⟩:=lI.out ak
 replace a:=a.ku (d:=.l aa ab e6.a) af
 replace a:=a.ku (d:=.l ac ae e6.e) ag
 refine pX a [0,1,6] [0,1,3] [] (by kernel_rfl) ?_
 replace a:=a.drew
 have c:=(a.ad [0,1,6] [0,1,3])
 refine pF 0 r (mp r) c (pF 1 r (xn r) c (pF 2 r (uT r) c (uF 3 r (fun hS=>AY r (hS.bk 2 r) r) c (pF 4 r (lX tY r) c (pF 5 r (mp r) c (pF 6 r (xn r) c (pF 7 r (pW r) c (pF 8 r (FN r) c (pF 9 r (Af r) c (uF 10 r (fun hS=>OJ r (hS.bk 0 r) r) c (pF 11 r (mi r) c (pF 12 r (kW Cq nY r r ai (a.vw 1 3 r r) W) c (pF 13 r (EL r) c (uF 14 r (fun hS=>jT kQ r r ((hS.oc 1 2 r r aj) 2 _ r)) c (pF 15 r (lX kQ r) c (pF 16 r (rY r r) c (pF 17 r (kC r) c (hD ?_))))))))))))))))))
 rcases iv h with ⟨h8,h⟩|⟨h8,h⟩
 ·refine jN (bt h8) (g (s (mp r) (s (mp r) (s (xn r) (s (Aa r) (s (l3 r (a.bk 6 r) r) ?_))))))
  obtain ⟨aq,h9,h⟩:=bs h
  have hc:=(mZ fu) (a.pr [0,1,2,3,4,5] [6] [2,3,4,5,6] r) (a.le J) (a.le K) (a.le L) (a.le M) (a.le N) h9
  refine sc (ec yZ r) hc ?_
  rintro _ w9 ⟨rfl,hK⟩
  replace a:=a.cn [0,1,2,3,4,5] [6] hK
  refine n (g (s (mp r) (s (mi r) (s (xn r) (s (L6 r) (lg (t_n a 6 [V j] r nO r r) fun ax a=>n ?_))))))
  obtain rfl:=sm h
  exact ze (P:=Try.prog) (fn:=Try.f118) r (mM (⟨r,(a.dp [0,1,2,3,4,12,13,14,15])⟩))
 refine jK (bf h8) (wk (g (s (mp r) (s (mi r) (s (xn r) (s (L6 r) (lg (t_n a 6 [V j] r nO r r) fun ay a=>n ?_)))))))
 obtain rfl:=sm h
 exact ze (P:=Try.prog) (fn:=Try.f118) r (mM (⟨r,(a.dp [2,3,4,5,6,7,8,9,10])⟩))
def Jt (m:Gt→Option (Gt)):Prop:=∀ {I:World} {J:Nat→Prop} {B:Gt} {H:Nat} {t:Option Addr} {u:Nat} {c:Option Addr} {d:Nat} {x:List (List Value)} {C:Nat} {h:Option Addr} {i:Nat} {a:List Rw} {D:Nat} {E:Nat} {j:Option Addr} {k:Nat} {z:List (List Value)} {F:Nat} {o:Option Addr} {p:Nat} {A:List (List Value)} {G:Nat} {b:Gt},Pre I J [.box H 115 #[Z t B.a.a.a u,Z c B.a.a.b d,Z h B.a.c i,Z j B.a.b k,V B.f,Z o B.b p,V B.c,V B.e],O C c d 82 Gn x,O D h i 60 (List Gv) (a.map Rw.hdr),.qX E 59 (sz Gv) a none,O F j k 65 Gi z,O G o p 3 Int A] [.l t u B.a.a.a,.els x B.a.a.b,.mU a B.a.c,.els z B.a.b,.els A B.b]→C≤I.heap.size→D≤I.heap.size→E≤I.heap.size→F≤I.heap.size→G≤I.heap.size→m B=some b→
 Calls Try.prog 48 #[Pt H] I (qW fun v w=>v=.tuple #[]∧Bx I w J (lT [.box H 115 #[Z t B.a.a.a u,Z c B.a.a.b d,Z h B.a.c i,Z j B.a.b k,V B.f,Z o B.b p,V B.c,V B.e],O C c d 82 Gn x,O D h i 60 (List Gv) (a.map Rw.hdr),.qX E 59 (sz Gv) a none,O F j k 65 Gi z,O G o p 3 Int A]) [.box H 115 #[Z t b.a.a.a u,Z c b.a.a.b d,Z h b.a.c i,Z j b.a.b k,V b.f,Z o b.b p,V b.c,V b.e],O C c d 82 Gn x,O D h i 60 (List Gv) (a.map Rw.hdr),.qX E 59 (sz Gv) a none,O F j k 65 Gi z,O G o p 3 Int A] [.l t u b.a.a.a,.els x b.a.a.b,.mU a b.a.c,.els z b.a.b,.els A b.b])
def wP (fu:Nat)(a:Gr) (b:Nat):Option (Ld (Bool) (Gt)):=
 if 4≤(b:Int) then
  some (.go true)
 else
  some (.go (decide (4 < (a.a.length:Int))))
def vZ (fu:Nat)(b:List Gr) (c:Int)(d:Int)(h:Int)(i:List Gn) (j:List (List Gv)) (k:List Gi) (l:List Int) (p:Gr) (t:Nat):Option (Ld (List Gr × Int × Int × Int × List Gn × List (List Gv) × List Gi × List Int) (Gt)):=
 (wP fu p t).bind fun u=>u.el (fun m=>
 if m=true then
  (lY fu (⟨(⟨(⟨b,i⟩:jR),j,k⟩:jO),c,l,d,h⟩:Gt) 0 5).bind fun a=>
  some (.go (a.a.a.a,a.f,a.c,a.e,a.a.a.b,a.a.c,a.a.b,a.b))
 else
  some (.go (b,c,d,h,i,j,k,l))
 ) (fun o=>some (.out o))
def qI (fu:Nat)(p:Gt) (t:Gr) (u:Nat):Nat→Int→(List Gr)→Int→Int→Int→(List Gn)→(List (List Gv))→(List Gi)→(List Int)→Option (Ld (Int × List Gr × Int × Int × Int × List Gn × List (List Gv) × List Gi × List Int) (Gt))
 | 0,_,_,_,_,_,_,_,_,_=>none
 | o+1,b,c,d,h,i,j,k,l,m=>
 if b < (u:Int) then
  (ix p.a.a.a b).bind fun v=>
  if v.b=t.b then
   (lY fu (⟨(⟨(⟨c,j⟩:jR),k,l⟩:jO),d,m,h,i⟩:Gt) 0 9).bind fun a=>
   qI fu p t u o (wr (b+1)) a.a.a.a a.f a.c a.e a.a.a.b a.a.c a.a.b a.b
  else
   qI fu p t u o (wr (b+1)) c d h i j k l m
 else
  some (.go (b,c,d,h,i,j,k,l,m))
def qO (fu:Nat)(u:Gr) (o:BA) (p:Nat):Nat→Int→(List Gr)→Int→Int→Int→(List Gn)→(List (List Gv))→(List Gi)→(List Int)→Option (Ld (Int × List Gr × Int × Int × Int × List Gn × List (List Gv) × List Gi × List Int) (Gt))
 | 0,_,_,_,_,_,_,_,_,_=>none
 | t+1,b,c,d,h,i,j,k,l,m=>
 if b < (p:Int) then
  (ix u.a b).bind fun v=>
  if v=o then
   (lY fu (⟨(⟨(⟨c,j⟩:jR),k,l⟩:jO),d,m,h,i⟩:Gt) 0 9).bind fun a=>
   qO fu u o p t (wr (b+1)) a.a.a.a a.f a.c a.e a.a.a.b a.a.c a.a.b a.b
  else
   qO fu u o p t (wr (b+1)) c d h i j k l m
 else
  some (.go (b,c,d,h,i,j,k,l,m))
def qM (fu:Nat)(B:Gr):List BA→Nat→(List Gr)→Int→Int→Int→(List Gn)→(List (List Gv))→(List Gi)→(List Int)→Option (Ld (List Gr × Int × Int × Int × List Gn × List (List Gv) × List Gi × List Int) (Gt))
 | [],_,a,b,c,d,e,f,h,i=>some (.go (a,b,c,d,e,f,h,i))
 | x :: z,w,a,b,c,d,e,f,h,i=>
 (qO fu B x w fu 0 a b c d e f h i).bind fun C=>C.el (fun C=>
 jy C fun A C=>jy C fun j C=>jy C fun k C=>jy C fun l C=>jy C fun m C=>jy C fun p C=>jy C fun t C=>jy C fun u v=>
 qM fu B z (w+1) j k l m p t u v
 ) (fun o=>some (.out o))
def qJ (fu:Nat)(R:Gt):List Gr→Nat→(List Gr)→Int→Int→Int→(List Gn)→(List (List Gv))→(List Gi)→(List Int)→Option (Ld (List Gr × Int × Int × Int × List Gn × List (List Gv) × List Gi × List Int) (Gt))
 | [],_,a,b,c,d,e,f,h,i=>some (.go (a,b,c,d,e,f,h,i))
 | N :: S,P,a,b,c,d,e,f,h,i=>
 (vZ fu a b c d e f h i N P).bind fun U=>U.el (fun U=>
 jy U fun F U=>jy U fun G U=>jy U fun H U=>jy U fun I U=>jy U fun J U=>jy U fun K U=>jy U fun L M=>
 (qI fu R N P fu 0 F G H I J K L M).bind fun U=>U.el (fun U=>
 jy U fun Q U=>jy U fun j U=>jy U fun k U=>jy U fun l U=>jy U fun m U=>jy U fun p U=>jy U fun t U=>jy U fun u v=>
 (qM fu N N.a 0 j k l m p t u v).bind fun U=>U.el (fun U=>
 jy U fun w U=>jy U fun x U=>jy U fun z U=>jy U fun A U=>jy U fun B U=>jy U fun C U=>jy U fun D E=>
 qJ fu R S (P+1) w x z A B C D E
 ) (fun o=>some (.out o))
 ) (fun o=>some (.out o))
 ) (fun o=>some (.out o))
def wI (fu:Nat)(m:Int)(b:List Gr) (c:Int)(d:Int)(h:Int)(i:List Gn) (j:List (List Gv)) (k:List Gi) (l:List Int) (o:Gn):Option (Ld (List Gr × Int × Int × Int × List Gn × List (List Gv) × List Gi × List Int) (Gt)):=
 if 8≤m then
  (lY fu (⟨(⟨(⟨b,i⟩:jR),j,k⟩:jO),c,l,d,h⟩:Gt) o.f 5).bind fun a=>
  some (.go (a.a.a.a,a.f,a.c,a.e,a.a.a.b,a.a.c,a.a.b,a.b))
 else
  some (.go (b,c,d,h,i,j,k,l))
def qU (fu:Nat)(d:Int)(p:Gn):Nat→Int→(List Gr)→Int→Int→Int→(List Gn)→(List (List Gv))→(List Gi)→(List Int)→Option (Ld (Int × List Gr × Int × Int × Int × List Gn × List (List Gv) × List Gi × List Int) (Gt))
 | 0,_,_,_,_,_,_,_,_,_=>none
 | t+1,b,h,i,j,k,c,l,m,o=>
 if b < d then
  (ix c b).bind fun u=>
  if u.b=p.b then
   (lY fu (⟨(⟨(⟨h,c⟩:jR),l,m⟩:jO),i,o,j,k⟩:Gt) p.f 9).bind fun a=>
   qU fu d p t (wr (b+1)) a.a.a.a a.f a.c a.e a.a.a.b a.a.c a.a.b a.b
  else
   qU fu d p t (wr (b+1)) h i j k c l m o
 else
  some (.go (b,h,i,j,k,c,l,m,o))
def sj (fu:Nat)(k:List Gn):Nat→Int→(List Gr)→Int→Int→Int→(List Gn)→(List (List Gv))→(List Gi)→(List Int)→Option (Ld (Int × List Gr × Int × Int × Int × List Gn × List (List Gv) × List Gi × List Int) (Gt))
 | 0,_,_,_,_,_,_,_,_,_=>none
 | I+1,a,c,d,e,f,b,h,i,j=>
 if a < (k.length:Int) then
  (ix b a).bind fun H=>
  (wI fu a c d e f b h i j H).bind fun K=>K.el (fun K=>
  jy K fun l K=>jy K fun m K=>jy K fun p K=>jy K fun t K=>jy K fun u K=>jy K fun v K=>jy K fun w x=>
  (qU fu a H fu 0 l m p t u v w x).bind fun K=>K.el (fun K=>
  jy K fun J K=>jy K fun z K=>jy K fun A K=>jy K fun B K=>jy K fun C K=>jy K fun D K=>jy K fun E K=>jy K fun F G=>
  sj fu k I (wr (a+1)) z A B C D E F G
  ) (fun o=>some (.out o))
  ) (fun o=>some (.out o))
 else
  some (.go (a,c,d,e,f,b,h,i,j))
def yS (fu:Nat)(a:Gt):Option (Gt):=
 (qJ fu a a.a.a.a 0 a.a.a.a a.f a.c a.e a.a.a.b a.a.c a.a.b a.b).bind fun B=>B.el (fun B=>
 jy B fun p B=>jy B fun t B=>jy B fun u B=>jy B fun v B=>jy B fun b B=>jy B fun w B=>jy B fun x z=>
 (sj fu b fu 0 p t u v b w x z).bind fun B=>B.el (fun B=>
 jy B fun A B=>jy B fun c B=>jy B fun d B=>jy B fun h B=>jy B fun i B=>jy B fun j B=>jy B fun k B=>jy B fun l m=>
 some (⟨(⟨(⟨c,j⟩:jR),k,l⟩:jO),d,m,h,i⟩:Gt)
 ) (fun o=>some o)
 ) (fun o=>some o)
theorem Iw (fu:Nat):Jt (yS fu):=by
 intro w0 e4 H S a b c j B K t u m L M v x C N z A D Q dr hP b7 b8 b9 ba bb hM
 unfold yS at hM
 have o:=hP.bx
 clear hP
 generalize hG:lT _=G at o ⊢
 refine cf Try.func48 r (lK [(0,Pt S)] ⟨r,y⟩ fun e5=>q (g (s (mp r) (s (xn r) (s (pW r) (s (FN r) (s (ng [Z a H.a.a.a b,Z c H.a.a.b j] Cy tX r (o.bk 0 r)) (tu o (jV tX) fun w1 b1 o=>lg (nX o 0 [Z a H.a.a.a b,Z c H.a.a.b j] r tX r r) fun w2 o=>n (q (q (g (s (CX r) (s (Tj r (o.bk 0 r) r) (s (lX G8 r) (s (mi r) (n ?_))))))))))))))))
 have dt:=(o.dl 0 r).bd
 obtain ⟨Y3,E,hM⟩:=bs hM
 refine oq (fun f w=>∃ (au:List Gr) (b0:Int)(b2:Int)(b3:Int)(I:List Gn) (av:List (List Gv)) (aw:List Gi) (ax:List Int),Has f [(0,Pt S),(2,Pt b1)]∧Bx w0 w e4 G [.box b1 26 #[Z a H.a.a.a b,Z c I j],.box S 115 #[Z a au b,Z c I j,Z t av u,Z v aw x,V b0,Z z ax A,V b2,V b3],O K c j 82 Gn B,O L t u 60 (List Gv) (m.map Rw.hdr),.qX M 59 (sz Gv) m none,O N v x 65 Gi C,O Q z A 3 Int D] [.l a b au,.l a b H.a.a.a,.els B I,.mU m av,.els C aw,.els D ax]∧Ld.go (au,b0,b2,b3,I,av,aw,ax)=Y3) (fun J3 d0=>?_) ?_
 ·refine oM (kM (fun e6 f w=>∃ (k3:Nat)(au:List Gr) (b0:Int)(b2:Int)(b3:Int)(I:List Gn) (av:List (List Gv)) (aw:List Gi) (ax:List Int),e6=H.a.a.a.length - k3∧k3≤H.a.a.a.length∧Has f [(19,V (k3:Int)),(0,Pt S),(2,Pt b1),(17,Z a H.a.a.a b),(18,V (H.a.a.a.length:Int))]∧Bx w0 w e4 G [.box b1 26 #[Z a H.a.a.a b,Z c I j],.box S 115 #[Z a au b,Z c I j,Z t av u,Z v aw x,V b0,Z z ax A,V b2,V b3],O K c j 82 Gn B,O L t u 60 (List Gv) (m.map Rw.hdr),.qX M 59 (sz Gv) m none,O N v x 65 Gi C,O Q z A 3 Int D] [.l a b au,.l a b H.a.a.a,.els B I,.mU m av,.els C aw,.els D ax]∧qJ fu H (H.a.a.a.drop k3) k3 au b0 b2 b3 I av aw ax=some Y3) (H.a.a.a.length) ⟨0,H.a.a.a,H.f,H.c,H.e,H.a.a.b,H.a.c,H.a.b,H.b,r,Nat.zero_le _,⟨r,r,r,r,r,y⟩,(o.dp [0,0,1,2,3,4]),E⟩ ?_)
  clear o E
  rintro e6 f w ⟨k3,au,b0,b2,b3,I,av,aw,ax,rfl,du,hf,o,E⟩ K3 d1
  obtain ⟨e5,rfl⟩:=iA _ _ hf
  clear hf
  rcases Nat.lt_or_ge k3 H.a.a.a.length with ct | ct
  ·obtain ⟨u3,c3⟩:=mh (l:=H.a.a.a) ct
   rw [mP c3,qJ] at E
   obtain ⟨dv,d2,o⟩:=o.nm 1 rfl c3
   obtain ⟨Y,a0,rfl,cu⟩:=kV.out d2
   replace o:=o.ku (d:=.l Y a0 u3.a) cu
   refine q (g (s (sS r r (by omega)) (n (q (jN r (wk (q (oM (q (g (s (mi r) (s (kW G8 wT r r r (o.dl 3 r) c3) (s (nN [T u3.b,Z Y u3.a a0] Nb r wT r r (o.dc 1 r)) (tu o (jV wT) fun w5 b5 o=>s (xi r) (lg (nX o 0 [T u3.b,Z Y u3.a a0] r wT r r) fun w6 o=>n (q ?_))))))))))))))))
   obtain ⟨Y7,bi,E⟩:=bs E
   refine oq (fun f w=>∃ (bv:List Gr) (bD:Int)(bE:Int)(bF:Int)(bp:List Gn) (bw:List (List Gv)) (bz:List Gi) (bA:List Int),Has f [(0,Pt S),(2,Pt b1),(3,V (k3:Int)),(4,Pt b5),(17,Z a H.a.a.a b),(18,V (H.a.a.a.length:Int)),(19,V (k3:Int))]∧Bx w0 w e4 G [.box b5 127 #[T u3.b,Z Y u3.a a0],.box b1 26 #[Z a H.a.a.a b,Z c bp j],.box S 115 #[Z a bv b,Z c bp j,Z t bw u,Z v bz x,V bD,Z z bA A,V bE,V bF],O K c j 82 Gn B,O L t u 60 (List Gv) (m.map Rw.hdr),.qX M 59 (sz Gv) m none,O N v x 65 Gi C,O Q z A 3 Int D] [.l a b bv,.l Y a0 u3.a,.l a b H.a.a.a,.els B bp,.mU m bw,.els C bz,.els D bA]∧Ld.go (bv,bD,bE,bF,bp,bw,bz,bA)=Y7) (fun J7 cv=>?_) ?_
   ·unfold vZ at bi
    refine q ?_
    obtain ⟨Y8,bK,bi⟩:=bs bi
    refine oq (fun f w=>∃ (bL:Bool),Has f [(0,Pt S),(2,Pt b1),(3,V (k3:Int)),(4,Pt b5),(17,Z a H.a.a.a b),(18,V (H.a.a.a.length:Int)),(19,V (k3:Int)),(31,.bool bL)]∧Bx w0 w e4 G [.box b5 127 #[T u3.b,Z Y u3.a a0],.box b1 26 #[Z a H.a.a.a b,Z c I j],.box S 115 #[Z a au b,Z c I j,Z t av u,Z v aw x,V b0,Z z ax A,V b2,V b3],O K c j 82 Gn B,O L t u 60 (List Gv) (m.map Rw.hdr),.qX M 59 (sz Gv) m none,O N v x 65 Gi C,O Q z A 3 Int D] [.l Y a0 u3.a,.l a b au,.l a b H.a.a.a,.els B I,.mU m av,.els C aw,.els D ax]∧Ld.go bL=Y8) (fun J8 cw=>?_) ?_
    ·unfold wP at bK
     refine g (s (mi r) (s (Bq r r) (s (kL r) ?_)))
     rcases iv bK with ⟨h9,bK⟩|⟨h9,bK⟩
     ·rw [decide_eq_true h9]
      exact jC r (jC r (jC r (jC r (s (kr r r) (n (cw _ _ ⟨true,⟨r,r,r,r,r,r,r,r,y⟩,(o.dp [0,2,3,4,5,6,7]),sm bK⟩))))))
     rw [decide_eq_false h9]
     exact kg r (s (Bp r) (kg r (s (zM r (o.bk 0 r) r) (kg r (s (lX kQ r) (kg r (s (uX r r) (s (jY r r) (n (cw _ _ ⟨(decide (4 < (u3.a.length:Int))),⟨r,r,r,r,r,r,r,r,y⟩,(o.dp [0,2,3,4,5,6,7]),sm bK⟩))))))))))
    clear o
    rintro f w ⟨bL,hf,o,d4⟩
    obtain ⟨e5,rfl⟩:=iA _ _ hf
    clear hf
    subst d4
    replace bi:=gi bi
    rcases iv bi with ⟨bM,bi⟩|⟨bM,bi⟩
    ·refine jN (cb bM) (g (s (mp r) ?_))
     obtain ⟨aP,d5,bi⟩:=bs bi
     have hc:=(mZ fu) (o.pr [2,3,4,5,6,7] [0,1] [1,3,4,5,6] r) (o.le b7) (o.le b8) (o.le b9) (o.le ba) (o.le bb) d5
     refine sc (ec yZ r) hc ?_
     rintro _ dy ⟨rfl,hK⟩
     replace o:=o.cn [2,3,4,5,6,7] [0,1] hK
     have bT:I.length=aP.a.a.b.length:=(o.de 8 r).len.symm.trans (o.de 1 r).len
     try dsimp only [Z] at o
     try rw [bT] at o
     try dsimp only [Z]
     try rw [bT]
     exact n (cv _ _ ⟨aP.a.a.a,aP.f,aP.c,aP.e,aP.a.a.b,aP.a.c,aP.a.b,aP.b,⟨r,r,r,r,r,r,r,y⟩,(o.ad [6,7,0,1,2,3,4,5] [0,5,7,1,2,3,4]),sm bi⟩)
    replace bM:=nt bM
    exact jK (cb bM) (wk (cv _ _ ⟨au,b0,b2,b3,I,av,aw,ax,⟨r,r,r,r,r,r,r,y⟩,(o.dp [1,0,2,3,4,5,6]),sm bi⟩))
   clear o
   rintro f w ⟨bv,bD,bE,bF,bp,bw,bz,bA,hf,o,d6⟩
   obtain ⟨e5,rfl⟩:=iA _ _ hf
   clear hf
   subst d6
   replace E:=gi E
   replace E:=pi (mG (mG E))
   refine q (q (g (s (xi r) (n ?_))))
   obtain ⟨cx,a3,E⟩:=bs E
   refine oq (fun f w=>∃ (aQ:Int)(a6:List Gr) (ay:Int)(az:Int)(aA:Int)(U:List Gn) (a7:List (List Gv)) (a8:List Gi) (a9:List Int),Has f [(0,Pt S),(2,Pt b1),(4,Pt b5),(17,Z a H.a.a.a b),(18,V (H.a.a.a.length:Int)),(19,V (k3:Int))]∧Bx w0 w e4 G [.box b5 127 #[T u3.b,Z Y u3.a a0],.box b1 26 #[Z a H.a.a.a b,Z c U j],.box S 115 #[Z a a6 b,Z c U j,Z t a7 u,Z v a8 x,V ay,Z z a9 A,V az,V aA],O K c j 82 Gn B,O L t u 60 (List Gv) (m.map Rw.hdr),.qX M 59 (sz Gv) m none,O N v x 65 Gi C,O Q z A 3 Int D] [.l a b a6,.l Y a0 u3.a,.l a b H.a.a.a,.els B U,.mU m a7,.els C a8,.els D a9]∧Ld.go (aQ,a6,ay,az,aA,U,a7,a8,a9)=cx) (fun dz cy=>?_) ?_
   ·refine oM (kM (fun e6 f w=>∃ (aQ:Int)(a6:List Gr) (ay:Int)(az:Int)(aA:Int)(U:List Gn) (a7:List (List Gv)) (a8:List Gi) (a9:List Int),Has f [(0,Pt S),(2,Pt b1),(3,V (k3:Int)),(4,Pt b5),(5,V aQ),(17,Z a H.a.a.a b),(18,V (H.a.a.a.length:Int)),(19,V (k3:Int))]∧Bx w0 w e4 G [.box b5 127 #[T u3.b,Z Y u3.a a0],.box b1 26 #[Z a H.a.a.a b,Z c U j],.box S 115 #[Z a a6 b,Z c U j,Z t a7 u,Z v a8 x,V ay,Z z a9 A,V az,V aA],O K c j 82 Gn B,O L t u 60 (List Gv) (m.map Rw.hdr),.qX M 59 (sz Gv) m none,O N v x 65 Gi C,O Q z A 3 Int D] [.l a b a6,.l Y a0 u3.a,.l a b H.a.a.a,.els B U,.mU m a7,.els C a8,.els D a9]∧qI fu H u3 k3 e6 aQ a6 ay az aA U a7 a8 a9=some cx) fu ⟨0,bv,bD,bE,bF,bp,bw,bz,bA,⟨r,r,r,r,r,r,r,r,y⟩,o,a3⟩ ?_)
    clear o a3
    rintro bQ f w ⟨aQ,a6,ay,az,aA,U,a7,a8,a9,hf,o,a3⟩ dA bU
    obtain ⟨e5,rfl⟩:=iA _ _ hf
    clear hf
    cases bQ with
    | zero=>exact nn a3
    | succ bQ=>
     rw [qI] at a3
     refine q (q (g (s (mi r) (s (mi r) (s (qo r r) (n ?_))))))
     rcases iv a3 with ⟨c4,a3⟩|⟨c4,a3⟩
     ·refine jN (bt c4) (wk (q (oM (q ?_))))
      obtain ⟨d7,bG,a3⟩:=bs a3
      obtain ⟨dB,cz,bG⟩:=kJ bG
      obtain ⟨dj,cA,o⟩:=o.nm 2 rfl bG
      obtain ⟨c5,c6,rfl,c7⟩:=kV.out cA
      replace o:=o.ku (d:=.l c5 c6 d7.a) c7
      refine pX o [0,1] [0,1,4] [] (by kernel_rfl) ?_
      replace o:=o.drew
      have hs:=(o.ad [0,1] [0,1,4])
      refine pF 0 r (CX r) hs (uF 1 r (fun hS=>Tj r (hS.bk 1 r) r) hs (pF 2 r (mi r) hs (pF 3 r (kW G8 wT r r cz (o.dl 4 r) bG) hs (pF 4 r (Iz r) hs (uF 5 r (fun hS=>jT uq r r ((hS.dc 1 r) 0 _ r)) hs (pF 6 r (Iz r) hs (uF 7 r (fun hS=>l9 r (hS.bk 0 r) r) hs (pF 8 r (rR r r) hs (hD ?_)))))))))
      rcases iv a3 with ⟨c8,a3⟩|⟨c8,a3⟩
      ·refine jN (bt c8) (g (s (mp r) ?_))
       obtain ⟨aR,d8,a3⟩:=bs a3
       have hc:=(mZ fu) (o.pr [2,3,4,5,6,7] [0,1] [2,5,6,7,8] r) (o.le b7) (o.le b8) (o.le b9) (o.le ba) (o.le bb) d8
       refine sc (ec yZ r) hc ?_
       rintro _ dC ⟨rfl,hK⟩
       replace o:=o.cn [2,3,4,5,6,7] [0,1] hK
       have bV:U.length=aR.a.a.b.length:=(o.de 10 r).len.symm.trans (o.de 1 r).len
       try dsimp only [Z] at o
       try rw [bV] at o
       try dsimp only [Z]
       try rw [bV]
       exact n (g (s (mi r) (s (kE r r) (s (xi r) (n (bU bQ _ _ (Nat.lt_succ_self _) ⟨(wr (aQ+1)),aR.a.a.a,aR.f,aR.c,aR.e,aR.a.a.b,aR.a.c,aR.a.b,aR.b,⟨r,r,r,r,r,r,r,r,y⟩,(o.ad [6,7,0,1,2,3,4,5] [0,8,9,1,2,3,4]),a3⟩))))))
      exact jK (bf c8) (wk (g (s (mi r) (s (kE r r) (s (xi r) (n (bU bQ _ _ (Nat.lt_succ_self _) ⟨(wr (aQ+1)),a6,ay,az,aA,U,a7,a8,a9,⟨r,r,r,r,r,r,r,r,y⟩,(o.dp [2,3,4,5,6,7,8]),a3⟩)))))))
     exact jK (bf c4) (tT (cy _ _ ⟨aQ,a6,ay,az,aA,U,a7,a8,a9,⟨r,r,r,r,r,r,y⟩,o,sm a3⟩))
   clear o
   rintro f w ⟨aQ,a6,ay,az,aA,U,a7,a8,a9,hf,o,cB⟩
   obtain ⟨e5,rfl⟩:=iA _ _ hf
   clear hf
   subst cB
   replace E:=gi E
   replace E:=Bh (mG (mG E))
   refine q (g (s (Bp r) (s (zM r (o.bk 0 r) r) (s (lX kQ r) (s (mi r) (n ?_))))))
   have dk:=(o.dl 1 r).bd
   obtain ⟨cC,F,E⟩:=bs E
   refine oq (fun f w=>∃ (aa:List Gr) (aB:Int)(aC:Int)(aD:Int)(a1:List Gn) (ab:List (List Gv)) (ac:List Gi) (ae:List Int),Has f [(0,Pt S),(2,Pt b1),(17,Z a H.a.a.a b),(18,V (H.a.a.a.length:Int)),(19,V (k3:Int))]∧Bx w0 w e4 G [.box b5 127 #[T u3.b,Z Y u3.a a0],.box b1 26 #[Z a H.a.a.a b,Z c a1 j],.box S 115 #[Z a aa b,Z c a1 j,Z t ab u,Z v ac x,V aB,Z z ae A,V aC,V aD],O K c j 82 Gn B,O L t u 60 (List Gv) (m.map Rw.hdr),.qX M 59 (sz Gv) m none,O N v x 65 Gi C,O Q z A 3 Int D] [.l a b aa,.l Y a0 u3.a,.l a b H.a.a.a,.els B a1,.mU m ab,.els C ac,.els D ae]∧Ld.go (aa,aB,aC,aD,a1,ab,ac,ae)=cC) (fun dD cD=>?_) ?_
   ·refine oM (kM (fun e6 f w=>∃ (bg:Nat)(aa:List Gr) (aB:Int)(aC:Int)(aD:Int)(a1:List Gn) (ab:List (List Gv)) (ac:List Gi) (ae:List Int),e6=u3.a.length - bg∧bg≤u3.a.length∧Has f [(53,V (bg:Int)),(0,Pt S),(2,Pt b1),(4,Pt b5),(17,Z a H.a.a.a b),(18,V (H.a.a.a.length:Int)),(19,V (k3:Int)),(52,V (u3.a.length:Int))]∧Bx w0 w e4 G [.box b5 127 #[T u3.b,Z Y u3.a a0],.box b1 26 #[Z a H.a.a.a b,Z c a1 j],.box S 115 #[Z a aa b,Z c a1 j,Z t ab u,Z v ac x,V aB,Z z ae A,V aC,V aD],O K c j 82 Gn B,O L t u 60 (List Gv) (m.map Rw.hdr),.qX M 59 (sz Gv) m none,O N v x 65 Gi C,O Q z A 3 Int D] [.l a b aa,.l Y a0 u3.a,.l a b H.a.a.a,.els B a1,.mU m ab,.els C ac,.els D ae]∧qM fu u3 (u3.a.drop bg) bg aa aB aC aD a1 ab ac ae=some cC) (u3.a.length) ⟨0,a6,ay,az,aA,U,a7,a8,a9,r,Nat.zero_le _,⟨r,r,r,r,r,r,r,r,y⟩,o,F⟩ ?_)
    clear o F
    rintro e6 f w ⟨bg,aa,aB,aC,aD,a1,ab,ac,ae,rfl,dm,hf,o,F⟩ dE cE
    obtain ⟨e5,rfl⟩:=iA _ _ hf
    clear hf
    rcases Nat.lt_or_ge bg u3.a.length with bW | bW
    ·obtain ⟨cF,bN⟩:=mh (l:=u3.a) bW
     rw [mP bN,qM] at F
     refine q (g (s (sS r r (by omega)) (n (q (jN r (wk (q (oM (q (g (s (mi r) (s (xi r) (n (q (g (s (xi r) (n ?_)))))))))))))))))
     obtain ⟨cG,a4,F⟩:=bs F
     refine oq (fun f w=>∃ (aS:Int)(af:List Gr) (aE:Int)(aF:Int)(aG:Int)(W:List Gn) (ag:List (List Gv)) (ah:List Gi) (ai:List Int),Has f [(0,Pt S),(2,Pt b1),(4,Pt b5),(17,Z a H.a.a.a b),(18,V (H.a.a.a.length:Int)),(19,V (k3:Int)),(52,V (u3.a.length:Int)),(53,V (bg:Int))]∧Bx w0 w e4 G [.box b5 127 #[T u3.b,Z Y u3.a a0],.box b1 26 #[Z a H.a.a.a b,Z c W j],.box S 115 #[Z a af b,Z c W j,Z t ag u,Z v ah x,V aE,Z z ai A,V aF,V aG],O K c j 82 Gn B,O L t u 60 (List Gv) (m.map Rw.hdr),.qX M 59 (sz Gv) m none,O N v x 65 Gi C,O Q z A 3 Int D] [.l a b af,.l Y a0 u3.a,.l a b H.a.a.a,.els B W,.mU m ag,.els C ah,.els D ai]∧Ld.go (aS,af,aE,aF,aG,W,ag,ah,ai)=cG) (fun dF cH=>?_) ?_
     ·refine oM (kM (fun e6 f w=>∃ (aS:Int)(af:List Gr) (aE:Int)(aF:Int)(aG:Int)(W:List Gn) (ag:List (List Gv)) (ah:List Gi) (ai:List Int),Has f [(0,Pt S),(2,Pt b1),(4,Pt b5),(6,V (bg:Int)),(7,V aS),(17,Z a H.a.a.a b),(18,V (H.a.a.a.length:Int)),(19,V (k3:Int)),(52,V (u3.a.length:Int)),(53,V (bg:Int))]∧Bx w0 w e4 G [.box b5 127 #[T u3.b,Z Y u3.a a0],.box b1 26 #[Z a H.a.a.a b,Z c W j],.box S 115 #[Z a af b,Z c W j,Z t ag u,Z v ah x,V aE,Z z ai A,V aF,V aG],O K c j 82 Gn B,O L t u 60 (List Gv) (m.map Rw.hdr),.qX M 59 (sz Gv) m none,O N v x 65 Gi C,O Q z A 3 Int D] [.l a b af,.l Y a0 u3.a,.l a b H.a.a.a,.els B W,.mU m ag,.els C ah,.els D ai]∧qO fu u3 cF bg e6 aS af aE aF aG W ag ah ai=some cG) fu ⟨0,aa,aB,aC,aD,a1,ab,ac,ae,⟨r,r,r,r,r,r,r,r,r,r,y⟩,o,a4⟩ ?_)
      clear o a4
      rintro bR f w ⟨aS,af,aE,aF,aG,W,ag,ah,ai,hf,o,a4⟩ dG bX
      obtain ⟨e5,rfl⟩:=iA _ _ hf
      clear hf
      cases bR with
      | zero=>exact nn a4
      | succ bR=>
       rw [qO] at a4
       refine q (q (g (s (mi r) (s (mi r) (s (qo r r) (n ?_))))))
       rcases iv a4 with ⟨c9,a4⟩|⟨c9,a4⟩
       ·refine jN (bt c9) (wk (q (oM (q (pX o [0] [1] [] (by kernel_rfl) ?_)))))
        replace o:=o.drew
        have hs:=(o.ad [0] [1])
        refine pF 0 r (Bp r) hs (uF 1 r (fun hS=>zM r (hS.bk 0 r) r) hs (pF 2 r (mi r) hs ?_))
        obtain ⟨d9,bH,a4⟩:=bs a4
        obtain ⟨dH,cI,bH⟩:=kJ bH
        refine pF 3 r (kW kQ oQ r r cI (o.dl 1 r) bH) hs (tU 4 r (fun _ hS=>jT uq r r ((uy (ds:=[T d9]) (hS.dl 0 r) bH (fun _ h=>h)) 0 _ r)) (sF hs) (pF 5 r (Bp r) hs (uF 6 r (fun hS=>zM r (hS.bk 0 r) r) hs (pF 7 r (mi r) hs (pF 8 r (kW kQ oQ r r r (o.dl 1 r) bN) hs (tU 9 r (fun _ hS=>jT uq r r ((uy (ds:=[T cF]) (hS.dl 0 r) bN (fun _ h=>h)) 0 _ r)) (sF hs) (pF 10 r (rR r r) hs (hD ?_))))))))
        rcases iv a4 with ⟨cc,a4⟩|⟨cc,a4⟩
        ·refine jN (bt cc) (g (s (mp r) ?_))
         obtain ⟨aT,da,a4⟩:=bs a4
         have hc:=(mZ fu) (o.pr [2,3,4,5,6,7] [0,1] [0,3,4,5,6] r) (o.le b7) (o.le b8) (o.le b9) (o.le ba) (o.le bb) da
         refine sc (ec yZ r) hc ?_
         rintro _ dI ⟨rfl,hK⟩
         replace o:=o.cn [2,3,4,5,6,7] [0,1] hK
         have bY:W.length=aT.a.a.b.length:=(o.de 8 r).len.symm.trans (o.de 1 r).len
         try dsimp only [Z] at o
         try rw [bY] at o
         try dsimp only [Z]
         try rw [bY]
         exact n (g (s (mi r) (s (kE r r) (s (xi r) (n (bX bR _ _ (Nat.lt_succ_self _) ⟨(wr (aS+1)),aT.a.a.a,aT.f,aT.c,aT.e,aT.a.a.b,aT.a.c,aT.a.b,aT.b,⟨r,r,r,r,r,r,r,r,r,r,y⟩,(o.ad [6,7,0,1,2,3,4,5] [0,6,7,1,2,3,4]),a4⟩))))))
        exact jK (bf cc) (wk (g (s (mi r) (s (kE r r) (s (xi r) (n (bX bR _ _ (Nat.lt_succ_self _) ⟨(wr (aS+1)),af,aE,aF,aG,W,ag,ah,ai,⟨r,r,r,r,r,r,r,r,r,r,y⟩,o,a4⟩)))))))
       exact jK (bf c9) (tT (cH _ _ ⟨aS,af,aE,aF,aG,W,ag,ah,ai,⟨r,r,r,r,r,r,r,r,y⟩,o,sm a4⟩))
     clear o
     rintro f w ⟨aS,af,aE,aF,aG,W,ag,ah,ai,hf,o,cJ⟩
     obtain ⟨e5,rfl⟩:=iA _ _ hf
     clear hf
     subst cJ
     replace F:=gi F
     replace F:=Bh (mG (mG F))
     exact g (s (mR r r (by omega) (by omega)) (s (mi r) (n (cE (u3.a.length - (bg+1)) _ _ (by omega) ⟨bg+1,af,aE,aF,aG,W,ag,ah,ai,r,by omega,⟨r,r,r,r,r,r,r,r,y⟩,o,F⟩))))
    obtain rfl:bg=u3.a.length:=by omega
    rw [lV,qM] at F
    exact q (g (s (sU r r (by omega)) (n (q (jK r (tT (cD _ _ ⟨aa,aB,aC,aD,a1,ab,ac,ae,⟨r,r,r,r,r,y⟩,o,sm F⟩)))))))
   clear o
   rintro f w ⟨aa,aB,aC,aD,a1,ab,ac,ae,hf,o,cK⟩
   obtain ⟨e5,rfl⟩:=iA _ _ hf
   clear hf
   subst cK
   replace E:=gi E
   replace E:=pi (mG (mG E))
   exact g (s (mR r r (by omega) (by omega)) (s (mi r) (n (d1 (H.a.a.a.length - (k3+1)) _ _ (by omega) ⟨k3+1,aa,aB,aC,aD,a1,ab,ac,ae,r,by omega,⟨r,r,r,r,r,y⟩,(o.ad [1,2,3,4,5,6,7] [0,2,3,4,5,6]),E⟩))))
  obtain rfl:k3=H.a.a.a.length:=by omega
  rw [lV,qJ] at E
  exact q (g (s (sU r r (by omega)) (n (q (jK r (tT (d0 _ _ ⟨au,b0,b2,b3,I,av,aw,ax,⟨r,r,y⟩,o,sm E⟩)))))))
 clear o
 rintro f w ⟨au,b0,b2,b3,I,av,aw,ax,hf,o,db⟩
 obtain ⟨e5,rfl⟩:=iA _ _ hf
 clear hf
 subst db
 replace hM:=gi hM
 replace hM:=pi (mG (mG hM))
 refine q (g (s (Af r) (s (OJ r (o.bk 0 r) r) (s (lX Cq r) (s (mi r) (n ?_))))))
 obtain ⟨cL,p,hM⟩:=bs hM
 refine oq (fun f w=>∃ (a2:Int)(an:List Gr) (aU:Int)(aV:Int)(aW:Int)(X:List Gn) (ao:List (List Gv)) (ap:List Gi) (aq:List Int),Has f []∧Bx w0 w e4 G [.box b1 26 #[Z a H.a.a.a b,Z c X j],.box S 115 #[Z a an b,Z c X j,Z t ao u,Z v ap x,V aU,Z z aq A,V aV,V aW],O K c j 82 Gn B,O L t u 60 (List Gv) (m.map Rw.hdr),.qX M 59 (sz Gv) m none,O N v x 65 Gi C,O Q z A 3 Int D] [.l a b an,.l a b H.a.a.a,.els B X,.mU m ao,.els C ap,.els D aq]∧Ld.go (a2,an,aU,aV,aW,X,ao,ap,aq)=cL) (fun dJ cM=>?_) ?_
 ·refine oM (kM (fun e6 f w=>∃ (a2:Int)(an:List Gr) (aU:Int)(aV:Int)(aW:Int)(X:List Gn) (ao:List (List Gv)) (ap:List Gi) (aq:List Int),Has f [(0,Pt S),(2,Pt b1),(77,Z c X j),(78,V (I.length:Int)),(79,V a2)]∧Bx w0 w e4 G [.box b1 26 #[Z a H.a.a.a b,Z c X j],.box S 115 #[Z a an b,Z c X j,Z t ao u,Z v ap x,V aU,Z z aq A,V aV,V aW],O K c j 82 Gn B,O L t u 60 (List Gv) (m.map Rw.hdr),.qX M 59 (sz Gv) m none,O N v x 65 Gi C,O Q z A 3 Int D] [.l a b an,.l a b H.a.a.a,.els B X,.mU m ao,.els C ap,.els D aq]∧sj fu I e6 a2 an aU aV aW X ao ap aq=some cL) fu ⟨0,au,b0,b2,b3,I,av,aw,ax,⟨r,r,r,r,r,y⟩,o,p⟩ ?_)
  clear o p
  rintro cd f w ⟨a2,an,aU,aV,aW,X,ao,ap,aq,hf,o,p⟩ dK cN
  obtain ⟨e5,rfl⟩:=iA _ _ hf
  clear hf
  cases cd with
  | zero=>exact nn p
  | succ cd=>
   rw [sj] at p
   refine q (g (s (qo r r) (n (q ?_))))
   rcases iv p with ⟨ce,p⟩|⟨ce,p⟩
   ·refine jN (bt ce) (wk (q (oM (q (g (s (mi r) ?_))))))
    obtain ⟨R,bI,p⟩:=bs p
    obtain ⟨dL,cO,bI⟩:=kJ bI
    obtain ⟨dn,cP,cQ⟩:=(o.de 2 rfl).get bI
    obtain ⟨aH,aI,aJ,aK,rfl,cg,ch⟩:=lI.out cQ
    replace o:=o.ku (d:=.l aH aI R.a) cg
    replace o:=o.ku (d:=.l aJ aK R.e) ch
    refine s (kW Cq nY r r cO (o.vw 2 4 r r) bI) (s (nN [T R.b,V R.f,Z aH R.a aI,Z aJ R.e aK] Ez r nY r r (o.oc 2 4 r r cP)) (tu o (jV nY) fun dM bO o=>s (xi r) (lg (nX o 0 [T R.b,V R.f,Z aH R.a aI,Z aJ R.e aK] r nY r r) fun dN o=>n (q ?_))))
    obtain ⟨dd,bh,p⟩:=bs p
    refine oq (fun f w=>∃ (bj:List Gr) (bq:Int)(br:Int)(bu:Int)(b6:List Gn) (bl:List (List Gv)) (bm:List Gi) (bn:List Int),Has f [(0,Pt S),(2,Pt b1),(8,V a2),(9,Pt bO),(77,Z c b6 j),(78,V (I.length:Int)),(79,V a2)]∧Bx w0 w e4 G [.box bO 82 #[T R.b,V R.f,Z aH R.a aI,Z aJ R.e aK],.box b1 26 #[Z a H.a.a.a b,Z c b6 j],.box S 115 #[Z a bj b,Z c b6 j,Z t bl u,Z v bm x,V bq,Z z bn A,V br,V bu],O K c j 82 Gn B,O L t u 60 (List Gv) (m.map Rw.hdr),.qX M 59 (sz Gv) m none,O N v x 65 Gi C,O Q z A 3 Int D] [.l a b bj,.l aJ aK R.e,.l aH aI R.a,.l a b H.a.a.a,.els B b6,.mU m bl,.els C bm,.els D bn]∧Ld.go (bj,bq,br,bu,b6,bl,bm,bn)=dd) (fun dO bZ=>?_) ?_
    ·unfold wI at bh
     refine q (g (s (mi r) (s (Bq r r) (n ?_))))
     rcases iv bh with ⟨ci,bh⟩|⟨ci,bh⟩
     ·refine jN (bt ci) (g (s (mp r) (s (Ng r) (s (l3 r (o.bk 0 r) r) ?_))))
      obtain ⟨aX,df,bh⟩:=bs bh
      have hc:=(mZ fu) (o.pr [2,3,4,5,6,7] [0,1] [2,4,5,6,7] r) (o.le b7) (o.le b8) (o.le b9) (o.le ba) (o.le bb) df
      refine sc (ec yZ r) hc ?_
      rintro _ dP ⟨rfl,hK⟩
      replace o:=o.cn [2,3,4,5,6,7] [0,1] hK
      have c0:X.length=aX.a.a.b.length:=(o.de 9 r).len.symm.trans (o.de 1 r).len
      try dsimp only [Z] at o
      try rw [c0] at o
      try dsimp only [Z]
      try rw [c0]
      exact n (bZ _ _ ⟨aX.a.a.a,aX.f,aX.c,aX.e,aX.a.a.b,aX.a.c,aX.a.b,aX.b,⟨r,r,r,r,r,r,r,y⟩,(o.ad [6,7,0,1,2,3,4,5] [0,5,6,8,1,2,3,4]),sm bh⟩)
     exact jK (bf ci) (wk (bZ _ _ ⟨an,aU,aV,aW,X,ao,ap,aq,⟨r,r,r,r,r,r,r,y⟩,(o.dp [2,0,1,3,4,5,6,7]),sm bh⟩))
    clear o
    rintro f w ⟨bj,bq,br,bu,b6,bl,bm,bn,hf,o,cR⟩
    obtain ⟨e5,rfl⟩:=iA _ _ hf
    clear hf
    subst cR
    replace p:=gi p
    replace p:=pi (mG (mG p))
    refine q (g (s (xi r) (n ?_)))
    obtain ⟨cS,a5,p⟩:=bs p
    refine oq (fun f w=>∃ (aY:Int)(aj:List Gr) (aL:Int)(aM:Int)(aN:Int)(J:List Gn) (ak:List (List Gv)) (al:List Gi) (am:List Int),Has f [(0,Pt S),(2,Pt b1),(77,Z c J j),(78,V (I.length:Int)),(79,V a2)]∧Bx w0 w e4 G [.box bO 82 #[T R.b,V R.f,Z aH R.a aI,Z aJ R.e aK],.box b1 26 #[Z a H.a.a.a b,Z c J j],.box S 115 #[Z a aj b,Z c J j,Z t ak u,Z v al x,V aL,Z z am A,V aM,V aN],O K c j 82 Gn B,O L t u 60 (List Gv) (m.map Rw.hdr),.qX M 59 (sz Gv) m none,O N v x 65 Gi C,O Q z A 3 Int D] [.l a b aj,.l aJ aK R.e,.l aH aI R.a,.l a b H.a.a.a,.els B J,.mU m ak,.els C al,.els D am]∧Ld.go (aY,aj,aL,aM,aN,J,ak,al,am)=cS) (fun dQ cT=>?_) ?_
    ·refine oM (kM (fun e6 f w=>∃ (aY:Int)(aj:List Gr) (aL:Int)(aM:Int)(aN:Int)(J:List Gn) (ak:List (List Gv)) (al:List Gi) (am:List Int),Has f [(0,Pt S),(2,Pt b1),(8,V a2),(9,Pt bO),(10,V aY),(77,Z c J j),(78,V (I.length:Int)),(79,V a2)]∧Bx w0 w e4 G [.box bO 82 #[T R.b,V R.f,Z aH R.a aI,Z aJ R.e aK],.box b1 26 #[Z a H.a.a.a b,Z c J j],.box S 115 #[Z a aj b,Z c J j,Z t ak u,Z v al x,V aL,Z z am A,V aM,V aN],O K c j 82 Gn B,O L t u 60 (List Gv) (m.map Rw.hdr),.qX M 59 (sz Gv) m none,O N v x 65 Gi C,O Q z A 3 Int D] [.l a b aj,.l aJ aK R.e,.l aH aI R.a,.l a b H.a.a.a,.els B J,.mU m ak,.els C al,.els D am]∧qU fu a2 R e6 aY aj aL aM aN J ak al am=some cS) fu ⟨0,bj,bq,br,bu,b6,bl,bm,bn,⟨r,r,r,r,r,r,r,r,y⟩,o,a5⟩ ?_)
     clear o a5
     rintro bS f w ⟨aY,aj,aL,aM,aN,J,ak,al,am,hf,o,a5⟩ dR c1
     obtain ⟨e5,rfl⟩:=iA _ _ hf
     clear hf
     cases bS with
     | zero=>exact nn a5
     | succ bS=>
      rw [qU] at a5
      refine q (q (g (s (mi r) (s (mi r) (s (qo r r) (n ?_))))))
      rcases iv a5 with ⟨cj,a5⟩|⟨cj,a5⟩
      ·refine jN (bt cj) (wk (q (oM (q ?_))))
       obtain ⟨cU,bJ,a5⟩:=bs a5
       obtain ⟨dS,cV,bJ⟩:=kJ bJ
       obtain ⟨dq,cW,cX⟩:=(o.de 4 rfl).get bJ
       obtain ⟨ck,cm,cn,co,rfl,cp,cq⟩:=lI.out cX
       replace o:=o.ku (d:=.l ck cm cU.a) cp
       replace o:=o.ku (d:=.l cn co cU.e) cq
       refine pX o [0,1,3] [0,1,6] [] (by kernel_rfl) ?_
       replace o:=o.drew
       have hs:=(o.ad [0,1,3] [0,1,6])
       refine pF 0 r (Af r) hs (uF 1 r (fun hS=>OJ r (hS.bk 1 r) r) hs (pF 2 r (mi r) hs (pF 3 r (kW Cq nY r r cV (o.vw 3 6 r r) bJ) hs (pF 4 r (JY r) hs (uF 5 r (fun hS=>jT uq r r ((hS.oc 2 2 r r cW) 0 _ r)) hs (pF 6 r (JY r) hs (uF 7 r (fun hS=>l9 r (hS.bk 0 r) r) hs (pF 8 r (rR r r) hs (hD ?_)))))))))
       rcases iv a5 with ⟨cr,a5⟩|⟨cr,a5⟩
       ·refine jN (bt cr) (g (s (mp r) (s (Ng r) (s (l3 r (o.bk 0 r) r) ?_))))
        obtain ⟨aZ,dg,a5⟩:=bs a5
        have hc:=(mZ fu) (o.pr [2,3,4,5,6,7] [0,1] [2,6,7,8,9] r) (o.le b7) (o.le b8) (o.le b9) (o.le ba) (o.le bb) dg
        refine sc (ec yZ r) hc ?_
        rintro _ dT ⟨rfl,hK⟩
        replace o:=o.cn [2,3,4,5,6,7] [0,1] hK
        have c2:J.length=aZ.a.a.b.length:=(o.de 11 r).len.symm.trans (o.de 1 r).len
        try dsimp only [Z] at o
        try rw [c2] at o
        try dsimp only [Z]
        try rw [c2]
        exact n (g (s (mi r) (s (kE r r) (s (xi r) (n (c1 bS _ _ (Nat.lt_succ_self _) ⟨(wr (aY+1)),aZ.a.a.a,aZ.f,aZ.c,aZ.e,aZ.a.a.b,aZ.a.c,aZ.a.b,aZ.b,⟨r,r,r,r,r,r,r,r,y⟩,(o.ad [6,7,0,1,2,3,4,5] [0,8,9,10,1,2,3,4]),a5⟩))))))
       exact jK (bf cr) (wk (g (s (mi r) (s (kE r r) (s (xi r) (n (c1 bS _ _ (Nat.lt_succ_self _) ⟨(wr (aY+1)),aj,aL,aM,aN,J,ak,al,am,⟨r,r,r,r,r,r,r,r,y⟩,(o.dp [2,3,4,5,6,7,8,9]),a5⟩)))))))
      exact jK (bf cj) (tT (cT _ _ ⟨aY,aj,aL,aM,aN,J,ak,al,am,⟨r,r,r,r,r,y⟩,o,sm a5⟩))
    clear o
    rintro f w ⟨aY,aj,aL,aM,aN,J,ak,al,am,hf,o,cY⟩
    obtain ⟨e5,rfl⟩:=iA _ _ hf
    clear hf
    subst cY
    replace p:=gi p
    replace p:=Bh (mG (mG p))
    exact g (s (kE r r) (s (mi r) (n (cN cd _ _ (Nat.lt_succ_self _) ⟨(wr (a2+1)),aj,aL,aM,aN,J,ak,al,am,⟨r,r,r,r,r,y⟩,(o.ad [1,2,3,4,5,6,7] [0,3,4,5,6,7]),p⟩))))
   exact jK (bf ce) (tT (cM _ _ ⟨a2,an,aU,aV,aW,X,ao,ap,aq,y,o,sm p⟩))
 clear o
 rintro f w ⟨a2,an,aU,aV,aW,X,ao,ap,aq,hf,o,cZ⟩
 obtain ⟨e5,rfl⟩:=iA _ _ hf
 clear hf
 subst cZ
 replace hM:=gi hM
 replace hM:=Bh (mG (mG hM))
 obtain rfl:=sm hM
 exact ze (P:=Try.prog) (fn:=Try.f48) r ⟨r,(o.ad [1,2,3,4,5,6] [0,2,3,4,5])⟩
end
end Go.Proofs.Ytfglbdkfnphjgaa
