/- Contracts, printed by gen3.py. -/
import Derived.Test.YtfglbdkfnphjgaaGreatZ4
import Derived.Test.YtfglbdkfnphjgaaGreatLa
import Derived.Test.YtfglbdkfnphjgaaGreatZ16
import Derived.Test.YtfglbdkfnphjgaaGreatZ17
import Derived.Test.YtfglbdkfnphjgaaGreatZ11
import Derived.Test.YtfglbdkfnphjgaaGreatZ7
import Derived.Test.YtfglbdkfnphjgaaGreatPf
set_option linter.unusedVariables false
set_option maxHeartbeats 12800000
set_option linter.unusedSimpArgs false
set_option maxRecDepth 4000
namespace Go.Proofs.YtfglbdkfnphjgaaGreat
open Go.RowKit Go.Fw Go.Proofs.Tryz
noncomputable section
def Fh (m:jL->Int->Int->Option (List Int)):Prop:=∀ {t:World}{A}{p:jL}{x z a b c d e f h i u},Pre t A [] [.l a b p.a.a,.l c d p.a.b,.l e f p.c,.l h i p.b]->m p x z=some u-> Calls prog 110 #[.agg #[Z a p.a.a b,Z c p.a.b d,Z e p.c f,Z h p.b i],V x,V z] t (pU fun v w=>∃ j k o,v=Z j u k/\Bx t w A (lH []) [O t.heap.size j k 3 Int o] [.els o u])
def lg (fu:Nat)(b:Int):List Gv→Nat→(List Int)→Option (Ld (List Int) ((List Int)))
 | [],_,a=>some (.go a)
 | f :: d,c,a=>
 if f.e≤b then
  if b≤f.g then
   (app a ([(c:Int)]:List Int)).bind fun e=>
   lg fu b d (c+1) e
  else
   lg fu b d (c+1) a
 else
  lg fu b d (c+1) a
def jD (fu:Nat)(c:jL)(b d:Int):Option (List Int):=if b < 0 then some ([]:List Int) else if (c.c.length:Int)<=b then some ([]:List Int) else (ix c.c b).bind fun e=>(lg fu d e 0 ([]:List Int)).bind fun f=>f.el (fun a=>some a) (fun o=>some o)
theorem Fb (fu:Nat):Fh (jD fu):=by
 intro S au U x1 W A B C D E F H I r0 hP p;unfold jD at p;have e:=hP.bx;clear hP;generalize hG:lH _=G at e ⊢;refine cf func110 r ?_;refine lG [(0,.agg #[Z A U.a.a B,Z C U.a.b D,Z E U.c F,Z H U.b I]),(1,V x1),(2,V W)] ⟨r,r,r,y⟩ fun av=>?_;refine q (g (nW (nD e (uK r)) ?_));rintro _ w1 ⟨b1,rfl,e⟩;refine s (mh r) (n (q (q (g (s (mi r) (s (qC r r) (s (kV r) ?_)))))));rcases iv p with ⟨X,p⟩|⟨X,p⟩
 ·rw [um X];refine jM r (jM r (jM r (jM r (jM r (s (kP r r) (n (jN r (q (g (s (mh r) (n (kH ?_))))))))))));replace e:=e.Cy Int 3;obtain rfl:=sm p;refine jC r (kL r) ?_;exact ⟨none,0,[],r,e.ad [0] [0]⟩
 rw [uO X];refine kG r (s (mi r) (kG r (s (Ck r) (kG r (s (Si r (e.bk 0 r) r) (kG r (s (lT F7 r) (kG r (s (CF r r) (s (ko r r) (n ?_)))))))))));rcases iv p with ⟨Y,p⟩|⟨Y,p⟩
 ·refine jN (bt Y) (q (g (s (mh r) (n (kH ?_)))));replace e:=e.Cy Int 3;obtain rfl:=sm p;refine jC r (kL r) ?_;exact ⟨none,0,[],r,e.ad [0] [0]⟩
 refine jK (bf Y) (wk (q (g (s (mh r) (n (q (q (g (s (Ck r) (s (Si r (e.bk 0 r) r) (s (mi r) ?_)))))))))));obtain ⟨u,z,p⟩:=bs p;obtain ⟨k6,a0,z⟩:=kN z;obtain ⟨ab,a1,e⟩:=e.nm 2 rfl z;obtain ⟨v,x,rfl,N⟩:=a1;replace e:=e.kF (d:=.l v x u) N;refine s (kY F7 Gq r r a0 (e.dl 4 r) z) (s (jV CJ r r ((e.dc 1 r) 0 _ r)) (s (lT CJ r) (s (mi r) (n ?_))));replace e:=e.Cy Int 3;have ac:=(e.dl 1 r).bd;obtain ⟨Y8,m,p⟩:=bs p;refine qR (fun f w=>∃ j a b c,Has f [(7,Z a j b)]/\Bx S w au G [O S.heap.size a b 3 Int c] [.els c j,.l v x u]/\Ld.go j=Y8) (fun J8 a2=>?_) ?_
 ·refine pG (kK (fun aw f w=>∃ t j a b c,aw=u.length - t/\t<=u.length/\Has f [(25,V (t:Int)),(2,V W),(7,Z a j b),(23,Z v u x),(24,V (u.length:Int))]/\Bx S w au G [O S.heap.size a b 3 Int c] [.els c j,.l v x u]/\lg fu W (u.drop t) t j=some Y8) u.length ⟨0,([]:List Int),none,0,[],r,uy _,⟨r,r,r,r,r,y⟩,e.ad [0] [0,1],m⟩ ?_);clear e m;rintro aw f w ⟨t,j,a,b,c,rfl,ae,hf,e,m⟩ K8 J;obtain ⟨av,rfl⟩:=mZ hf;rcases yZ t u.length with Q | Q
  ·obtain ⟨o,K⟩:=lZ (l:=u) Q;rw [mD K,lg] at m;refine q (g (s (vI r r (by omega)) (n (q (jN r (wk (q (pG (q (g (s (mi r) (s (kY CJ za r r r (e.dl 1 r) K) (s (nA [T o.b,V o.c,V o.d,V o.a,.bool o.f,V o.e,V o.g] IW r za r r (uo (ds:=[T o.b,V o.c,V o.d,V o.a,.bool o.f,V o.e,V o.g]) (e.dl 1 r) K (fun _ h=>h))) ?_)))))))))))));refine nW (nD e (jT za)) ?_;rintro _ af ⟨ag,rfl,e⟩;refine s (xi r) (lD (tb e 0 [T o.b,V o.c,V o.d,V o.a,.bool o.f,V o.e,V o.g] r za r r r r r (show _=#[T o.b,V o.c,V o.d,V o.a,.bool o.f,V o.e,V o.g] from r)) ?_);intro ah e;try dsimp only [List.set] at e
   refine n (q (g (s (XH r) (s (l3 r (e.bk 0 r) r) (s (mi r) (s (M4 r r) (s (kV r) ?_)))))));rcases iv m with ⟨L,m⟩|⟨L,m⟩
   ·rw [um L];refine kG r (s (mi r) (kG r (s (Oz r) (kG r (s (l3 r (e.bk 0 r) r) (kG r (s (M4 r r) (s (kP r r) (n ?_)))))))));rcases iv m with ⟨M,m⟩|⟨M,m⟩
    ·refine jN (bt M) (g (s (mK r) (s (mi r) (nW (jO e [[V (t:Int)]] ([(t:Int)]:List Int) (yR r) r r (by decide) ⟨r,y⟩) ?_))));rintro _ ai ⟨aj,rfl,e⟩;obtain ⟨a3,R,m⟩:=bs m;refine nW (kR e 2 1 r r ru ny r (by decide) (by decide) (oH _) r r (e.AR 0 0 r r) R) ?_;rintro _ ak ⟨a4,a5,a6,rfl,e⟩;refine s (mh r) (n (g (s (nH r r (by omega) (by omega)) (s (mi r) (n ?_)))));exact J (u.length - (t+1)) _ _ (by omega) ⟨t+1,a3,a4,a5,a6,r,by omega,⟨r,r,r,r,r,y⟩,e.ad [2] [1,2],m⟩
    refine jK (bf M) (wk (g (s (nH r r (by omega) (by omega)) (s (mi r) (n ?_)))));exact J (u.length - (t+1)) _ _ (by omega) ⟨t+1,j,a,b,c,r,by omega,⟨r,r,r,r,r,y⟩,e.arr [1] r,m⟩
   rw [uO L];refine jM r (jM r (jM r (jM r (s (ko r r) (n (jK r (wk (g (s (nH r r (by omega) (by omega)) (s (mi r) (n ?_)))))))))));exact J (u.length - (t+1)) _ _ (by omega) ⟨t+1,j,a,b,c,r,by omega,⟨r,r,r,r,r,y⟩,e.arr [1] r,m⟩
  obtain rfl:t=u.length:=by omega
  rw [lW,lg] at m;refine q (g (s (vH r r (by omega)) (n (q (jK r (uS ?_))))));exact a2 _ _ ⟨j,a,b,c,⟨r,y⟩,e,sm m⟩
 clear e;rintro f w ⟨j,a,b,c,hf,e,a7⟩;obtain ⟨av,rfl⟩:=mZ hf;subst a7;replace p:=gi p;refine q (g (s (mK r) (s (mh r) (n (kH ?_)))));obtain rfl:=sm p;refine jC r (kL r) ?_;exact ⟨a,b,c,r,e.dp [0]⟩
def L6 (m:(List Int)->Option (List Int)):Prop:=∀ {f:World}{j h a b i},Pre f j [] [.l a b h]->m h=some i-> Calls prog 111 #[Z a h b] f (pU fun v w=>∃ c d e,v=Z c i d/\Bx f w j (lH []) [O f.heap.size c d 3 Int e] [.els e i])
def DX (fu:Nat)(a:(List Int)):Option (List Int):=(app ([]:List Int) a).bind fun b=>some b
theorem Mc (fu:Nat):L6 (DX fu):=by
 intro o x j a c p h d;unfold DX at d;have b:=h.bx;clear h;generalize t:lH _=G at b ⊢;refine cf func111 r ?_;refine lG [(0,Z a j c)] ⟨r,y⟩ fun z=>?_;refine q (g (s (mh r) (n (q (q (g (s (mK r) (s (YE ru r r) (n ?_)))))))));rcases Classical.em (a=none) with f | f
 ·refine jN (bt f) (q (g (s (mh r) (n (kH ?_)))));replace b:=b.Cy Int 3;have hz:=(b.dl 1 r).YK f;subst hz;obtain ⟨i,e,d⟩:=bs d;obtain rfl:=sm d;obtain rfl:i=[]:=(qG e).2.symm;refine jC r (kL r) ?_;exact ⟨none,0,[],r,b.dp [0]⟩
 refine jK (bf f) (wk (q (g (nW (jO b [] ([]:List Int) FZ r r (by decide) y) ?_))));rintro _ u ⟨v,rfl,b⟩;refine s (mK r) ?_;obtain ⟨i,e,d⟩:=bs d;refine nW (kR b 0 0 r r ru ny r (by decide) (by decide) (oH _) r r (b.ysD 1 r) e) ?_;rintro _ w ⟨k,l,m,rfl,b⟩;refine s (mh r) (n (kH ?_));obtain rfl:=sm d;refine jC r (kL r) ?_;exact ⟨k,l,m,r,b.dp [0]⟩
end
def IZ (i:Int):List jy→Nat→List Int
 | [],_=>[]
 | x :: r,k=>if x.e<=i/\i<=x.g then (k:Int) :: IZ i r (k+1) else IZ i r (k+1)
theorem OI {i:Int}:∀ (r:List jy)(k:Nat),(IZ i r k).length≤r.length
 | [],_=>oH _
 | x :: r,k=>by
  have h:=OI (i:=i) r (k+1);unfold IZ;split
  · exact Nat.succ_le_succ h
  · exact Nat.le_succ_of_le h
theorem O8 {i q:Int}:∀ (r:List jy)(k:Nat),q ∈ IZ i r k→∃ (j:Nat)(x:jy),q=((k+j:Nat):Int)∧r[j]?=some x∧x.e≤i∧i≤x.g
 | [],_,h=>by cases h
 | x :: r,k,h=>by
  unfold IZ at h;have go:q ∈ IZ i r (k+1)->∃ (j:Nat)(y:jy),q=((k+j:Nat):Int)/\(x :: r)[j]?=some y/\y.e<=i/\i<=y.g:=fun h=>by obtain ⟨j,y,h1,h2,h3⟩:=O8 r (k+1) h;exact ⟨j+1,y,by omega,h2,h3⟩
  by_cases c:x.e<=i/\i<=x.g
  · rw [kg c] at h;rcases qK.1 h with h | h
    · exact ⟨0,x,h,rfl,c⟩
    · exact go h
  · rw [jR c] at h;exact go h
theorem FH {fu:Nat}{i:Int}:∀ (r:List jy)(k:Nat)(acc:List Int),acc.length+r.length≤1000000000→lg fu i r k acc=some (.go (acc ++ IZ i r k))
 | [],k,acc,_=>by rw [lg,IZ,vJ]
 | x :: r,k,acc,h=>by
  rw [tT] at h;rw [lg,IZ];by_cases c1:x.e<=i
  · by_cases c2:i<=x.g
    · rw [kg c1,kg c2,kg ⟨c1,c2⟩];have:app acc [((k:Nat):Int)]=some (acc ++ [((k:Nat):Int)]):=kg (by simp only [tT,uR];omega);rw [this];show lg fu i r (k+1) (acc ++ [((k:Nat):Int)])=_;rw [FH r (k+1) _ (by simp only [Dk,tT,uR];omega),Em];rfl
    · rw [kg c1,jR c2,jR fun z=>c2 z.2];exact FH r (k+1) acc (by omega)
  · rw [jR c1,jR fun z=>c1 z.1];exact FH r (k+1) acc (by omega)
def MH (s:jL)(f i:Int):List Int:=if f < 0 then [] else match s.c[f.toNat]? with
 | none=>[]
 | some V=>IZ i V 0
theorem Sj {fu:Nat}{s:jL}{f i:Int}(h:∀ V ∈ s.c,V.length<=24):jD fu s f i=some (MH s f i):=by
 unfold jD MH;by_cases c:f < 0
 · rw [kg c,kg c]
 rw [jR c,jR c];by_cases d:(s.c.length:Int)<=f
 · rw [kg d,List.getElem?_eq_none (by omega)]
 rw [jR d];obtain ⟨V,hV⟩:=lZ (l:=s.c) (k:=f.toNat) (by omega);have:ix s.c f=some V:=by unfold Go.Fw.ix;rw [jR (by omega),hV]
 rw [this,hV];show (lg fu i V 0 []).bind _=_;rw [FH V 0 [] (by have:=h V (wC hV);rw [uR];omega),Gg];rfl
theorem Uf {s:jL}{f i:Int}{j:Nat}{q:Int}(h:(MH s f i)[j]?=some q):0<=f/\f < s.c.length/\∃ V x,s.c[f.toNat]?=some V/\0<=q/\q < V.length/\V[q.toNat]?=some x/\x.e<=i/\i<=x.g:=by
 unfold MH at h;by_cases c:f < 0
 · rw [kg c] at h;cases h
 rw [jR c] at h;cases hV:s.c[f.toNat]? with
 | none=>rw [hV] at h;cases h
 | some V=>
   rw [hV] at h;have hl:=jU hV;obtain ⟨j,x,h1,h2,h3⟩:=O8 V 0 (wC h);have hx:=jU h2;exact ⟨by omega,by omega,V,x,rfl,by omega,by omega,by rw [h1];simpa using h2,h3⟩
theorem Po {s:jL}{f i:Int}(h:∀ V ∈ s.c,V.length<=24):(MH s f i).length<=24:=by
 unfold MH;split
 · exact uy _
 · split
   · exact uy _
   · next V hV=>exact q9 (OI V 0) (h V (wC hV))
structure CI (s:jL):Prop where
 vn:∀ V ∈ s.c,V.length<=24
 fx:∀ f ∈ s.a.b,FX f
abbrev Yes {α:Type}(x:Option α):Prop:=kS x (fun _=>True)
theorem P9 {α β:Type}{p:Pn α}{f:α->Option (Pn β)}(h:∀ a,p=.ok a->Yes (f a)):Yes (p.then f):=by
 cases p with
 | ok a=>exact h a rfl
 | _=>exact .mk lF
theorem acj {ev:jA->Option (Pn Int)}{ws:List (List Int)}{e:jA}(h:∀ y ∈ e.a,Yes (ev y)):Yes (O4 ev ws e):=by
 unfold O4;cases ix? ws e.g with
 | none=>exact .mk lF
 | some l=>
  dsimp only;refine .ite (fun _=>.mk lF) fun _=>.ite (fun _=>?_) fun _=>.mk lF;cases hA:e.a with
  | nil=>exact .mk lF
  | cons x r=>exact .bd (h x (by rw [hA];exact .head _)) fun p _=>P9 fun i _=>.mk lF
theorem VQ:∀ (fu n:Nat)(ws:List (List Int))(e:jA),zm n e→n≤fu→Yes (xD fu ws e)
 | 0,n,ws,e,h,hn=>by
  obtain rfl:n=0:=by omega
  exact h.elim
 | fu+1,n,ws,e,h,hn=>by
  cases n with
  | zero=>exact h.elim
  | succ n=>
  have ih:∀ y ∈ e.a,Yes (xD fu ws y):=fun y hy=>VQ fu n ws y (h.2 y hy) (by omega);rw [xD];refine .ite (fun _=>.mk lF) fun _=>.ite (fun _=>.bd (acj ih) fun p _=>P9 fun q _=>.mk lF) fun _=>?_;cases hA:e.a with
  | nil=>exact .ite (fun _=>.mk lF) fun _=>.ite (fun _=>.mk lF) fun _=>.mk lF
  | cons x l=>
   rw [hA] at ih;have hx:=ih x (.head _);refine .ite (fun _=>.bd hx fun p _=>P9 fun n _=>.mk lF) fun _=>.ite (fun _=>.bd hx fun p _=>P9 fun n _=>.mk lF) fun _=>.bd hx fun p _=>P9 fun n _=>?_;cases l with
   | nil=>exact .mk lF
   | cons y r=>exact .bd (ih y (.tail _ (.head _))) fun p _=>P9 fun m _=>.mk lF
theorem X4 {ev:jA→Option (Pn Int)}:∀ (l:List jA)(acc:List Int),(∀ y ∈ l,Yes (ev y))→acc.length+l.length≤1000000000→Yes (zq ev l acc)
 | [],acc,_,_=>.mk lF
 | x :: l,acc,h,hn=>by
  rw [tT] at hn;rw [zq];exact .bd (h x (.head _)) fun p _=>P9 fun n _=>.bd (.app (by simp only [tT,uR];omega)) fun r hr=>by subst hr;exact X4 l _ (fun y hy=>h y (.tail _ hy)) (by rw [kM];omega)
section
variable {s:jL}
def Fit (s:jL)(g:qx):Prop:=0<=g.f/\∃ V,s.c[g.f.toNat]?=some V/\g.ws.map List.length=V.map (fun x=>x.a.toNat)/\∀ x ∈ V,0<=x.a/\x.a<=8
theorem Fit.put {f st st':Int}{ws:List (List Int)}{k:Nat}{l l':List Int}(h:Fit s ⟨f,st,ws⟩)(hk:ws[k]?=some l)(hl:l'.length=l.length):Fit s ⟨f,st',ws.set k l'⟩:=by obtain ⟨h0,V,h1,h2,h3⟩:=h;refine ⟨h0,V,h1,?_,h3⟩;rw [<-h2,List.map_set];exact set_self (by rw [BR,hk,hl];rfl)
theorem Fit.word {f st:Int}{ws:List (List Int)}{p:Nat × Nat}{v:Int}(h:Fit s ⟨f,st,ws⟩):Fit s ⟨f,st,setW ws p v⟩:=by
 unfold setW;cases hk:ws[p.1]? with
 | none=>rw [List.set_eq_of_length_le (List.getElem?_eq_none_iff.1 hk)];exact h
 | some l=>exact h.put hk (by rw [wV,Gb,hk];rfl)
def shO (ws:List (List Int))(v:Int):qO:=⟨v,List.replicate (ws.getD v.toNat []).length true,ws.getD v.toNat []⟩
def frO (s:jL)(g:qx):nK:=⟨g.f,g.st,(MH s g.f g.st).map (shO g.ws)⟩
theorem TU {ws:List (List Int)}:∀ (l:List Int)(acc:List qO),(∀ v ∈ l,0≤v∧v < ws.length)→acc.length+l.length≤1000000000→SE ws l acc=some (acc ++ l.map (shO ws))
 | [],acc,_,_=>by rw [SE,List.map_nil,vJ]
 | v :: l,acc,h,hn=>by
  rw [tT] at hn;have hv:=h v (.head _);obtain ⟨row,hr⟩:=lZ (l:=ws) (k:=v.toNat) (by omega);have h1:ix? ws v=some row:=by unfold ix?;rw [jR (by omega),hr]
  have h2:ws.getD v.toNat []=row:=by rw [Gb,hr];rfl
  rw [SE,h1];show (app acc [_]).bind _=_;unfold Go.Fw.app;rw [kg (by simp only [tT,uR];omega)];show SE ws l _=_;rw [TU l _ (fun y hy=>h y (.tail _ hy)) (by rw [kM];omega),List.map_cons,Em];unfold shO;rw [h2];rfl
theorem Fit.vis {g:qx}(h:Fit s g){v st:Int}(hv:v ∈ MH s g.f st):0<=v/\v < g.ws.length:=by obtain ⟨h0,V,h1,h2,h3⟩:=h;obtain ⟨j,hj⟩:=Ik hv;obtain ⟨_,_,V',x,hV',q0,q1,_⟩:=Uf hj;rw [h1] at hV';cases hV';have:=congrArg List.length h2;rw [xR,xR] at this;omega
variable (hv:∀ V ∈ s.c,V.length<=24)
include hv
theorem Z4 {fu:Nat}{g:qx}(h:Fit s g):YX (jD fu s) g=some (frO s g):=by unfold YX;rw [Sj hv];show (SE g.ws (MH s g.f g.st) []).bind _=_;rw [TU _ _ (fun v h'=>h.vis h') (by have:=Po (f:=g.f) (i:=g.st) hv;simp only [uR];omega)];rfl
theorem Uh {fu:Nat}:∀ (l:List qx)(acc:List nK),(∀ g ∈ l,Fit s g)→acc.length+l.length≤1000000000→VN (jD fu s) l acc=some (acc ++ l.map (frO s))
 | [],acc,_,_=>by rw [VN,List.map_nil,vJ]
 | g :: l,acc,h,hn=>by rw [tT] at hn;rw [VN,Z4 hv (h g (.head _))];show (app acc [_]).bind _=_;unfold Go.Fw.app;rw [kg (by simp only [tT,uR];omega)];show VN _ l _=_;rw [Uh l _ (fun y hy=>h y (.tail _ hy)) (by rw [kM];omega),List.map_cons,Em];rfl
omit hv in
def VU (s:jL)(rest:List qx)(S:Sg)(id:Int):Sg:=⟨⟨S.a.f,id,S.a.ws⟩,S.hist ++ [⟨((⟨S.a.f,id,S.a.ws⟩:qx) :: rest).map (frO s)⟩],S.out⟩
theorem Oj {fu N:Nat}{rest:List qx}{S:Sg}{id:Int}(h:Fit s S.a)(hr:∀ g ∈ rest,Fit s g)(hn:rest.length<=20) :event (jD fu s) N rest S id=if N<=S.hist.length then some (.err 13,S) else some (.ok (),VU s rest S id):=by
 unfold event;split
 · rfl
 · rw [Uh hv _ _ (fun g hg=>by
    rcases qK.1 hg with rfl | hg
    · exact h
    · exact hr g hg) (by simp only [tT,uR];omega)]
   rfl
end
theorem ixr {α:Type}{l:List α}{i:Int}{x:α}(h:ix? l i=some x):∃ k:Nat,i=(k:Int)/\l[k]?=some x:=by
 unfold ix? at h;split at h
 · cases h
 · exact ⟨i.toNat,by omega,h⟩
def QE (s:jL)(e:kC):Prop:=∃ gs:List qx,e.a=gs.map (frO s)/\gs.length<=20/\∀ g ∈ gs,Fit s g
structure SA (s:jL)(N:Nat)(S:Sg):Prop where
 hl:S.hist.length<=N
 ol:S.out.length<=S.hist.length
 fit:Fit s S.a
 ev:∀ e ∈ S.hist,QE s e
structure Nw (s:jL)(N:Nat)(S S':Sg):Prop where
 gd:SA s N S'
 hp:S.hist <+: S'.hist
 op:S.out <+: S'.out
theorem Nw.rfl' {s:jL}{N:Nat}{S:Sg}(h:SA s N S):Nw s N S S:=⟨h,Dm,Dm⟩
theorem Nw.trans {s:jL}{N:Nat}{S S1 S2:Sg}(h:Nw s N S S1)(k:Nw s N S1 S2):Nw s N S S2:=⟨k.gd,h.hp.trans k.hp,h.op.trans k.op⟩
theorem NV {ev:jA->Option (Pn Int)}{l:List jA}{S:Sg}{β:Type}{k:Int->Option (Pn β × Sg)}{P:Pn β × Sg->Prop}(h:∀ y ∈ l,Yes (ev y))(hp:∀ p,P (p,S))(hk:∀ n,kS (k n) P):kS (one ev l S k) P:=by
 unfold one;cases l with
 | nil=>exact .mk (hp _)
 | cons x l=>
  refine .bd (h x (.head _)) fun p _=>?_;cases p with
  | ok n=>exact hk n
  | _=>exact .mk (hp _)
theorem VH {ev:jA->Option (Pn Int)}{ws:List (List Int)}{l:List jA}{S:Sg}{β:Type}{k:Nat × Nat->Option (Pn β × Sg)}{P:Pn β × Sg->Prop}(h:∀ y ∈ l,Yes (O4 ev ws y))(hp:∀ p,P (p,S))(hk:∀ n,kS (k n) P):kS (Kh ev ws l S k) P:=by
 unfold Kh;cases l with
 | nil=>exact .mk (hp _)
 | cons x l=>
  refine .bd (h x (.head _)) fun p _=>?_;cases p with
  | ok n=>exact hk n
  | _=>exact .mk (hp _)
theorem VD:∀ (l:List jy)(acc:List (List Int)),acc.length+l.length≤1000000000→kS (BP l acc) (fun p=>∀ ws,p=.ok ws→ws.map List.length=acc.map List.length ++ l.map (fun x=>x.a.toNat)∧∀ x ∈ l,0≤x.a∧x.a≤8)
 | [],acc,_=>.mk fun ws h=>by cases h;exact ⟨by rw [List.map_nil,vJ],fun x hx=>by cases hx⟩
 | v :: l,acc,hn=>by
  rw [tT] at hn;rw [BP];refine .ite (fun _=>.mk fun ws h=>by cases h) fun c=>.bd (.app (by simp only [tT,uR];omega)) fun r hr=>?_;subst hr;refine (VD l _ (by rw [kM];omega)).imp fun p hp ws hw=>?_;obtain ⟨h1,h2⟩:=hp ws hw;refine ⟨by rw [h1,List.map_append,Em];simp,fun x hx=>?_⟩;rcases qK.1 hx with rfl | hx
  · omega
  · exact h2 x hx
theorem QT:∀ (l:List Int)(i:Nat)(ws ws':List (List Int)),Dv l i ws=.ok ws'→ws'.map List.length=ws.map List.length
 | [],_,ws,ws',h=>by cases h;rfl
 | v :: l,i,ws,ws',h=>by
  rw [Dv] at h;cases hw:ws[i]? with
  | none=>rw [hw] at h;cases h
  | some row=>
   rw [hw] at h;cases row with
   | nil=>cases h
   | cons z row=>
    rw [QT l _ _ ws' h,List.map_set];exact set_self (by rw [BR,hw];rfl)
section
variable {s:jL}{N:Nat}
theorem YZ {sm:Sm}{M n:Nat}(hS:∀ S x,M≤S.hist.length→SA s N S→Ie n x→kS (sm S x) (fun r=>Nw s N S r.2)):∀ (l:List jI)(S:Sg),M≤S.hist.length→SA s N S→(∀ y ∈ l,Ie n y)→kS (EJ sm S l) (fun r=>Nw s N S r.2)
 | [],S,_,h,_=>.mk (.rfl' h)
 | x :: l,S,hM,h,hl=>by
  rw [EJ];refine .bd (hS S x hM h (hl x (.head _))) fun r hr=>?_;obtain ⟨p,S1⟩:=r;have k:=YZ hS l S1 (q9 hM hr.hp.length_le) hr.gd (fun y hy=>hl y (.tail _ hy));cases p with
  | ok o=>
   cases o with
   | none=>exact k.imp fun r h=>hr.trans h
   | some v=>exact .mk hr
  | _=>exact .mk hr
structure Cl (s:jL)(N:Nat)(hist:List kC)(out:List Int)(h:List kC)(o:List Int):Prop where
 hl:h.length<=N
 ol:o.length<=h.length
 ev:∀ e ∈ h,QE s e
 hp:hist <+: h
 op:out <+: o
theorem VI (hs:CI s){sm:List qx->Sm}{stk:List qx}{f:Int}{args:List Int}{hist:List kC}{out:List Int}(h1:hist.length<=N)(h2:out.length<=hist.length)(h3:∀ e ∈ hist,QE s e)(hS:stk.length<=19->∀ S x n,n<=10->hist.length<=S.hist.length->SA s N S->Ie n x->kS (sm stk S x) (fun r=>Nw s N S r.2)):kS (AB sm s stk f args hist out) (fun r=>Cl s N hist out r.2.1 r.2.2):=by
 have hC:Cl s N hist out hist out:=⟨h1,h2,h3,Dm,Dm⟩;unfold AB;refine .ite (fun _=>.mk hC) fun c=>?_;cases hV:ix? s.c f with
 | none=>exact .mk hC
 | some vars=>
 obtain ⟨k,rfl,hk⟩:=ixr hV;have h24:=hs.vn vars (wC hk);refine .bd (VD vars [] (by simp only [uR];omega)) fun p hp=>?_;cases p with
 | ok ws=>
  obtain ⟨h4,h5⟩:=hp ws rfl;cases hA:Dv args 0 ws with
  | ok ws'=>
   simp only [hA];cases hF:ix? s.a.b (k:Int) with
   | none=>exact .mk hC
   | some fn=>
    obtain ⟨k2,_,hk2⟩:=ixr hF;have hfit:Fit s ⟨(k:Int),0,ws'⟩:=⟨Int.natCast_nonneg k,vars,by dsimp only;rw [Int.toNat_natCast];exact hk,by dsimp only;rw [QT _ _ _ _ hA,h4];rfl,h5⟩;refine .bd (YZ (M:=hist.length) (n:=10) (fun S x=>hS (by omega) S x 10 (oH _)) fn.e ⟨⟨(k:Int),0,ws'⟩,hist,out⟩ (oH _) ⟨h1,h2,hfit,h3⟩ (hs.fx fn (wC hk2))) fun r hr=>?_;exact .mk ⟨hr.gd.hl,hr.gd.ol,hr.gd.ev,hr.hp,hr.op⟩
  | _=>simp only [hA];exact .mk hC
 | _=>exact .mk hC
theorem Uq {rest:List qx}{S:Sg}{id:Int}(h:SA s N S)(hr:∀ g ∈ rest,Fit s g)(hn:rest.length<=19)(hN:S.hist.length < N):Nw s N S (VU s rest S id):=by
 have hf:Fit s ⟨S.a.f,id,S.a.ws⟩:=h.fit;refine ⟨⟨by unfold VU;rw [kM];omega,by unfold VU;rw [kM];exact Nat.le_succ_of_le h.ol,hf,oL h.ev ⟨_,rfl,by rw [tT];omega,fun g hg=>?_⟩⟩,List.prefix_append _ _,Dm⟩;rcases qK.1 hg with rfl | hg
 · exact hf
 · exact hr g hg
theorem ab0 (hs:CI s){rest:List qx}(hr:∀ g ∈ rest,Fit s g)(hn:rest.length<=19){fv:Nat}{id:Int}{M:Nat}{cond:Sg->Option (Pn Int)}{body:Sg->Option (Pn (Option Int) × Sg)}(hc:∀ S,Yes (cond S))(hb:∀ S,M<=S.hist.length->SA s N S->kS (body S) (fun r=>Nw s N S r.2)) :
  ∀ (n:Nat)(S:Sg),M<=S.hist.length->SA s N S->N - S.hist.length+1<=n->kS (VP cond body (fun S=>event (jD fv s) N rest S id) n S) (fun r=>Nw s N S r.2)
 | 0,S,_,_,h=>by omega
 | n+1,S,hM,h,hn'=>by
  rw [VP];refine .bd (hc S) fun p _=>?_;cases p with
  | ok v=>
   refine .ite (fun _=>.mk (.rfl' h)) fun _=>.bd (hb S hM h) fun r hr1=>?_;obtain ⟨p,S1⟩:=r;cases p with
   | ok o=>
    cases o with
    | none=>
     have hl:=hr1.hp.length_le;dsimp only at hl hr1 ⊢;rw [Oj hs.vn hr1.gd.fit hr (by omega)];by_cases hN:N<=S1.hist.length
     · rw [kg hN];exact .mk hr1
     · rw [jR hN];have k:=Uq (id:=id) hr1.gd hr hn (by omega);refine (ab0 hs hr hn hc hb n _ (q9 hM (q9 hl k.hp.length_le)) k.gd (by unfold VU;rw [kM];omega)).imp fun r h=>(hr1.trans k).trans h
    | some v=>exact .mk hr1
   | _=>exact .mk hr1
  | _=>exact .mk (.rfl' h)
theorem Xn (hs:CI s){sm:List qx->Sm}{rest:List qx}{fu:Nat}{S:Sg}{x:jI}{k:Int->Sg->Option (Pn (Option Int) × Sg)}(h:SA s N S)(hr:∀ g ∈ rest,Fit s g)(hA:x.a.length<=5000/\∀ y ∈ x.a,zm 5000 y)(hf:5000<=fu)(hS:rest.length<=18->∀ S' x n,n<=10->S.hist.length<=S'.hist.length->SA s N S'->Ie n x->kS (sm (S.a :: rest) S' x) (fun r=>Nw s N S' r.2))(hk:∀ v h o,Cl s N S.hist S.out h o->kS (k v ⟨S.a,h,o⟩) (fun r=>Nw s N S r.2)) :kS (ED sm s rest fu S x k) (fun r=>Nw s N S r.2):=by
 unfold ED;refine .bd (X4 x.a [] (fun y hy=>VQ fu 5000 _ y (hA.2 y hy) hf) (by simp only [uR];omega)) fun p _=>?_;cases p with
 | ok l=>
  refine .bd (VI hs h.hl h.ol h.ev (fun h19=>hS (by rw [tT] at h19;omega))) fun r hr=>?_;obtain ⟨p,h',o⟩:=r;have hc:Nw s N S ⟨S.a,h',o⟩:=⟨⟨hr.hl,hr.ol,h.fit,hr.ev⟩,hr.hp,hr.op⟩;cases p with
  | ok v=>exact hk v h' o hr
  | _=>exact .mk hc
 | _=>exact .mk (.rfl' h)
theorem acF (hs:CI s)(hN:N≤5000){fv:Nat}:∀ (fu:Nat)(rest:List qx)(S:Sg)(x:jI)(n:Nat),(∀ g ∈ rest,Fit s g)→rest.length≤19→SA s N S→Ie n x→n≤10→5001+(N - S.hist.length)≤fu→
  kS (stM (jD fv s) s N fu rest S x) (fun r=>Nw s N S r.2)
 | 0,_,_,_,_,_,_,_,_,_,h=>by omega
 | fu+1,rest,S,x,n,hr,hn,h,hx,hn10,hf=>by
  cases n with
  | zero=>exact hx.elim
  | succ n=>
  obtain ⟨x1,x2,x3,x4,_⟩:=hx;rw [stM,Oj hs.vn h.fit hr (by omega)];by_cases hN2:N<=S.hist.length
  · rw [kg hN2];exact .mk (.rfl' h)
  rw [jR hN2];have k:=Uq (id:=x.n) h hr hn (by omega);have hl:(VU s rest S x.n).hist.length=S.hist.length+1:=kM;have ho:(VU s rest S x.n).out.length+1<=(VU s rest S x.n).hist.length:=by rw [hl];exact Nat.succ_le_succ h.ol
  generalize VU s rest S x.n=E at k hl ho;refine kS.imp (Q:=fun r=>Nw s N E r.2) ?_ fun r h=>k.trans h;have hE:=k.gd;show kS (if x.c=1 then _ else _) _;have ihs:∀ (rest:List qx),(∀ g ∈ rest,Fit s g)->rest.length<=19->∀ S' x n,n<=10->E.hist.length<=S'.hist.length->SA s N S'->Ie n x->kS (stM (jD fv s) s N fu rest S' x) (fun r=>Nw s N S' r.2):=
    fun rest hr hn S' x n h10 hl' hG hX=>acF hs hN fu rest S' x n hr hn hG hX h10 (by omega)
  have hcall:∀ {k:Int->Sg->Option (Pn (Option Int) × Sg)},(∀ v h o,Cl s N E.hist E.out h o->kS (k v ⟨E.a,h,o⟩) (fun r=>Nw s N E r.2))->kS (ED (stM (jD fv s) s N fu) s rest fu E x k) (fun r=>Nw s N E r.2):=fun hk=>
    Xn hs hE hr x2 (by omega) (fun h18=>ihs (E.a :: rest) (fun g hg=>by
      rcases qK.1 hg with rfl | hg
      · exact hE.fit
      · exact hr g hg) (by rw [tT];omega)) hk
  have hls:∀ (l:List jI)(S':Sg),E.hist.length<=S'.hist.length->SA s N S'->(∀ y ∈ l,Ie n y)->kS (EJ (stM (jD fv s) s N fu rest) S' l) (fun r=>Nw s N S' r.2):=
    YZ (M:=E.hist.length) (n:=n) fun S' x=>ihs rest hr hn S' x n (by omega)
  have hev:∀ ws,∀ y ∈ x.a,Yes (xD fu ws y):=fun ws y hy=>VQ fu 5000 ws y (x2.2 y hy) (by omega);have hwd:∀ ws,∀ y ∈ x.d,Yes (O4 (xD fu ws) ws y):=fun ws y hy=>acj fun z hz=>VQ fu 5000 ws z (zm.mono (n:=4999) ((x1 y hy).2 z hz) (by decide)) (by omega);refine .ite (fun _=>?_) fun _=>.ite (fun _=>?_) fun _=>.ite (fun _=>?_) fun _=>.ite (fun _=>?_) fun _=>.ite (fun _=>?_) fun _=>.ite (fun _=>?_) fun _=>.ite (fun _=>?_) fun _=>.ite (fun _=>?_) fun _=>.ite (fun _=>?_) fun _=>.ite (fun _=>?_) fun _=>?_
  · cases hi:ix? E.a.ws x.g with
    | none=>exact .mk (.rfl' hE)
    | some l=>
      obtain ⟨q,hq,hql⟩:=ixr hi;exact .mk ⟨⟨hE.hl,hE.ol,by
        rw [show x.g.toNat=q from by omega];exact Fit.put (st:=E.a.st) hE.fit hql (List.length_replicate ..),hE.ev⟩,Dm,Dm⟩
  · exact VH (hwd _) (fun p=>.rfl' hE) fun q=>NV (hev _) (fun p=>.rfl' hE) fun v=>.mk ⟨⟨hE.hl,hE.ol,Fit.word (st:=E.a.st) hE.fit,hE.ev⟩,Dm,Dm⟩
  · refine hcall fun v h' o hC=>?_;have hc:Nw s N E ⟨E.a,h',o⟩:=⟨⟨hC.hl,hC.ol,hE.fit,hC.ev⟩,hC.hp,hC.op⟩;exact .ite (fun _=>.mk hc) fun _=>VH (hwd _) (fun p=>hc) fun q=>.mk ⟨⟨hC.hl,hC.ol,Fit.word (st:=E.a.st) hE.fit,hC.ev⟩,hC.hp,hC.op⟩
  · refine NV (hev _) (fun p=>.rfl' hE) fun v=>hls _ _ (oH _) hE fun y hy=>?_;split at hy
    · exact x3 y hy
    · exact x4 y hy
  · refine ab0 (M:=E.hist.length) hs hr hn (fun S=>?_) (fun S' hM hG=>hls _ _ hM hG x3) fu E (oH _) hE (by omega);cases hA:x.a with
    | nil=>exact .mk lF
    | cons y l=>exact hev _ y (by rw [hA];exact .head _)
  · exact .ite (fun _=>hcall fun v h' o hC=>.mk ⟨⟨hC.hl,hC.ol,hE.fit,hC.ev⟩,hC.hp,hC.op⟩) fun _=>NV (hev _) (fun p=>.rfl' hE) fun v=>.mk (.rfl' hE)
  · exact NV (hev _) (fun p=>.rfl' hE) fun v=>.mk (.rfl' hE)
  · refine .bd (hls _ _ (oH _) hE x3) fun r hr1=>?_;obtain ⟨p,S1⟩:=r;cases p with
    | uP v=>
      dsimp only;cases hi:ix? S1.a.ws x.g with
      | none=>exact .mk hr1
      | some row=>
        obtain ⟨q,hq,hql⟩:=ixr hi;cases row with
        | nil=>exact .mk hr1
        | cons z row=>
         have hk2:Nw s N S1 { S1 with a:={ S1.a with ws:=S1.a.ws.set x.g.toNat (v :: row) } }:=⟨⟨hr1.gd.hl,hr1.gd.ol,by
          rw [show x.g.toNat=q from by omega];exact Fit.put (st:=S1.a.st) hr1.gd.fit hql rfl,hr1.gd.ev⟩,Dm,Dm⟩
         exact (hls x.h { S1 with a:={ S1.a with ws:=S1.a.ws.set x.g.toNat (v :: row) } } hr1.hp.length_le hk2.gd x4).imp fun r h=>(hr1.trans hk2).trans h
    | _=>exact .mk hr1
  · refine NV (hev _) (fun p=>.rfl' hE) fun v=>.bd (.app (by have:=hE.hl;simp only [tT,uR];omega)) fun o ho'=>?_;subst ho';exact .mk ⟨⟨hE.hl,by dsimp only;rw [kM];omega,hE.fit,hE.ev⟩,List.prefix_rfl,List.prefix_append _ _⟩
  · exact .mk (.rfl' hE)
  · exact .mk (.rfl' hE)
end
def VO (R:List kI)(v:jy):Prop:=(v.c=1/\v.a=1)\/(v.c=2/\∃ r,ix R v.d=some r/\v.a=r.a.length)\/(v.c=3/\0 < v.a/\v.a<=8)
def Vr (V V':List jy):Prop:=∀ (i:Nat)(v:jy),V[i]?=some v->∃ v',V'[i]?=some v'/\v'.c=v.c/\v'.d=v.d/\v'.a=v.a/\v'.e=v.e
theorem Vr.rfl' {V:List jy}:Vr V V:=fun i v h=>⟨v,h,rfl,rfl,rfl,rfl⟩
theorem Vr.trans {V V1 V2:List jy}(h:Vr V V1)(k:Vr V1 V2):Vr V V2:=fun i v hv=>by obtain ⟨v1,h1,a1,a2,a3,a4⟩:=h i v hv;obtain ⟨v2,h2,b1,b2,b3,b4⟩:=k i v1 h1;exact ⟨v2,h2,b1.trans a1,b2.trans a2,b3.trans a3,b4.trans a4⟩
theorem QO {V V':List jy}(h:Vr V V'){i:Int}{v:jy}(hv:ix V i=some v):∃ v',ix V' i=some v'/\v'.c=v.c/\v'.d=v.d/\v'.a=v.a/\v'.e=v.e:=by obtain ⟨k,rfl,hk⟩:=kN hv;obtain ⟨v',h1,h2⟩:=h k v hk;exact ⟨v',by unfold Go.Fw.ix;rw [jR (by omega),AY,h1],h2⟩
inductive RX (V:List jy):jA→Prop
 | mk {e:jA} (h:e.e=1\/e.e=2\/e.e=3->∃ v,ix V e.g=some v/\v.c=e.e/\(e.e=2->0<=e.d/\e.d < v.a)) (k:∀ y ∈ e.a,RX V y):RX V e
theorem RX.mono {V V':List jy}(hv:Vr V V'){e:jA}(h:RX V e):RX V' e:=by
 induction h with
 | mk h k ih=>
  refine .mk (fun z=>?_) ih;obtain ⟨v,h1,h2,h3⟩:=h z;obtain ⟨v',a1,a2,a3,a4,a5⟩:=QO hv h1;exact ⟨v',a1,a2.trans h2,fun z=>by rw [a4];exact h3 z⟩
inductive SW (K:List jZ)(V:List jy)(Ps:List Nat)(f:Int):List jI→Nat→Nat→Prop
 | nil {a:Nat}:SW K V Ps f [] a a
 | cons {x:jI} {l:List jI} {a c d b:Nat} (id:x.n=a) (kd:K[a]?=some ⟨f,x.c,x.f⟩) (tg:∀ y ∈ x.d,RX V y) (ar:∀ y ∈ x.a,RX V y) (de:x.c=1→∃ v,ix V x.g=some v)
  (tr:x.c=8->∃ v,ix V x.g=some v/\v.c=1/\v.e=(c:Int)) (ca:x.j≠be->ix Ps x.i=some x.a.length) (ct:∀ y ∈ x.d,(x.c=3->y.e=1)/\1<=y.e/\y.e<=3)
  (bo:SW K V Ps f x.e (a+1) c) (el:SW K V Ps f x.h c d) (nx:SW K V Ps f l d b):SW K V Ps f (x :: l) a b
theorem SW.mono {K K':List jZ}{V V':List jy}{Ps:List Nat}{f:Int}(hk:K <+: K')(hv:Vr V V'){l:List jI}{a b:Nat}(h:SW K V Ps f l a b):SW K' V' Ps f l a b:=by
 induction h with
 | nil=>exact .nil
 | cons id kd tg ar de tr ca ct _ _ _ ih1 ih2 ih3=>
  obtain ⟨t,rfl⟩:=hk;refine .cons id (by rw [GI (jU kd)];exact kd) (fun y hy=>(tg y hy).mono hv) (fun y hy=>(ar y hy).mono hv) (fun z=>?_) (fun z=>?_) ca ct ih1 ih2 ih3
  · obtain ⟨v,h1⟩:=de z;obtain ⟨v',h2,_⟩:=QO hv h1;exact ⟨v',h2⟩
  · obtain ⟨v,h1,h3,h4⟩:=tr z;obtain ⟨v',h2,a1,a2,a3,a4⟩:=QO hv h1;exact ⟨v',h2,a1.trans h3,a4.trans h4⟩
theorem SW.le {K:List jZ}{V:List jy}{Ps:List Nat}{f:Int}{l:List jI}{a b:Nat}(h:SW K V Ps f l a b):a<=b:=by
 induction h with
 | nil=>exact oH _
 | cons _ _ _ _ _ _ _ _ _ _ _ h1 h2 h3=>omega
theorem SW.app {K:List jZ}{V:List jy}{Ps:List Nat}{f:Int}{l m:List jI}{a b c:Nat}(h:SW K V Ps f l a b)(k:SW K V Ps f m b c):SW K V Ps f (l ++ m) a c:=by
 induction h with
 | nil=>exact k
 | cons id kd tg ar de tr ca ct bo el _ _ _ ih=>exact .cons id kd tg ar de tr ca ct bo el (ih k)
structure Up (S:fV)(V:List jy)(S':fV)(V':List jy):Prop where
 e:S.e=0
 f:S'.f=S.f
 pg:S'.a.a=S.a.a
 k:S.a.b <+: S'.a.b
 v:ix S'.a.c S.f=some V'
 vs:∀ i:Nat,(i:Int)≠S.f->S'.a.c[i]?=S.a.c[i]?
 vl:S'.a.c.length=S.a.c.length
 vr:Vr V V'
 vo:∀ x ∈ V',VO S.a.a.a x
structure Wd (S:fV)(V:List jy):Prop where
 v:ix S.a.c S.f=some V
 vo:∀ x ∈ V,VO S.a.a.a x
theorem Up.wd {S S':fV}{V V':List jy}(h:Up S V S' V'):Wd S' V':=⟨by rw [h.f];exact h.v,by rw [h.pg];exact h.vo⟩
theorem Up.rfl' {S:fV}{V:List jy}(h:Wd S V)(e:S.e=0):Up S V S V:=⟨e,rfl,rfl,Dm,h.v,fun _ _=>rfl,rfl,.rfl',h.vo⟩
theorem Up.trans {S S1 S2:fV}{V V1 V2:List jy}(h:Up S V S1 V1)(k:Up S1 V1 S2 V2):Up S V S2 V2:=
 ⟨h.e,k.f.trans h.f,k.pg.trans h.pg,h.k.trans k.k,by rw [<-h.f];exact k.v,fun i hi=>(k.vs i (by rw [h.f];exact hi)).trans (h.vs i hi),k.vl.trans h.vl,h.vr.trans k.vr,by rw [<-h.pg];exact k.vo⟩
structure KP (S S':fV):Prop where
 out:S'.a=S.a
 f:S'.f=S.f
 op:S'.b=S.b
 e:S'.e=0->S.e=0
theorem KP.rfl' {S:fV}:KP S S:=⟨rfl,rfl,rfl,id⟩
theorem KP.trans {S S1 S2:fV}(h:KP S S1)(k:KP S1 S2):KP S S2:=⟨k.out.trans h.out,k.f.trans h.f,k.op.trans h.op,fun z=>h.e (k.e z)⟩
theorem KP.up {S S':fV}{V:List jy}(k:KP S S')(h:Wd S V)(e:S'.e=0):Up S V S' V:=⟨k.e e,k.f,by rw [k.out],by rw [k.out];exact Dm,by rw [k.out];exact h.v,fun i _=>by rw [k.out],by rw [k.out],.rfl',h.vo⟩
theorem KP.wd {S S':fV}{V:List jy}(k:KP S S')(h:Wd S V):Wd S' V:=⟨by rw [k.out,k.f];exact h.v,by rw [k.out];exact h.vo⟩
theorem wP {fu:Nat}{S S':fV}{ln e:Int}(he:e≠0)(h:mE fu S ln e=some S'):KP S S'/\S'.e≠0:=by
 unfold mE at h;rcases jB h with ⟨c,h⟩|⟨c,h⟩
 · cases h;exact ⟨⟨rfl,rfl,rfl,fun z=>absurd z he⟩,he⟩
 · cases h;exact ⟨.rfl',c⟩
section
variable {fu:Nat}{f:fV->jA->Int->Option (jA × fV)}{g:fV->List jA->Int->Option (List jA × fV)}
def Xe (f:fV->jA->Int->Option (jA × fV)):Prop:=∀ S x ln x' S' V,f S x ln=some (x',S')->Wd S V->KP S S'/\x'.e=x.e/\(S'.e=0->RX V x')
def Xes (g:fV->List jA->Int->Option (List jA × fV)):Prop:=∀ S l ln l' S' V,g S l ln=some (l',S')->Wd S V->KP S S'/\l'.map jA.e=l.map jA.e/\(S'.e=0->∀ y ∈ l',RX V y)
theorem Yq {x:jA}{b:Nat}:∀ (l:List ByteArray)(k:Nat)(a n:Int),oq fu g f x l k a=some (.go n)→k+l.length≤b→a < b→n < b
 | [],_,a,n,h,_,ha=>by cases h;exact ha
 | u :: r,k,a,n,h,hk,ha=>by
  rw [tT] at hk;rw [oq] at h;rcases jB h with ⟨_,h⟩|⟨_,h⟩
  · exact Yq r _ _ n h (by omega) (by omega)
  · exact Yq r _ _ n h (by omega) ha
theorem adv {S:fV}{x:jA}{ln:Int}{V:List jy}{d c:Int}{a1:List kI}{a2 a3 a4:Int}{a5:List kW}{a6:List (List jy)}{a7:List jZ}{a8:List Int}(hw:Wd S V)(h:pz fu g f S x ln=some (.go (d,c,a1,a2,a3,a4,a5,a6,a7,a8))):KP S ⟨⟨⟨a1,a5⟩,a6,a7⟩,a2,a8,a3,a4⟩/\(a4=0->x.e=1\/x.e=2\/x.e=3->∃ v,ix V c=some v/\v.c=x.e/\(x.e=2->0<=d/\d < v.a)):=by
 unfold pz at h;obtain ⟨v,hv,h⟩:=bs h;cases v with
 | out o=>cases h
 | go b=>
  have hb:b=true ↔ (x.e=1\/x.e=2\/x.e=3):=by
    unfold tF at hv;rcases jB hv with ⟨h1,hv⟩|⟨h1,hv⟩
    · cases hv;simp [h1]
    · rcases jB hv with ⟨h2,hv⟩|⟨h2,hv⟩
      · cases hv;simp [h2]
      · cases hv;simp [h1,h2]
  replace h:=gi h;rcases jB h with ⟨h1,h⟩|⟨h1,h⟩
  · have hop:=hb.1 h1;obtain ⟨⟨c',i⟩,_,h⟩:=bs h;replace h:=pi h;rcases jB h with ⟨_,h⟩|⟨_,h⟩
    · obtain ⟨j,_,h⟩:=bs h;cases h
    · obtain ⟨t,ht,h⟩:=bs h;rw [hw.v] at ht;cases ht;obtain ⟨m,hm,h⟩:=bs h;rcases jB h with ⟨_,h⟩|⟨hk,h⟩
      · obtain ⟨k,_,h⟩:=bs h;cases h
      · have hk:m.c=x.e:=by have e1:wr (1+x.e)=1+x.e:=lM (by omega) (by omega);rw [e1,lM (by omega) (by omega)] at hk;have:=Decidable.not_not.1 hk;omega
        rcases jB h with ⟨h2,h⟩|⟨h2,h⟩
        · obtain ⟨u,hu,h⟩:=bs h;obtain ⟨v,hv2,h⟩:=bs h;cases v with
          | out o=>cases h
          | go d'=>
           replace h:=gi h;have hlt:=Yq (b:=u.a.length) _ 0 _ _ hv2 (by omega) (by omega);rcases jB h with ⟨_,h⟩|⟨h3,h⟩
           · obtain ⟨a,ha,h⟩:=bs h;cases h;obtain ⟨k1,k2⟩:=wP (by decide) ha;exact ⟨k1,fun z=>absurd z k2⟩
           · cases h;refine ⟨.rfl',fun _ _=>⟨m,hm,hk,fun _=>⟨by omega,?_⟩⟩⟩;obtain ⟨q,rfl,hq⟩:=kN hm;rcases hw.vo m (wC hq) with ⟨h5,_⟩|⟨_,r,h5,h6⟩|⟨h5,_⟩
             · omega
             · rw [hu] at h5;cases h5;rw [h6];exact hlt
             · omega
        · cases h;exact ⟨.rfl',fun _ _=>⟨m,hm,hk,fun z=>absurd z h2⟩⟩
  · cases h;exact ⟨.rfl',fun _ z=>absurd (hb.2 z) h1⟩
theorem aak {S:fV}{x:jA}{ln:Int}{V:List jy}{x':jA}{S':fV}(h:pz fu g f S x ln=some (.out (x',S'))):KP S S'/\x'=x/\S'.e≠0:=by
 unfold pz at h;obtain ⟨v,hv,h⟩:=bs h;cases v with
 | out o=>
  unfold tF at hv;rcases jB hv with ⟨_,hv⟩|⟨_,hv⟩
  · cases hv
  · rcases jB hv with ⟨_,hv⟩|⟨_,hv⟩ <;> cases hv
 | go b=>
  replace h:=gi h;rcases jB h with ⟨_,h⟩|⟨_,h⟩
  · obtain ⟨⟨c,i⟩,_,h⟩:=bs h;replace h:=pi h;rcases jB h with ⟨_,h⟩|⟨_,h⟩
    · obtain ⟨j,hj,h⟩:=bs h;cases h;have k:=wP (by decide) hj;exact ⟨k.1,rfl,k.2⟩
    · obtain ⟨t,_,h⟩:=bs h;obtain ⟨m,_,h⟩:=bs h;rcases jB h with ⟨_,h⟩|⟨_,h⟩
      · obtain ⟨k,hk,h⟩:=bs h;cases h;have k:=wP (by decide) hk;exact ⟨k.1,rfl,k.2⟩
      · rcases jB h with ⟨_,h⟩|⟨_,h⟩
        · obtain ⟨u,_,h⟩:=bs h;obtain ⟨v,hv,h⟩:=bs h;cases v with
          | out o=>exact (Xa _ _ _ _ hv).elim
          | go d=>
           replace h:=gi h;rcases jB h with ⟨_,h⟩|⟨_,h⟩
           · obtain ⟨a,_,h⟩:=bs h;cases h
           · cases h
        · cases h
  · cases h
theorem YS (hg:Xes g):Xe (uL fu g f):=by
 intro S x ln x' S' V h hw;unfold uL at h;rcases jB h with ⟨c,h⟩|⟨_,h⟩
 · cases h;exact ⟨.rfl',rfl,fun z=>absurd z c⟩
 · obtain ⟨v,hv,h⟩:=bs h;cases v with
   | out o=>
    cases h;obtain ⟨k1,rfl,k2⟩:=aak (V:=V) hv;exact ⟨k1,rfl,fun z=>absurd z k2⟩
   | go s=>
    obtain ⟨a1,a2,a3,a4,a5,a6,a7,a8,a9,a10⟩:=s;replace h:=gi h;simp only [pl] at h;obtain ⟨⟨l',S1⟩,h1,h⟩:=bs h;rw [pl] at h;cases h;obtain ⟨k1,k2⟩:=adv hw hv;obtain ⟨k3,k4,k5⟩:=hg _ _ _ _ _ V h1 (k1.wd hw);exact ⟨k1.trans k3,rfl,fun z=>.mk (k2 (k3.e z)) (k5 z)⟩
theorem Jc (hf:Xe f){ln:Int}{V:List jy}{S0:fV}(hw:Wd S0 V):∀ (l:List jA)(k:Nat)(out:List jA)(S:fV)(v:Ld (List jA × List kI × Int × Int × Int × List kW × List (List jy) × List jZ × List Int) (List jA × fV)),KP S0 S→
  oh fu g f ln l k out S.a.a.a S.f S.c S.e S.a.a.b S.a.c S.a.b S.b=some v->(S.e=0->∀ y ∈ out,RX V y)->∃ o a1 a2 a3 a4 a5 a6 a7 a8,v=.go (o,a1,a2,a3,a4,a5,a6,a7,a8)/\KP S0 ⟨⟨⟨a1,a5⟩,a6,a7⟩,a2,a8,a3,a4⟩/\o.map jA.e=out.map jA.e ++ l.map jA.e/\(a4=0->∀ y ∈ o,RX V y)
 | [],_,out,S,v,hS,h,ho=>by cases h;exact ⟨_,_,_,_,_,_,_,_,_,rfl,hS,by rw [List.map_nil,vJ],ho⟩
 | u :: r,k,out,S,v,hS,h,ho=>by rw [oh] at h;obtain ⟨⟨x,S1⟩,h1,h⟩:=bs h;rw [pl] at h;obtain ⟨w,hw',h⟩:=bs h;obtain ⟨_,rfl⟩:=qG hw';obtain ⟨k1,k2,k3⟩:=hf _ _ _ _ _ V h1 (hS.wd hw);obtain ⟨o,a1,a2,a3,a4,a5,a6,a7,a8,e,h2,h3,h4⟩:=Jc hf hw r _ _ S1 v (hS.trans k1) h (fun z=>oL (ho (k1.e z)) (k3 z));exact ⟨o,a1,a2,a3,a4,a5,a6,a7,a8,e,h2,by rw [h3,List.map_append,Em,List.map_cons,List.map_cons,k2];rfl,h4⟩
theorem Wx (hf:Xe f):Xes (sP fu g f):=by intro S l ln l' S' V h hw;unfold sP at h;obtain ⟨v,hv,h⟩:=bs h;obtain ⟨o,a1,a2,a3,a4,a5,a6,a7,a8,rfl,h2,h3,h4⟩:=Jc hf hw l _ _ S v .rfl' hv (fun _ y hy=>by cases hy);replace h:=gi h;simp only [pl] at h;cases h;exact ⟨h2,h3,h4⟩
end
theorem MC:∀ fu:Nat,Xe (zA fu)∧Xes (sN fu)
 | 0=>⟨fun _ _ _ _ _ _ h=>(by cases h),fun _ _ _ _ _ _ h=>(by cases h)⟩
 | fu+1=>⟨YS (MC fu).2,Wx (MC fu).1⟩
end Go.Proofs.YtfglbdkfnphjgaaGreat
namespace Go.Fw
theorem kS.of' {α:Type}{x:Option α}{P:α->Prop}{v:α}(h:kS x P)(e:x=some v):P v:=by obtain ⟨u,h1,h2⟩:=h;rw [e] at h1;cases h1;exact h2
end Go.Fw
namespace Go.Proofs.YtfglbdkfnphjgaaGreat
open Go.RowKit Go.Fw Go.Proofs.Tryz
section
variable {fu:Nat}
theorem Ze {p:fV}{t:kI}{u:Nat}:∀ (o:Nat){b:Int}{c:List kI}{d h i:Int}{j:List kW}{k:List (List jy)}{l:List jZ}{m:List Int}{r:Int × List kI × Int × Int × Int × List kW × List (List jy) × List jZ × List Int},
  pR fu p t u o b c d h i j k l m=some (.go r)->r.2.2.2.2.1=0->i=0
 | 0,_,_,_,_,_,_,_,_,_,_,z,_=>by cases z
 | o+1,_,_,_,_,_,_,_,_,_,_,z,e=>by
  rw [pR] at z;rcases jB z with ⟨_,z⟩|⟨_,z⟩
  · obtain ⟨_,_,z⟩:=bs z;rcases jB z with ⟨_,z⟩|⟨_,z⟩
    · obtain ⟨_,ha,z⟩:=bs z;exact (wP (by decide) ha).1.e (Ze o z e)
    · exact Ze o z e
  · cases z;exact e
theorem YR {t:kI}{u:ByteArray}{p:Nat}:∀ (o:Nat){b:Int}{c:List kI}{d h i:Int}{j:List kW}{k:List (List jy)}{l:List jZ}{m:List Int}{r:Int × List kI × Int × Int × Int × List kW × List (List jy) × List jZ × List Int},
  pQ fu t u p o b c d h i j k l m=some (.go r)->r.2.2.2.2.1=0->i=0
 | 0,_,_,_,_,_,_,_,_,_,_,z,_=>by cases z
 | o+1,_,_,_,_,_,_,_,_,_,_,z,e=>by
  rw [pQ] at z;rcases jB z with ⟨_,z⟩|⟨_,z⟩
  · obtain ⟨_,_,z⟩:=bs z;rcases jB z with ⟨_,z⟩|⟨_,z⟩
    · obtain ⟨_,ha,z⟩:=bs z;exact (wP (by decide) ha).1.e (YR o z e)
    · exact YR o z e
  · cases z;exact e
theorem YF {d:Int}{p:kW}:∀ (o:Nat){b:Int}{h:List kI}{i j k:Int}{c:List kW}{l:List (List jy)}{m:List jZ}{q:List Int}{r:Int × List kI × Int × Int × Int × List kW × List (List jy) × List jZ × List Int},
  qc fu d p o b h i j k c l m q=some (.go r)->r.2.2.2.2.1=0->k=0
 | 0,_,_,_,_,_,_,_,_,_,_,z,_=>by cases z
 | o+1,_,_,_,_,_,_,_,_,_,_,z,e=>by
  rw [qc] at z;rcases jB z with ⟨_,z⟩|⟨_,z⟩
  · obtain ⟨_,_,z⟩:=bs z;rcases jB z with ⟨_,z⟩|⟨_,z⟩
    · obtain ⟨_,ha,z⟩:=bs z;exact (wP (by decide) ha).1.e (YF o z e)
    · exact YF o z e
  · cases z;exact e
theorem abl {B:kI}:∀ (x:List ByteArray){w:Nat}{a:List kI}{b c d:Int}{e:List kW}{f:List (List jy)}{h:List jZ}{i:List Int}{r:List kI × Int × Int × Int × List kW × List (List jy) × List jZ × List Int},
  qd fu B x w a b c d e f h i=some (.go r)->r.2.2.2.1=0->d=0
 | [],_,_,_,_,_,_,_,_,_,_,z,y=>by cases z;exact y
 | x :: xs,_,_,_,_,_,_,_,_,_,_,z,y=>by
  rw [qd] at z;obtain ⟨v,hv,z⟩:=bs z;cases v with
  | out o=>cases z
  | go s=>
   obtain ⟨a1,a2,a3,a4,a5,a6,a7,a8,a9⟩:=s;replace z:=gi z;simp only [pl] at z;exact YR _ hv (abl xs z y)
theorem aa2 {R:fV}:∀ (x:List kI){w:Nat}{a:List kI}{b c d:Int}{e:List kW}{f:List (List jy)}{h:List jZ}{i:List Int}{r:List kI × Int × Int × Int × List kW × List (List jy) × List jZ × List Int},
  p8 fu R x w a b c d e f h i=some (.go r)->r.2.2.2.1=0->d=0/\∀ u ∈ x,u.a.length<=4
 | [],_,_,_,_,_,_,_,_,_,_,z,y=>by cases z;exact ⟨y,fun u hu=>by cases hu⟩
 | x :: xs,_,_,_,_,d,_,_,_,_,_,z,y=>by
  rw [p8] at z;obtain ⟨v,hv,z⟩:=bs z;cases v with
  | out o=>cases z
  | go s=>
   obtain ⟨a1,a2,a3,a4,a5,a6,a7,a8⟩:=s;replace z:=gi z;simp only [pl] at z;obtain ⟨v,hv3,z⟩:=bs z;cases v with
   | out o=>cases z
   | go s=>
    obtain ⟨b1,b2,b3,b4,b5,b6,b7,b8,b9⟩:=s;replace z:=gi z;simp only [pl] at z;obtain ⟨v,hv4,z⟩:=bs z;cases v with
    | out o=>cases z
    | go s=>
     obtain ⟨c1,c2,c3,c4,c5,c6,c7,c8⟩:=s;replace z:=gi z;simp only [pl] at z;obtain ⟨k1,k2⟩:=aa2 xs z y;have k3:=Ze _ hv3 (abl _ hv4 k1);unfold wm at hv;obtain ⟨v,hj,hv⟩:=bs hv;cases v with
     | out o=>cases hv
     | go q=>
      replace hv:=gi hv;rcases jB hv with ⟨_,hv⟩|⟨c,hv⟩
      · obtain ⟨_,ha,hv⟩:=bs hv;cases hv;exact absurd k3 (wP (by decide) ha).2
      · cases hv;refine ⟨k3,fun u hu=>?_⟩;rcases qK.1 hu with rfl | hu
        · unfold vW at hj;rcases jB hj with ⟨_,hj⟩|⟨_,hj⟩
          · cases hj;exact absurd rfl c
          · cases hj;have:¬ (4:Int) < (u.a.length:Int):=fun z=>c (qF z);omega
        · exact k2 u hu
theorem aa5 {k:List kW}:∀ (o:Nat){a:Int}{c:List kI}{d e f:Int}{b:List kW}{h:List (List jy)}{i:List jZ}{j:List Int}{r:Int × List kI × Int × Int × Int × List kW × List (List jy) × List jZ × List Int},
  qN fu k o a c d e f b h i j=some (.go r)->r.2.2.2.2.1=0->f=0
 | 0,_,_,_,_,_,_,_,_,_,_,z,_=>by cases z
 | o+1,_,_,_,_,_,_,_,_,_,_,z,y=>by
  rw [qN] at z;rcases jB z with ⟨_,z⟩|⟨_,z⟩
  · obtain ⟨_,_,z⟩:=bs z;obtain ⟨v,hv,z⟩:=bs z;cases v with
    | out o=>cases z
    | go s=>
     obtain ⟨a1,a2,a3,a4,a5,a6,a7,a8⟩:=s;replace z:=gi z;simp only [pl] at z;obtain ⟨v,hv3,z⟩:=bs z;cases v with
     | out o=>cases z
     | go s=>
      obtain ⟨b1,b2,b3,b4,b5,b6,b7,b8,b9⟩:=s;replace z:=gi z;simp only [pl] at z;have k3:=YF _ hv3 (aa5 o z y);unfold vU at hv;rcases jB hv with ⟨_,hv⟩|⟨c,hv⟩
      · obtain ⟨_,ha,hv⟩:=bs hv;cases hv;exact absurd k3 (wP (by decide) ha).2
      · cases hv;exact k3
  · cases z;exact y
theorem WZ (hf:5002<=fu){S S':fV}(h1:S.a.a.a.length<=5000)(h2:∀ u ∈ S.a.a.a,u.a.length<=5000)(h3:S.a.a.b.length<=5000)(h:vS fu S=some S')(e:S'.e=0):∀ u ∈ S.a.a.a,u.a.length<=4:=by
 unfold vS at h;obtain ⟨v,hv,h⟩:=bs h;have k0:=(ET (O:=fun _=>False) hf h1 _ 0 S (by omega) h2 .rfl').of' hv;cases v with
 | out o=>exact k0.elim
 | go s=>
  obtain ⟨a1,a2,a3,a4,a5,a6,a7,a8⟩:=s;replace k0:Dy S ⟨⟨⟨a1,a5⟩,a6,a7⟩,a2,a8,a3,a4⟩:=k0;replace h:=gi h;simp only [pl] at h;obtain ⟨v,hv2,h⟩:=bs h;have hfs:a5=S.a.a.b:=congrArg (fun z=>z.a.b) k0.out;cases v with
  | out o=>
   subst hfs;exact ((EM (O:=fun _=>False) hf h3 fu 0 ⟨⟨⟨a1,_⟩,a6,a7⟩,a2,a8,a3,a4⟩ (wT _) (by omega) (by omega) k0).of' hv2).elim
  | go s=>
   obtain ⟨b1,b2,b3,b4,b5,b6,b7,b8,b9⟩:=s;replace h:=gi h;simp only [pl] at h;cases h;exact (aa2 _ hv (aa5 _ hv2 e)).2
end
end Go.Proofs.YtfglbdkfnphjgaaGreat
