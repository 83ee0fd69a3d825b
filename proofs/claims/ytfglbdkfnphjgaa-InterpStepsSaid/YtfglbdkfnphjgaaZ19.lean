/- Contracts, printed by gen3.py. -/
import Derived.Test.YtfglbdkfnphjgaaZ5
import Derived.Test.YtfglbdkfnphjgaaLa
import Derived.Test.YtfglbdkfnphjgaaZ18
import Derived.Test.YtfglbdkfnphjgaaZ6
import Derived.Test.YtfglbdkfnphjgaaZ9
set_option linter.unusedVariables false
set_option maxHeartbeats 12800000
set_option linter.unusedSimpArgs false
set_option maxRecDepth 4000
namespace Go.Proofs.Ytfglbdkfnphjgaa
open Go.RowKit Go.Fw
noncomputable section
def Co (m:jQ→Int→Int→Option ((List Int))):Prop:=∀ {t:World} {A:Nat→Prop} {p:jQ} {x:Int} {z:Int} {a:Option Addr} {b:Nat} {c:Option Addr} {d:Nat} {e:Option Addr} {f:Nat} {h:Option Addr} {i:Nat} {u:(List Int)},Pre t A [] [.l a b p.a.a,.l c d p.a.b,.l e f p.b,.l h i p.c]→m p x z=some u→
 Calls Try.prog 31 #[.agg #[Z a p.a.a b,Z c p.a.b d,Z e p.b f,Z h p.c i],V x,V z] t (qw fun v w=>∃ (j:OA)(k:Nat)(o:LV),v=Z j u k∧Bx t w A (lK []) [O t.heap.size j k 3 Int o] [.els o u])
def kX (fu:Nat)(b:Int):List Gv→Nat→(List Int)→Option (Ld (List Int) ((List Int)))
 | [],_,a=>some (.go a)
 | f :: d,c,a=>
 if f.d≤b then
  if b≤f.g then
   (app a ([(c:Int)]:List Int)).bind fun e=>
   kX fu b d (c+1) e
  else
   kX fu b d (c+1) a
 else
  kX fu b d (c+1) a
def jA (fu:Nat)(c:jQ) (b:Int)(d:Int):Option ((List Int)):=
 if b < 0 then
  some ([]:List Int)
 else
  if (c.b.length:Int)≤b then
   some ([]:List Int)
  else
   (ix c.b b).bind fun e=>
   (kX fu d e 0 ([]:List Int)).bind fun f=>f.el (fun a=>
   some a
   ) (fun o=>some o)
theorem Cu (fu:Nat):Co (jA fu):=by
 intro S au U x1 W A B C D E F H I r0 hP p
 unfold jA at p
 have e:=hP.bx
 clear hP
 generalize hG:lK _=G at e ⊢
 refine cf Try.func31 r ?_
 refine lI [(0,.agg #[Z A U.a.a B,Z C U.a.b D,Z E U.b F,Z H U.c I]),(1,V x1),(2,V W)] ⟨r,r,r,y⟩ fun av=>?_
 refine q (g (nO (nH e (xL r)) ?_))
 rintro _ w1 ⟨b1,rfl,e⟩
 refine s (mO r) (n (q (q (g (s (mi r) (s (pz r r) (s (kL r) ?_)))))))
 rcases iv p with ⟨X,p⟩|⟨X,p⟩
 ·rw [decide_eq_true X]
  refine jJ r (jJ r (jJ r (jJ r (jJ r (s (kC r r) (n (jL r (q (g (s (mO r) (n (kR ?_))))))))))))
  replace e:=e.BZ Int 3
  obtain rfl:=sm p
  refine jC r (kW r) ?_
  exact ⟨none,0,[],r,(e.ad [0] [0])⟩
 rw [decide_eq_false X]
 refine kr r (s (mi r) (kr r (s (Ba r) (kr r (s (Q5 r (e.bk 0 r) r) (kr r (s (kZ FE r) (kr r (s (BL r r) (s (jZ r r) (n ?_)))))))))))
 rcases iv p with ⟨Y,p⟩|⟨Y,p⟩
 ·refine jL (bt Y) (q (g (s (mO r) (n (kR ?_)))))
  replace e:=e.BZ Int 3
  obtain rfl:=sm p
  refine jC r (kW r) ?_
  exact ⟨none,0,[],r,(e.ad [0] [0])⟩
 refine jH (bf Y) (wk (q (g (s (mO r) (n (q (q (g (s (Ba r) (s (Q5 r (e.bk 0 r) r) (s (mi r) ?_)))))))))))
 obtain ⟨u,z,p⟩:=bs p
 obtain ⟨k6,a0,z⟩:=kJ z
 obtain ⟨ab,a1,e⟩:=e.nm 2 rfl z
 obtain ⟨v,x,rfl,N⟩:=a1
 replace e:=e.ku (d:=.l v x u) N
 refine s (kV FE EA r r a0 (e.dl 4 r) z) (s (jP BD r r ((e.dc 1 r) 0 _ r)) (s (kZ BD r) (s (mi r) (n ?_))))
 replace e:=e.BZ Int 3
 have ac:=(e.dl 1 r).bd
 obtain ⟨Y8,m,p⟩:=bs p
 refine nW (fun f w=>∃ (j:List Int) (a:OA)(b:Nat)(c:LV),Has f [(7,Z a j b)]∧Bx S w au G [O S.heap.size a b 3 Int c] [.els c j,.l v x u]∧Ld.go j=Y8) (fun J8 a2=>?_) ?_
 ·refine oF (kM (fun aw f w=>∃ (t:Nat)(j:List Int) (a:OA)(b:Nat)(c:LV),aw=u.length - t∧t≤u.length∧Has f [(25,V (t:Int)),(2,V W),(7,Z a j b),(23,Z v u x),(24,V (u.length:Int))]∧Bx S w au G [O S.heap.size a b 3 Int c] [.els c j,.l v x u]∧kX fu W (u.drop t) t j=some Y8) (u.length) ⟨0,([]:List Int),none,0,[],r,Nat.zero_le _,⟨r,r,r,r,r,y⟩,(e.ad [0] [0,1]),m⟩ ?_)
  clear e m
  rintro aw f w ⟨t,j,a,b,c,rfl,ae,hf,e,m⟩ K8 J
  obtain ⟨av,rfl⟩:=gP _ _ hf
  clear hf
  rcases Nat.lt_or_ge t u.length with Q | Q
  ·obtain ⟨o,K⟩:=mG (l:=u) Q
   rw [nk K,kX] at m
   refine q (g (s (tX r r (by omega)) (n (q (jL r (wk (q (oF (q (g (s (mi r) (s (kV BD Aa r r r (e.dl 1 r) K) (s (nG [T o.b,V o.e,V o.c,V o.a,.bool o.f,V o.d,V o.g] Tj r Aa r r (uI (ds:=[T o.b,V o.e,V o.c,V o.a,.bool o.f,V o.d,V o.g]) (e.dl 1 r) K (fun _ h=>h))) ?_)))))))))))))
   refine nO (nH e (jX Aa)) ?_
   rintro _ af ⟨ag,rfl,e⟩
   refine s (xi r) (lu (tb e 0 [T o.b,V o.e,V o.c,V o.a,.bool o.f,V o.d,V o.g] r Aa r r r r r (show _=#[T o.b,V o.e,V o.c,V o.a,.bool o.f,V o.d,V o.g] from r)) ?_)
   intro ah e
   try dsimp only [List.set] at e
   refine n (q (g (s (X0 r) (s (l3 r (e.bk 0 r) r) (s (mi r) (s (MJ r r) (s (kL r) ?_)))))))
   rcases iv m with ⟨L,m⟩|⟨L,m⟩
   ·rw [decide_eq_true L]
    refine kr r (s (mi r) (kr r (s (Ny r) (kr r (s (l3 r (e.bk 0 r) r) (kr r (s (MJ r r) (s (kC r r) (n ?_)))))))))
    rcases iv m with ⟨M,m⟩|⟨M,m⟩
    ·refine jL (bt M) (g (s (l5 r) (s (mi r) (nO (jO e [[V (t:Int)]] ([(t:Int)]:List Int) (Aq r) r r (by decide) ⟨r,y⟩) ?_))))
     rintro _ ai ⟨aj,rfl,e⟩
     obtain ⟨a3,R,m⟩:=bs m
     refine nO (kP e 2 1 r r rM mK r (by decide) (by decide) (Nat.le_refl _) r r (e.zP 0 0 r r) R) ?_
     rintro _ ak ⟨a4,a5,a6,rfl,e⟩
     refine s (mO r) (n (g (s (nC r r (by omega) (by omega)) (s (mi r) (n ?_)))))
     exact J (u.length - (t+1)) _ _ (by omega) ⟨t+1,a3,a4,a5,a6,r,by omega,⟨r,r,r,r,r,y⟩,(e.ad [2] [1,2]),m⟩
    refine jH (bf M) (wk (g (s (nC r r (by omega) (by omega)) (s (mi r) (n ?_)))))
    exact J (u.length - (t+1)) _ _ (by omega) ⟨t+1,j,a,b,c,r,by omega,⟨r,r,r,r,r,y⟩,(e.arr [1] r),m⟩
   rw [decide_eq_false L]
   refine jJ r (jJ r (jJ r (jJ r (s (jZ r r) (n (jH r (wk (g (s (nC r r (by omega) (by omega)) (s (mi r) (n ?_)))))))))))
   exact J (u.length - (t+1)) _ _ (by omega) ⟨t+1,j,a,b,c,r,by omega,⟨r,r,r,r,r,y⟩,(e.arr [1] r),m⟩
  obtain rfl:t=u.length:=by omega
  rw [lZ,kX] at m
  refine q (g (s (uj r r (by omega)) (n (q (jH r (uK ?_))))))
  exact a2 _ _ ⟨j,a,b,c,⟨r,y⟩,e,sm m⟩
 clear e
 rintro f w ⟨j,a,b,c,hf,e,a7⟩
 obtain ⟨av,rfl⟩:=gP _ _ hf
 clear hf
 subst a7
 replace p:=gi p
 refine q (g (s (l5 r) (s (mO r) (n (kR ?_)))))
 obtain rfl:=sm p
 refine jC r (kW r) ?_
 exact ⟨a,b,c,r,(e.dp [0])⟩
def Ja (m:(List Int)→Option ((List Int))):Prop:=∀ {f:World} {j:Nat→Prop} {h:(List Int)} {a:Option Addr} {b:Nat} {i:(List Int)},Pre f j [] [.l a b h]→m h=some i→
 Calls Try.prog 134 #[Z a h b] f (qw fun v w=>∃ (c:OA)(d:Nat)(e:LV),v=Z c i d∧Bx f w j (lK []) [O f.heap.size c d 3 Int e] [.els e i])
def BF (fu:Nat)(a:(List Int)):Option ((List Int)):=
 (app ([]:List Int) a).bind fun b=>
 some b
theorem IE (fu:Nat):Ja (BF fu):=by
 intro o x j a c p h d
 unfold BF at d
 have b:=h.bx
 clear h
 generalize t:lK _=G at b ⊢
 refine cf Try.func134 r ?_
 refine lI [(0,Z a j c)] ⟨r,y⟩ fun z=>?_
 refine q (g (s (mO r) (n (q (q (g (s (l5 r) (s (WV rM r r) (n ?_)))))))))
 rcases Classical.em (a=none) with f | f
 ·refine jL (bt f) (q (g (s (mO r) (n (kR ?_)))))
  replace b:=b.BZ Int 3
  have hz:=(b.dl 1 r).WU f
  subst hz
  obtain ⟨i,e,d⟩:=bs d
  obtain rfl:=sm d
  obtain rfl:i=[]:=(BI e).2.symm
  refine jC r (kW r) ?_
  exact ⟨none,0,[],r,(b.dp [0])⟩
 refine jH (bf f) (wk (q (g (nO (jO b [] ([]:List Int) (Fa) r r (by decide) y) ?_))))
 rintro _ u ⟨v,rfl,b⟩
 refine s (l5 r) ?_
 obtain ⟨i,e,d⟩:=bs d
 refine nO (kP b 0 0 r r rM mK r (by decide) (by decide) (Nat.le_refl _) r r (b.ysD 1 r) e) ?_
 rintro _ w ⟨k,l,m,rfl,b⟩
 refine s (mO r) (n (kR ?_))
 obtain rfl:=sm d
 refine jC r (kW r) ?_
 exact ⟨k,l,m,r,(b.dp [0])⟩
end
end Go.Proofs.Ytfglbdkfnphjgaa
set_option linter.unusedVariables false
set_option linter.unusedSimpArgs false
namespace Go.Proofs.Ytfglbdkfnphjgaa
open Go.RowKit Go.Fw
def FI (i:Int):List jW→Nat→List Int
 | [],_=>[]
 | x :: r,k=>if x.d≤i∧i≤x.g then (k:Int) :: FI i r (k+1) else FI i r (k+1)
theorem Kn {i:Int}:∀ (r:List jW) (k:Nat),(FI i r k).length≤r.length
 | [],_=>Nat.le_refl _
 | x :: r,k=>by
  have h:=Kn (i:=i) r (k+1)
  unfold FI
  split
  · exact Nat.succ_le_succ h
  · exact Nat.le_succ_of_le h
theorem LM {i q:Int}:∀ (r:List jW) (k:Nat),q ∈ FI i r k→∃ (j:Nat) (x:jW),q=((k+j:Nat):Int)∧r[j]?=some x∧x.d≤i∧i≤x.g
 | [],_,h=>by cases h
 | x :: r,k,h=>by
  unfold FI at h
  have go:q ∈ FI i r (k+1)→∃ (j:Nat) (y:jW),q=((k+j:Nat):Int)∧(x :: r)[j]?=some y∧y.d≤i∧i≤y.g:=fun h=>by
    obtain ⟨j,y,h1,h2,h3⟩:=LM r (k+1) h
    exact ⟨j+1,y,by omega,h2,h3⟩
  by_cases c:x.d≤i∧i≤x.g
  · rw [if_pos c] at h
    rcases List.mem_cons.1 h with h | h
    · exact ⟨0,x,h,rfl,c⟩
    · exact go h
  · rw [if_neg c] at h
    exact go h
theorem Dj {fu:Nat} {i:Int}:∀ (r:List jW) (k:Nat) (acc:List Int),acc.length+r.length≤1000000000→kX fu i r k acc=some (.go (acc ++ FI i r k))
 | [],k,acc,_=>by rw [kX,FI,List.append_nil]
 | x :: r,k,acc,h=>by
  rw [List.length_cons] at h
  rw [kX,FI]
  by_cases c1:x.d≤i
  · by_cases c2:i≤x.g
    · rw [if_pos c1,if_pos c2,if_pos ⟨c1,c2⟩]
      have:app acc [((k:Nat):Int)]=some (acc ++ [((k:Nat):Int)]):=if_pos (by simp only [List.length_cons,List.length_nil];omega)
      rw [this]
      show kX fu i r (k+1) (acc ++ [((k:Nat):Int)])=_
      rw [Dj r (k+1) _ (by simp only [List.length_append,List.length_cons,List.length_nil];omega),List.append_assoc]
      rfl
    · rw [if_pos c1,if_neg c2,if_neg fun z=>c2 z.2]
      exact Dj r (k+1) acc (by omega)
  · rw [if_neg c1,if_neg fun z=>c1 z.1]
    exact Dj r (k+1) acc (by omega)
def Ji (s:jQ) (f i:Int):List Int:=if f < 0 then [] else match s.b[f.toNat]? with
 | none=>[]
 | some V=>FI i V 0
theorem OD {fu:Nat} {s:jQ} {f i:Int} (h:∀ V ∈ s.b,V.length≤24):jA fu s f i=some (Ji s f i):=by
 unfold jA Ji
 by_cases c:f < 0
 · rw [if_pos c,if_pos c]
 rw [if_neg c,if_neg c]
 by_cases d:(s.b.length:Int)≤f
 · rw [if_pos d,List.getElem?_eq_none (by omega)]
 rw [if_neg d]
 obtain ⟨V,hV⟩:=mG (l:=s.b) (k:=f.toNat) (by omega)
 have:ix s.b f=some V:=by
   unfold Go.Fw.ix
   rw [if_neg (by omega),hV]
 rw [this,hV]
 show (kX fu i V 0 []).bind _=_
 rw [Dj V 0 [] (by have:=h V (List.mem_of_getElem? hV);rw [List.length_nil];omega),List.nil_append]
 rfl
theorem Ph {s:jQ} {f i:Int} {j:Nat} {q:Int} (h:(Ji s f i)[j]?=some q):0≤f∧f < s.b.length∧∃ V x,s.b[f.toNat]?=some V∧0≤q∧q < V.length∧V[q.toNat]?=some x∧x.d≤i∧i≤x.g:=by
 unfold Ji at h
 by_cases c:f < 0
 · rw [if_pos c] at h;cases h
 rw [if_neg c] at h
 cases hV:s.b[f.toNat]? with
 | none=>rw [hV] at h;cases h
 | some V=>
   rw [hV] at h
   have hl:=kU hV
   obtain ⟨j,x,h1,h2,h3⟩:=LM V 0 (List.mem_of_getElem? h)
   have hx:=kU h2
   exact ⟨by omega,by omega,V,x,rfl,by omega,by omega,by rw [h1];simpa using h2,h3⟩
theorem Lh {s:jQ} {f i:Int} (h:∀ V ∈ s.b,V.length≤24):(Ji s f i).length≤24:=by
 unfold Ji
 split
 · exact Nat.zero_le _
 · split
   · exact Nat.zero_le _
   · next V hV=>exact Nat.le_trans (Kn V 0) (h V (List.mem_of_getElem? hV))
theorem Wh {fu:Nat} (hf:50≤fu) {l:List Int} (hl:l.length≤1000):kE (zH fu l) (fun s=>s.size≤700000000):=by
 unfold zH
 exact .bd (OW (by omega) hl) fun p hp=>.bd (SQ hf hp) fun s hs=>.mk hs
structure CI (s:jQ):Prop where
 vn:∀ V ∈ s.b,V.length≤24
 fx:∀ f ∈ s.a.b,FX f
theorem Mt {fu:Nat} (hf:10100≤fu) {l:List Int}:kE (u6 fu l) (fun r=>jy r fun s b=>b=true→CI s):=by
 unfold u6
 refine .bd Sd fun l2 h2=>.bd (Wh (by omega) (by omega)) fun t _=>?_
 refine .bp (SN (by omega)) fun p r hr=>.pp hr fun a e hp=>.ite (fun _=>.mk fun z=>(by cases z)) fun c=>?_
 refine .bp (SE hf (hp (by omega))) fun s r hr=>.pp hr fun a e hs=>.mk fun z=>?_
 have q:=hs (of_decide_eq_true z)
 exact ⟨fun V hV=>(q.1.1.2 V hV).2,q.2⟩
end Go.Proofs.Ytfglbdkfnphjgaa
set_option linter.unusedVariables false
set_option linter.unusedSimpArgs false
namespace Go.Proofs.Ytfglbdkfnphjgaa
open Go.RowKit Go.Fw
abbrev Yes {α:Type} (x:Option α):Prop:=kE x (fun _=>True)
theorem Mh {α β:Type} {p:Pn α} {f:α→Option (Pn β)} (h:∀ a,p=.ok a→Yes (f a)):Yes (p.then f):=by
 cases p with
 | ok a=>exact h a rfl
 | _=>exact .mk trivial
theorem Yy {ev:jB→Option (Pn Int)} {ws:List (List Int)} {e:jB} (h:∀ y ∈ e.a,Yes (ev y)):Yes (R8 ev ws e):=by
 unfold R8
 cases ix? ws e.g with
 | none=>exact .mk trivial
 | some l=>
  dsimp only
  refine .ite (fun _=>.mk trivial) fun _=>.ite (fun _=>?_) fun _=>.mk trivial
  cases hA:e.a with
  | nil=>exact .mk trivial
  | cons x r=>exact .bd (h x (by rw [hA];exact .head _)) fun p _=>Mh fun i _=>.mk trivial
theorem Qy:∀ (fu n:Nat) (ws:List (List Int)) (e:jB),zl n e→n≤fu→Yes (CK fu ws e)
 | 0,n,ws,e,h,hn=>by
  obtain rfl:n=0:=by omega
  exact h.elim
 | fu+1,n,ws,e,h,hn=>by
  cases n with
  | zero=>exact h.elim
  | succ n=>
  have ih:∀ y ∈ e.a,Yes (CK fu ws y):=fun y hy=>Qy fu n ws y (h.2 y hy) (by omega)
  rw [CK]
  refine .ite (fun _=>.mk trivial) fun _=>.ite (fun _=>.bd (Yy ih) fun p _=>Mh fun q _=>.mk trivial) fun _=>?_
  cases hA:e.a with
  | nil=>exact .ite (fun _=>.mk trivial) fun _=>.ite (fun _=>.mk trivial) fun _=>.mk trivial
  | cons x l=>
   rw [hA] at ih
   have hx:=ih x (.head _)
   refine .ite (fun _=>.bd hx fun p _=>Mh fun n _=>.mk trivial) fun _=>.ite (fun _=>.bd hx fun p _=>Mh fun n _=>.mk trivial) fun _=>.bd hx fun p _=>Mh fun n _=>?_
   cases l with
   | nil=>exact .mk trivial
   | cons y r=>exact .bd (ih y (.tail _ (.head _))) fun p _=>Mh fun m _=>.mk trivial
theorem Uj {ev:jB→Option (Pn Int)}:∀ (l:List jB) (acc:List Int),(∀ y ∈ l,Yes (ev y))→acc.length+l.length≤1000000000→Yes (Iw ev l acc)
 | [],acc,_,_=>.mk trivial
 | x :: l,acc,h,hn=>by
  rw [List.length_cons] at hn
  rw [Iw]
  exact .bd (h x (.head _)) fun p _=>Mh fun n _=>.bd (.app (by simp only [List.length_cons,List.length_nil];omega)) fun r hr=>by
   subst hr
   exact Uj l _ (fun y hy=>h y (.tail _ hy)) (by rw [kG];omega)
section
variable {s:jQ}
def Fit (s:jQ) (g:sH):Prop:=0≤g.f∧∃ V,s.b[g.f.toNat]?=some V∧g.ws.map List.length=V.map (fun x=>x.a.toNat)∧∀ x ∈ V,0≤x.a∧x.a≤8
theorem Fit.put {f st st':Int} {ws:List (List Int)} {k:Nat} {l l':List Int} (h:Fit s ⟨f,st,ws⟩) (hk:ws[k]?=some l) (hl:l'.length=l.length):Fit s ⟨f,st',ws.set k l'⟩:=by
 obtain ⟨h0,V,h1,h2,h3⟩:=h
 refine ⟨h0,V,h1,?_,h3⟩
 rw [← h2,List.map_set]
 exact set_self (by rw [List.getElem?_map,hk,hl];rfl)
theorem Fit.word {f st:Int} {ws:List (List Int)} {p:Nat × Nat} {v:Int} (h:Fit s ⟨f,st,ws⟩):Fit s ⟨f,st,setW ws p v⟩:=by
 unfold setW
 cases hk:ws[p.1]? with
 | none=>rw [List.set_eq_of_length_le (List.getElem?_eq_none_iff.1 hk)];exact h
 | some l=>exact h.put hk (by rw [List.length_set,List.getD_eq_getElem?_getD,hk];rfl)
def Zx (ws:List (List Int)) (v:Int):rQ:=⟨v,List.replicate (ws.getD v.toNat []).length true,ws.getD v.toNat []⟩
def XK (s:jQ) (g:sH):nJ:=⟨g.f,g.st,(Ji s g.f g.st).map (Zx g.ws)⟩
theorem PO {ws:List (List Int)}:∀ (l:List Int) (acc:List rQ),(∀ v ∈ l,0≤v∧v < ws.length)→acc.length+l.length≤1000000000→Rk ws l acc=some (acc ++ l.map (Zx ws))
 | [],acc,_,_=>by rw [Rk,List.map_nil,List.append_nil]
 | v :: l,acc,h,hn=>by
  rw [List.length_cons] at hn
  have hv:=h v (.head _)
  obtain ⟨row,hr⟩:=mG (l:=ws) (k:=v.toNat) (by omega)
  have h1:ix? ws v=some row:=by unfold ix?;rw [if_neg (by omega),hr]
  have h2:ws.getD v.toNat []=row:=by rw [List.getD_eq_getElem?_getD,hr];rfl
  rw [Rk,h1]
  show (app acc [_]).bind _=_
  unfold Go.Fw.app
  rw [if_pos (by simp only [List.length_cons,List.length_nil];omega)]
  show Rk ws l _=_
  rw [PO l _ (fun y hy=>h y (.tail _ hy)) (by rw [kG];omega),List.map_cons,List.append_assoc]
  unfold Zx
  rw [h2]
  rfl
theorem Fit.vis {g:sH} (h:Fit s g) {v st:Int} (hv:v ∈ Ji s g.f st):0≤v∧v < g.ws.length:=by
 obtain ⟨h0,V,h1,h2,h3⟩:=h
 obtain ⟨j,hj⟩:=List.getElem?_of_mem hv
 obtain ⟨_,_,V',x,hV',q0,q1,_⟩:=Ph hj
 rw [h1] at hV'
 cases hV'
 have:=congrArg List.length h2
 rw [List.length_map,List.length_map] at this
 omega
variable (hv:∀ V ∈ s.b,V.length≤24)
include hv
theorem WZ {fu:Nat} {g:sH} (h:Fit s g):Zt (jA fu s) g=some (XK s g):=by
 unfold Zt
 rw [OD hv]
 show (Rk g.ws (Ji s g.f g.st) []).bind _=_
 rw [PO _ _ (fun v h'=>h.vis h') (by have:=Lh (f:=g.f) (i:=g.st) hv;simp only [List.length_nil];omega)]
 rfl
theorem QC {fu:Nat}:∀ (l:List sH) (acc:List nJ),(∀ g ∈ l,Fit s g)→acc.length+l.length≤1000000000→TK (jA fu s) l acc=some (acc ++ l.map (XK s))
 | [],acc,_,_=>by rw [TK,List.map_nil,List.append_nil]
 | g :: l,acc,h,hn=>by
  rw [List.length_cons] at hn
  rw [TK,WZ hv (h g (.head _))]
  show (app acc [_]).bind _=_
  unfold Go.Fw.app
  rw [if_pos (by simp only [List.length_cons,List.length_nil];omega)]
  show TK _ l _=_
  rw [QC l _ (fun y hy=>h y (.tail _ hy)) (by rw [kG];omega),List.map_cons,List.append_assoc]
  rfl
omit hv in
def OB (s:jQ) (rest:List sH) (S:Sg) (id:Int):Sg:=⟨⟨S.a.f,id,S.a.ws⟩,S.hist ++ [⟨((⟨S.a.f,id,S.a.ws⟩:sH) :: rest).map (XK s)⟩],S.out⟩
theorem Ak {fu N:Nat} {rest:List sH} {S:Sg} {id:Int} (h:Fit s S.a) (hr:∀ g ∈ rest,Fit s g) (hn:rest.length≤20) :
   event (jA fu s) N rest S id=if N≤S.hist.length then some (.err 13,S) else some (.ok (),OB s rest S id):=by
 unfold event
 split
 · rfl
 · rw [QC hv _ _ (fun g hg=>by
    rcases List.mem_cons.1 hg with rfl | hg
    · exact h
    · exact hr g hg) (by simp only [List.length_cons,List.length_nil];omega)]
   rfl
end
end Go.Proofs.Ytfglbdkfnphjgaa
set_option linter.unusedVariables false
set_option linter.unusedSimpArgs false
namespace Go.Proofs.Ytfglbdkfnphjgaa
open Go.RowKit Go.Fw
theorem Wx {α:Type} {l:List α} {i:Int} {x:α} (h:ix? l i=some x):∃ k:Nat,i=(k:Int)∧l[k]?=some x:=by
 unfold ix? at h
 split at h
 · cases h
 · exact ⟨i.toNat,by omega,h⟩
def Lg (s:jQ) (e:kK):Prop:=∃ gs:List sH,e.a=gs.map (XK s)∧gs.length≤20∧∀ g ∈ gs,Fit s g
structure CO (s:jQ) (N:Nat) (S:Sg):Prop where
 hl:S.hist.length≤N
 ol:S.out.length≤S.hist.length
 fit:Fit s S.a
 ev:∀ e ∈ S.hist,Lg s e
structure Nw (s:jQ) (N:Nat) (S S':Sg):Prop where
 gd:CO s N S'
 hp:S.hist <+: S'.hist
 op:S.out <+: S'.out
theorem Nw.rfl' {s:jQ} {N:Nat} {S:Sg} (h:CO s N S):Nw s N S S:=⟨h,List.prefix_rfl,List.prefix_rfl⟩
theorem Nw.trans {s:jQ} {N:Nat} {S S1 S2:Sg} (h:Nw s N S S1) (k:Nw s N S1 S2):Nw s N S S2:=⟨k.gd,h.hp.trans k.hp,h.op.trans k.op⟩
theorem LB {ev:jB→Option (Pn Int)} {l:List jB} {S:Sg} {β:Type} {k:Int→Option (Pn β × Sg)} {P:Pn β × Sg→Prop} (h:∀ y ∈ l,Yes (ev y)) (hp:∀ p,P (p,S)) (hk:∀ n,kE (k n) P):kE (one ev l S k) P:=by
 unfold one
 cases l with
 | nil=>exact .mk (hp _)
 | cons x l=>
  refine .bd (h x (.head _)) fun p _=>?_
  cases p with
  | ok n=>exact hk n
  | _=>exact .mk (hp _)
theorem QY {ev:jB→Option (Pn Int)} {ws:List (List Int)} {l:List jB} {S:Sg} {β:Type} {k:Nat × Nat→Option (Pn β × Sg)} {P:Pn β × Sg→Prop} (h:∀ y ∈ l,Yes (R8 ev ws y)) (hp:∀ p,P (p,S)) (hk:∀ n,kE (k n) P):kE (ME ev ws l S k) P:=by
 unfold ME
 cases l with
 | nil=>exact .mk (hp _)
 | cons x l=>
  refine .bd (h x (.head _)) fun p _=>?_
  cases p with
  | ok n=>exact hk n
  | _=>exact .mk (hp _)
theorem MO:∀ (l:List jW) (acc:List (List Int)),acc.length+l.length≤1000000000→kE (EK l acc) (fun p=>∀ ws,p=.ok ws→ws.map List.length=acc.map List.length ++ l.map (fun x=>x.a.toNat)∧∀ x ∈ l,0≤x.a∧x.a≤8)
 | [],acc,_=>.mk fun ws h=>by cases h;exact ⟨by rw [List.map_nil,List.append_nil],fun x hx=>by cases hx⟩
 | v :: l,acc,hn=>by
  rw [List.length_cons] at hn
  rw [EK]
  refine .ite (fun _=>.mk fun ws h=>by cases h) fun c=>.bd (.app (by simp only [List.length_cons,List.length_nil];omega)) fun r hr=>?_
  subst hr
  refine (MO l _ (by rw [kG];omega)).imp fun p hp ws hw=>?_
  obtain ⟨h1,h2⟩:=hp ws hw
  refine ⟨by rw [h1,List.map_append,List.append_assoc];simp,fun x hx=>?_⟩
  rcases List.mem_cons.1 hx with rfl | hx
  · omega
  · exact h2 x hx
theorem IL:∀ (l:List Int) (i:Nat) (ws ws':List (List Int)),Hl l i ws=.ok ws'→ws'.map List.length=ws.map List.length
 | [],_,ws,ws',h=>by cases h;rfl
 | v :: l,i,ws,ws',h=>by
  rw [Hl] at h
  cases hw:ws[i]? with
  | none=>rw [hw] at h;cases h
  | some row=>
   rw [hw] at h
   cases row with
   | nil=>cases h
   | cons z row=>
    rw [IL l _ _ ws' h,List.map_set]
    exact set_self (by rw [List.getElem?_map,hw];rfl)
section
variable {s:jQ} {N:Nat}
theorem Qc {sm:Sm} {M n:Nat} (hS:∀ S x,M≤S.hist.length→CO s N S→Ce n x→kE (sm S x) (fun r=>Nw s N S r.2)):∀ (l:List jN) (S:Sg),M≤S.hist.length→CO s N S→(∀ y ∈ l,Ce n y)→kE (EG sm S l) (fun r=>Nw s N S r.2)
 | [],S,_,h,_=>.mk (.rfl' h)
 | x :: l,S,hM,h,hl=>by
  rw [EG]
  refine .bd (hS S x hM h (hl x (.head _))) fun r hr=>?_
  obtain ⟨p,S1⟩:=r
  have k:=Qc hS l S1 (Nat.le_trans hM hr.hp.length_le) hr.gd (fun y hy=>hl y (.tail _ hy))
  cases p with
  | ok o=>
   cases o with
   | none=>exact k.imp fun r h=>hr.trans h
   | some v=>exact .mk hr
  | _=>exact .mk hr
structure Cl (s:jQ) (N:Nat) (hist:List kK) (out:List Int) (h:List kK) (o:List Int):Prop where
 hl:h.length≤N
 ol:o.length≤h.length
 ev:∀ e ∈ h,Lg s e
 hp:hist <+: h
 op:out <+: o
theorem Pe (hs:CI s) {sm:List sH→Sm} {stk:List sH} {f:Int} {args:List Int} {hist:List kK} {out:List Int} (h1:hist.length≤N) (h2:out.length≤hist.length) (h3:∀ e ∈ hist,Lg s e)
  (hS:stk.length≤19→∀ S x n,n≤10→hist.length≤S.hist.length→CO s N S→Ce n x→kE (sm stk S x) (fun r=>Nw s N S r.2)):kE (AY sm s stk f args hist out) (fun r=>Cl s N hist out r.2.1 r.2.2):=by
 have hC:Cl s N hist out hist out:=⟨h1,h2,h3,List.prefix_rfl,List.prefix_rfl⟩
 unfold AY
 refine .ite (fun _=>.mk hC) fun c=>?_
 cases hV:ix? s.b f with
 | none=>exact .mk hC
 | some vars=>
 obtain ⟨k,rfl,hk⟩:=Wx hV
 have h24:=hs.vn vars (List.mem_of_getElem? hk)
 refine .bd (MO vars [] (by simp only [List.length_nil];omega)) fun p hp=>?_
 cases p with
 | ok ws=>
  obtain ⟨h4,h5⟩:=hp ws rfl
  cases hA:Hl args 0 ws with
  | ok ws'=>
   simp only [hA]
   cases hF:ix? s.a.b (k:Int) with
   | none=>exact .mk hC
   | some fn=>
    obtain ⟨k2,_,hk2⟩:=Wx hF
    have hfit:Fit s ⟨(k:Int),0,ws'⟩:=⟨Int.natCast_nonneg k,vars,by dsimp only;rw [Int.toNat_natCast];exact hk,by dsimp only;rw [IL _ _ _ _ hA,h4];rfl,h5⟩
    refine .bd (Qc (M:=hist.length) (n:=10) (fun S x=>hS (by omega) S x 10 (Nat.le_refl _)) fn.d ⟨⟨(k:Int),0,ws'⟩,hist,out⟩ (Nat.le_refl _) ⟨h1,h2,hfit,h3⟩ (hs.fx fn (List.mem_of_getElem? hk2))) fun r hr=>?_
    exact .mk ⟨hr.gd.hl,hr.gd.ol,hr.gd.ev,hr.hp,hr.op⟩
  | _=>simp only [hA];exact .mk hC
 | _=>exact .mk hC
theorem F6 {rest:List sH} {S:Sg} {id:Int} (h:CO s N S) (hr:∀ g ∈ rest,Fit s g) (hn:rest.length≤19) (hN:S.hist.length < N):Nw s N S (OB s rest S id):=by
 have hf:Fit s ⟨S.a.f,id,S.a.ws⟩:=h.fit
 refine ⟨⟨by unfold OB;rw [kG];omega,by unfold OB;rw [kG];exact Nat.le_succ_of_le h.ol,hf,oq h.ev ⟨_,rfl,by rw [List.length_cons];omega,fun g hg=>?_⟩⟩,List.prefix_append _ _,List.prefix_rfl⟩
 rcases List.mem_cons.1 hg with rfl | hg
 · exact hf
 · exact hr g hg
theorem Wj (hs:CI s) {rest:List sH} (hr:∀ g ∈ rest,Fit s g) (hn:rest.length≤19) {fv:Nat} {id:Int} {M:Nat} {cond:Sg→Option (Pn Int)} {body:Sg→Option (Pn (Option Int) × Sg)} (hc:∀ S,Yes (cond S)) (hb:∀ S,M≤S.hist.length→CO s N S→kE (body S) (fun r=>Nw s N S r.2)) :
  ∀ (n:Nat) (S:Sg),M≤S.hist.length→CO s N S→N - S.hist.length+1≤n→kE (Rj cond body (fun S=>event (jA fv s) N rest S id) n S) (fun r=>Nw s N S r.2)
 | 0,S,_,_,h=>by omega
 | n+1,S,hM,h,hn'=>by
  rw [Rj]
  refine .bd (hc S) fun p _=>?_
  cases p with
  | ok v=>
   refine .ite (fun _=>.mk (.rfl' h)) fun _=>.bd (hb S hM h) fun r hr1=>?_
   obtain ⟨p,S1⟩:=r
   cases p with
   | ok o=>
    cases o with
    | none=>
     have hl:=hr1.hp.length_le
     dsimp only at hl hr1 ⊢
     rw [Ak hs.vn hr1.gd.fit hr (by omega)]
     by_cases hN:N≤S1.hist.length
     · rw [if_pos hN];exact .mk hr1
     · rw [if_neg hN]
       have k:=F6 (id:=id) hr1.gd hr hn (by omega)
       refine (Wj hs hr hn hc hb n _ (Nat.le_trans hM (Nat.le_trans hl k.hp.length_le)) k.gd (by unfold OB;rw [kG];omega)).imp fun r h=>(hr1.trans k).trans h
    | some v=>exact .mk hr1
   | _=>exact .mk hr1
  | _=>exact .mk (.rfl' h)
theorem RI (hs:CI s) {sm:List sH→Sm} {rest:List sH} {fu:Nat} {S:Sg} {x:jN} {k:Int→Sg→Option (Pn (Option Int) × Sg)} (h:CO s N S) (hr:∀ g ∈ rest,Fit s g) (hA:x.a.length≤5000∧∀ y ∈ x.a,zl 5000 y) (hf:5000≤fu)
  (hS:rest.length≤18→∀ S' x n,n≤10→S.hist.length≤S'.hist.length→CO s N S'→Ce n x→kE (sm (S.a :: rest) S' x) (fun r=>Nw s N S' r.2)) (hk:∀ v h o,Cl s N S.hist S.out h o→kE (k v ⟨S.a,h,o⟩) (fun r=>Nw s N S r.2)) :
  kE (AZ sm s rest fu S x k) (fun r=>Nw s N S r.2):=by
 unfold AZ
 refine .bd (Uj x.a [] (fun y hy=>Qy fu 5000 _ y (hA.2 y hy) hf) (by simp only [List.length_nil];omega)) fun p _=>?_
 cases p with
 | ok l=>
  refine .bd (Pe hs h.hl h.ol h.ev (fun h19=>hS (by rw [List.length_cons] at h19;omega))) fun r hr=>?_
  obtain ⟨p,h',o⟩:=r
  have hc:Nw s N S ⟨S.a,h',o⟩:=⟨⟨hr.hl,hr.ol,h.fit,hr.ev⟩,hr.hp,hr.op⟩
  cases p with
  | ok v=>exact hk v h' o hr
  | _=>exact .mk hc
 | _=>exact .mk (.rfl' h)
theorem QK (hs:CI s) (hN:N≤5000) {fv:Nat}:∀ (fu:Nat) (rest:List sH) (S:Sg) (x:jN) (n:Nat),(∀ g ∈ rest,Fit s g)→rest.length≤19→CO s N S→Ce n x→n≤10→5001+(N - S.hist.length)≤fu→
  kE (stM (jA fv s) s N fu rest S x) (fun r=>Nw s N S r.2)
 | 0,_,_,_,_,_,_,_,_,_,h=>by omega
 | fu+1,rest,S,x,n,hr,hn,h,hx,hn10,hf=>by
  cases n with
  | zero=>exact hx.elim
  | succ n=>
  obtain ⟨x1,x2,x3,x4⟩:=hx
  rw [stM,Ak hs.vn h.fit hr (by omega)]
  by_cases hN2:N≤S.hist.length
  · rw [if_pos hN2];exact .mk (.rfl' h)
  rw [if_neg hN2]
  have k:=F6 (id:=x.n) h hr hn (by omega)
  have hl:(OB s rest S x.n).hist.length=S.hist.length+1:=kG
  have ho:(OB s rest S x.n).out.length+1≤(OB s rest S x.n).hist.length:=by rw [hl];exact Nat.succ_le_succ h.ol
  generalize OB s rest S x.n=E at k hl ho
  refine kE.imp (Q:=fun r=>Nw s N E r.2) ?_ fun r h=>k.trans h
  have hE:=k.gd
  show kE (if x.e=1 then _ else _) _
  have ihs:∀ (rest:List sH),(∀ g ∈ rest,Fit s g)→rest.length≤19→∀ S' x n,n≤10→E.hist.length≤S'.hist.length→CO s N S'→Ce n x→kE (stM (jA fv s) s N fu rest S' x) (fun r=>Nw s N S' r.2):=
    fun rest hr hn S' x n h10 hl' hG hX=>QK hs hN fu rest S' x n hr hn hG hX h10 (by omega)
  have hcall:∀ {k:Int→Sg→Option (Pn (Option Int) × Sg)},(∀ v h o,Cl s N E.hist E.out h o→kE (k v ⟨E.a,h,o⟩) (fun r=>Nw s N E r.2))→kE (AZ (stM (jA fv s) s N fu) s rest fu E x k) (fun r=>Nw s N E r.2):=fun hk=>
    RI hs hE hr x2 (by omega) (fun h18=>ihs (E.a :: rest) (fun g hg=>by
      rcases List.mem_cons.1 hg with rfl | hg
      · exact hE.fit
      · exact hr g hg) (by rw [List.length_cons];omega)) hk
  have hls:∀ (l:List jN) (S':Sg),E.hist.length≤S'.hist.length→CO s N S'→(∀ y ∈ l,Ce n y)→kE (EG (stM (jA fv s) s N fu rest) S' l) (fun r=>Nw s N S' r.2):=
    Qc (M:=E.hist.length) (n:=n) fun S' x=>ihs rest hr hn S' x n (by omega)
  have hev:∀ ws,∀ y ∈ x.a,Yes (CK fu ws y):=fun ws y hy=>Qy fu 5000 ws y (x2.2 y hy) (by omega)
  have hwd:∀ ws,∀ y ∈ x.c,Yes (R8 (CK fu ws) ws y):=fun ws y hy=>Yy fun z hz=>Qy fu 5000 ws z (zl.mono (n:=4999) ((x1 y hy).2 z hz) (by decide)) (by omega)
  refine .ite (fun _=>?_) fun _=>.ite (fun _=>?_) fun _=>.ite (fun _=>?_) fun _=>.ite (fun _=>?_) fun _=>.ite (fun _=>?_) fun _=>.ite (fun _=>?_) fun _=>.ite (fun _=>?_) fun _=>.ite (fun _=>?_) fun _=>.ite (fun _=>?_) fun _=>.ite (fun _=>?_) fun _=>?_
  · cases hi:ix? E.a.ws x.g with
    | none=>exact .mk (.rfl' hE)
    | some l=>
      obtain ⟨q,hq,hql⟩:=Wx hi
      exact .mk ⟨⟨hE.hl,hE.ol,by
        rw [show x.g.toNat=q from by omega]
        exact Fit.put (st:=E.a.st) hE.fit hql (List.length_replicate ..),hE.ev⟩,List.prefix_rfl,List.prefix_rfl⟩
  · exact QY (hwd _) (fun p=>.rfl' hE) fun q=>LB (hev _) (fun p=>.rfl' hE) fun v=>.mk ⟨⟨hE.hl,hE.ol,Fit.word (st:=E.a.st) hE.fit,hE.ev⟩,List.prefix_rfl,List.prefix_rfl⟩
  · refine hcall fun v h' o hC=>?_
    have hc:Nw s N E ⟨E.a,h',o⟩:=⟨⟨hC.hl,hC.ol,hE.fit,hC.ev⟩,hC.hp,hC.op⟩
    exact .ite (fun _=>.mk hc) fun _=>QY (hwd _) (fun p=>hc) fun q=>.mk ⟨⟨hC.hl,hC.ol,Fit.word (st:=E.a.st) hE.fit,hC.ev⟩,hC.hp,hC.op⟩
  · refine LB (hev _) (fun p=>.rfl' hE) fun v=>hls _ _ (Nat.le_refl _) hE fun y hy=>?_
    split at hy
    · exact x3 y hy
    · exact x4 y hy
  · refine Wj (M:=E.hist.length) hs hr hn (fun S=>?_) (fun S' hM hG=>hls _ _ hM hG x3) fu E (Nat.le_refl _) hE (by omega)
    cases hA:x.a with
    | nil=>exact .mk trivial
    | cons y l=>exact hev _ y (by rw [hA];exact .head _)
  · exact .ite (fun _=>hcall fun v h' o hC=>.mk ⟨⟨hC.hl,hC.ol,hE.fit,hC.ev⟩,hC.hp,hC.op⟩) fun _=>LB (hev _) (fun p=>.rfl' hE) fun v=>.mk (.rfl' hE)
  · exact LB (hev _) (fun p=>.rfl' hE) fun v=>.mk (.rfl' hE)
  · refine .bd (hls _ _ (Nat.le_refl _) hE x3) fun r hr1=>?_
    obtain ⟨p,S1⟩:=r
    cases p with
    | Ep v=>
      dsimp only
      cases hi:ix? S1.a.ws x.g with
      | none=>exact .mk hr1
      | some row=>
        obtain ⟨q,hq,hql⟩:=Wx hi
        cases row with
        | nil=>exact .mk hr1
        | cons z row=>
         have hk2:Nw s N S1 { S1 with a:={ S1.a with ws:=S1.a.ws.set x.g.toNat (v :: row) } }:=⟨⟨hr1.gd.hl,hr1.gd.ol,by
          rw [show x.g.toNat=q from by omega]
          exact Fit.put (st:=S1.a.st) hr1.gd.fit hql rfl,hr1.gd.ev⟩,List.prefix_rfl,List.prefix_rfl⟩
         exact (hls x.h { S1 with a:={ S1.a with ws:=S1.a.ws.set x.g.toNat (v :: row) } } hr1.hp.length_le hk2.gd x4).imp fun r h=>(hr1.trans hk2).trans h
    | _=>exact .mk hr1
  · refine LB (hev _) (fun p=>.rfl' hE) fun v=>.bd (.app (by have:=hE.hl;simp only [List.length_cons,List.length_nil];omega)) fun o ho'=>?_
    subst ho'
    exact .mk ⟨⟨hE.hl,by dsimp only;rw [kG];omega,hE.fit,hE.ev⟩,List.prefix_rfl,List.prefix_append _ _⟩
  · exact .mk (.rfl' hE)
  · exact .mk (.rfl' hE)
end
end Go.Proofs.Ytfglbdkfnphjgaa
namespace Go.Fw
theorem kE.of' {α:Type} {x:Option α} {P:α→Prop} {v:α} (h:kE x P) (e:x=some v):P v:=by
 obtain ⟨u,h1,h2⟩:=h
 rw [e] at h1
 cases h1
 exact h2
end Go.Fw
set_option linter.unusedVariables false
set_option linter.unusedSimpArgs false
namespace Go.Proofs.Ytfglbdkfnphjgaa
open Go.RowKit Go.Fw
def Rl {β:Type} (r1 r2:Pn β × Sg):Prop:=r1=r2 ∨ (r1.1=.err 13∧r1.2.hist <+: r2.2.hist∧r1.2.out <+: r2.2.out)
theorem Rl.rfl' {β:Type} (r:Pn β × Sg):Rl r r:=.inl rfl
theorem XH {ev:jB→Option (Pn Int)} {l:List jB} {S:Sg} {β:Type} {k1 k2:Int→Option (Pn β × Sg)} {r1 r2:Pn β × Sg} (h1:one ev l S k1=some r1) (h2:one ev l S k2=some r2) (h:∀ n,k1 n=some r1→k2 n=some r2→Rl r1 r2):Rl r1 r2:=by
 unfold one at h1 h2
 cases l with
 | nil=>cases h1;cases h2;exact .rfl' _
 | cons x l=>
  obtain ⟨p,e,h1⟩:=bs h1
  obtain ⟨p',e',h2⟩:=bs h2
  rw [e] at e'
  cases e'
  cases p with
  | ok n=>exact h n h1 h2
  | _=>cases h1;cases h2;exact .rfl' _
section
variable {s:jQ} {N:Nat}
theorem WB {sm1 sm2:Sm} {M n:Nat} (hT:∀ S x,M≤S.hist.length→CO s N S→Ce n x→kE (sm2 S x) (fun r=>Nw s N S r.2))
  (hS:∀ S x r1 r2,M≤S.hist.length→CO s N S→Ce n x→sm1 S x=some r1→sm2 S x=some r2→Rl r1 r2) :
  ∀ (l:List jN) (S:Sg) (r1 r2:Pn (Option Int) × Sg),M≤S.hist.length→CO s N S→(∀ y ∈ l,Ce n y)→EG sm1 S l=some r1→EG sm2 S l=some r2→Rl r1 r2
 | [],S,r1,r2,_,_,_,h1,h2=>by cases h1;cases h2;exact .rfl' _
 | x :: l,S,r1,r2,hM,h,hl,h1,h2=>by
  rw [EG] at h1 h2
  obtain ⟨⟨p1,S1⟩,e1,h1⟩:=bs h1
  obtain ⟨⟨p2,S2⟩,e2,h2⟩:=bs h2
  have k:=(hT S x hM h (hl x (.head _))).of' e2
  have hM2:=Nat.le_trans hM k.hp.length_le
  rcases hS S x _ _ hM h (hl x (.head _)) e1 e2 with e | ⟨e,k1,k2⟩
  · cases e
    cases p1 with
    | ok o=>
     cases o with
     | none=>exact WB hT hS l S1 r1 r2 hM2 k.gd (fun y hy=>hl y (.tail _ hy)) h1 h2
     | some v=>cases h1;cases h2;exact .rfl' _
    | _=>cases h1;cases h2;exact .rfl' _
  · dsimp only at e
    subst e
    cases h1
    refine .inr ⟨rfl,?_⟩
    cases p2 with
    | ok o=>
     cases o with
     | none=>
      have q:=(Qc hT l S2 hM2 k.gd (fun y hy=>hl y (.tail _ hy))).of' h2
      exact ⟨k1.trans q.hp,k2.trans q.op⟩
     | some v=>cases h2;exact ⟨k1,k2⟩
    | _=>cases h2;exact ⟨k1,k2⟩
theorem P9 (hs:CI s) {sm1 sm2:List sH→Sm} {stk:List sH} {f:Int} {args:List Int} {hist:List kK} {out:List Int} (h1:hist.length≤N) (h2:out.length≤hist.length) (h3:∀ e ∈ hist,Lg s e)
   (hT:stk.length≤19→∀ S x n,n≤10→hist.length≤S.hist.length→CO s N S→Ce n x→kE (sm2 stk S x) (fun r=>Nw s N S r.2))
   (hS:stk.length≤19→∀ S x n r1 r2,n≤10→hist.length≤S.hist.length→CO s N S→Ce n x→sm1 stk S x=some r1→sm2 stk S x=some r2→Rl r1 r2)
   {r1 r2:Pn Int × List kK × List Int} (e1:AY sm1 s stk f args hist out=some r1) (e2:AY sm2 s stk f args hist out=some r2) :
   r1=r2 ∨ (r1.1=.err 13∧r1.2.1 <+: r2.2.1∧r1.2.2 <+: r2.2.2):=by
 unfold AY at e1 e2
 by_cases c:20≤stk.length
 · rw [if_pos c] at e1 e2
   cases e1;cases e2;exact .inl rfl
 rw [if_neg c] at e1 e2
 cases hV:ix? s.b f with
 | none=>rw [hV] at e1 e2;cases e1;cases e2;exact .inl rfl
 | some vars=>
 rw [hV] at e1 e2
 obtain ⟨k,rfl,hk⟩:=Wx hV
 have h24:=hs.vn vars (List.mem_of_getElem? hk)
 obtain ⟨p,hp,e1⟩:=bs e1
 obtain ⟨p',hp',e2⟩:=bs e2
 have hI:=(MO vars [] (by simp only [List.length_nil];omega)).of' hp
 rw [hp] at hp'
 cases hp'
 cases p with
 | ok ws=>
   obtain ⟨h4,h5⟩:=hI ws rfl
   dsimp only at e1 e2
   cases hA:Hl args 0 ws with
   | ok ws'=>
    simp only [hA] at e1 e2
    cases hF:ix? s.a.b (k:Int) with
    | none=>rw [hF] at e1 e2;cases e1;cases e2;exact .inl rfl
    | some fn=>
     rw [hF] at e1 e2
     obtain ⟨k2,_,hk2⟩:=Wx hF
     have hfit:Fit s ⟨(k:Int),0,ws'⟩:=⟨Int.natCast_nonneg k,vars,by dsimp only;rw [Int.toNat_natCast];exact hk,by dsimp only;rw [IL _ _ _ _ hA,h4];rfl,h5⟩
     obtain ⟨⟨p1,S1⟩,q1,e1⟩:=bs e1
     obtain ⟨⟨p2,S2⟩,q2,e2⟩:=bs e2
     have hR:=WB (M:=hist.length) (n:=10) (fun S x=>hT (by omega) S x 10 (Nat.le_refl _)) (fun S x r1 r2=>hS (by omega) S x 10 r1 r2 (Nat.le_refl _)) fn.d ⟨⟨(k:Int),0,ws'⟩,hist,out⟩ _ _ (Nat.le_refl _) ⟨h1,h2,hfit,h3⟩ (hs.fx fn (List.mem_of_getElem? hk2)) q1 q2
     cases e1
     cases e2
     rcases hR with e | ⟨e,k1,k2⟩
     · cases e;exact .inl rfl
     · dsimp only at e
       subst e
       exact .inr ⟨rfl,k1,k2⟩
   | _=>simp only [hA] at e1 e2;cases e1;cases e2;exact .inl rfl
 | _=>cases e1;cases e2;exact .inl rfl
theorem Td (hs:CI s) {sm1 sm2:List sH→Sm} {rest:List sH} {fu:Nat} {S:Sg} {x:jN} {k1 k2:Int→Sg→Option (Pn (Option Int) × Sg)} (h:CO s N S)
  (hT:rest.length≤18→∀ S' x n,n≤10→S.hist.length≤S'.hist.length→CO s N S'→Ce n x→kE (sm2 (S.a :: rest) S' x) (fun r=>Nw s N S' r.2))
  (hS:rest.length≤18→∀ S' x n r1 r2,n≤10→S.hist.length≤S'.hist.length→CO s N S'→Ce n x→sm1 (S.a :: rest) S' x=some r1→sm2 (S.a :: rest) S' x=some r2→Rl r1 r2)
  (hk:∀ v h o r1 r2,k1 v ⟨S.a,h,o⟩=some r1→k2 v ⟨S.a,h,o⟩=some r2→Rl r1 r2) (hk2:∀ v h o r,k2 v ⟨S.a,h,o⟩=some r→r.2.hist=h∧r.2.out=o)
  {r1 r2:Pn (Option Int) × Sg} (e1:AZ sm1 s rest fu S x k1=some r1) (e2:AZ sm2 s rest fu S x k2=some r2):Rl r1 r2:=by
 unfold AZ at e1 e2
 obtain ⟨p,hp,e1⟩:=bs e1
 obtain ⟨p',hp',e2⟩:=bs e2
 rw [hp] at hp'
 cases hp'
 cases p with
 | ok l=>
  obtain ⟨⟨p1,h1,o1⟩,q1,e1⟩:=bs e1
  obtain ⟨⟨p2,h2,o2⟩,q2,e2⟩:=bs e2
  rcases P9 hs h.hl h.ol h.ev (fun h19=>hT (by rw [List.length_cons] at h19;omega)) (fun h19=>hS (by rw [List.length_cons] at h19;omega)) q1 q2 with e | ⟨e,k3,k4⟩
  · cases e
    cases p1 with
    | ok v=>exact hk v _ _ _ _ e1 e2
    | _=>cases e1;cases e2;exact .rfl' _
  · dsimp only at e
    subst e
    cases e1
    refine .inr ⟨rfl,?_⟩
    cases p2 with
    | ok v=>
     have q:=hk2 v _ _ _ e2
     rw [q.1,q.2]
     exact ⟨k3,k4⟩
    | _=>cases e2;exact ⟨k3,k4⟩
 | _=>cases e1;cases e2;exact .rfl' _
theorem Zk (hs:CI s) {N1:Nat} (h12:N1≤N) {rest:List sH} (hr:∀ g ∈ rest,Fit s g) (hn:rest.length≤19) {fv:Nat} {id:Int} {M:Nat} {cond:Sg→Option (Pn Int)} {body1 body2:Sg→Option (Pn (Option Int) × Sg)} (hc:∀ S,Yes (cond S))
  (hT:∀ S,M≤S.hist.length→CO s N S→kE (body2 S) (fun r=>Nw s N S r.2)) (hb:∀ S r1 r2,M≤S.hist.length→CO s N S→body1 S=some r1→body2 S=some r2→Rl r1 r2) :
  ∀ (n:Nat) (S:Sg) (r1 r2:Pn (Option Int) × Sg),M≤S.hist.length→CO s N S→N - S.hist.length+1≤n→Rj cond body1 (fun S=>event (jA fv s) N1 rest S id) n S=some r1→Rj cond body2 (fun S=>event (jA fv s) N rest S id) n S=some r2→Rl r1 r2
 | 0,S,_,_,_,_,h,_,_=>by omega
 | n+1,S,r1,r2,hM,h,hn',e1,e2=>by
  rw [Rj] at e1 e2
  obtain ⟨p,hp,e1⟩:=bs e1
  obtain ⟨p',hp',e2⟩:=bs e2
  rw [hp] at hp'
  cases hp'
  cases p with
  | ok v=>
   dsimp only at e1 e2
   by_cases hv:v=0
   · rw [if_pos hv] at e1 e2
     cases e1;cases e2;exact .rfl' _
   rw [if_neg hv] at e1 e2
   obtain ⟨⟨p1,S1⟩,q1,e1⟩:=bs e1
   obtain ⟨⟨p2,S2⟩,q2,e2⟩:=bs e2
   have k:=(hT S hM h).of' q2
   have hl:=k.hp.length_le
   dsimp only at k hl
   have rest2:∀ r,(match (p2:Pn (Option Int)) with
      | .ok none=>(event (jA fv s) N rest S2 id).bind fun (p,s_1)=>match p with
       | .ok _=>Rj cond body2 (fun S=>event (jA fv s) N rest S id) n s_1
       | p=>some (p.up,s_1)
      | p=>some (p,S2))=some r→S2.hist <+: r.2.hist∧S2.out <+: r.2.out:=fun r hr'=>by
     cases p2 with
     | ok o=>
      cases o with
      | none=>
       dsimp only at hr'
       rw [Ak hs.vn k.gd.fit hr (by omega)] at hr'
       by_cases hN:N≤S2.hist.length
       · rw [if_pos hN] at hr';cases hr';exact ⟨List.prefix_rfl,List.prefix_rfl⟩
       · rw [if_neg hN] at hr'
         have k3:=F6 (id:=id) k.gd hr hn (by omega)
         have q:=(Wj hs hr hn hc hT n _ (Nat.le_trans hM (Nat.le_trans hl k3.hp.length_le)) k3.gd (by unfold OB;rw [kG];omega)).of' hr'
         exact ⟨k3.hp.trans q.hp,k3.op.trans q.op⟩
      | some v=>cases hr';exact ⟨List.prefix_rfl,List.prefix_rfl⟩
     | _=>cases hr';exact ⟨List.prefix_rfl,List.prefix_rfl⟩
   rcases hb S _ _ hM h q1 q2 with e | ⟨e,k1,k2⟩
   · cases e
     cases p1 with
     | ok o=>
      cases o with
      | none=>
       dsimp only at e1 e2
       rw [Ak hs.vn k.gd.fit hr (by omega)] at e1
       by_cases hN:N1≤S1.hist.length
       · rw [if_pos hN] at e1
         cases e1
         exact .inr ⟨rfl,rest2 _ e2⟩
       · rw [if_neg hN] at e1
         rw [Ak hs.vn k.gd.fit hr (by omega),if_neg (by omega)] at e2
         have k3:=F6 (id:=id) k.gd hr hn (by omega)
         exact Zk hs h12 hr hn hc hT hb n _ _ _ (Nat.le_trans hM (Nat.le_trans hl k3.hp.length_le)) k3.gd (by unfold OB;rw [kG];omega) e1 e2
      | some v=>cases e1;cases e2;exact .rfl' _
     | _=>cases e1;cases e2;exact .rfl' _
   · dsimp only at e
     subst e
     cases e1
     have q:=rest2 _ e2
     exact .inr ⟨rfl,k1.trans q.1,k2.trans q.2⟩
  | _=>cases e1;cases e2;exact .rfl' _
theorem XT (hs:CI s) (hN:N≤5000) {N1:Nat} (h12:N1≤N) {fv:Nat}:∀ (fu:Nat) (rest:List sH) (S:Sg) (x:jN) (n:Nat) (r1 r2:Pn (Option Int) × Sg),(∀ g ∈ rest,Fit s g)→rest.length≤19→CO s N S→Ce n x→n≤10→5001+(N - S.hist.length)≤fu→
  stM (jA fv s) s N1 fu rest S x=some r1→stM (jA fv s) s N fu rest S x=some r2→Rl r1 r2
 | 0,_,_,_,_,_,_,_,_,_,_,_,h,_,_=>by omega
 | fu+1,rest,S,x,n,r1,r2,hr,hn,h,hx,hn10,hf,e1,e2=>by
  have hmono:=(QK hs hN (fu+1) rest S x n hr hn h hx hn10 hf).of' e2
  cases n with
  | zero=>exact hx.elim
  | succ n=>
  obtain ⟨x1,x2,x3,x4⟩:=hx
  rw [stM,Ak hs.vn h.fit hr (by omega)] at e1 e2
  by_cases hN1:N1≤S.hist.length
  · rw [if_pos hN1] at e1
    cases e1
    exact .inr ⟨rfl,hmono.hp,hmono.op⟩
  rw [if_neg hN1] at e1
  rw [if_neg (by omega)] at e2
  have k:=F6 (id:=x.n) h hr hn (by omega)
  have hl:(OB s rest S x.n).hist.length=S.hist.length+1:=kG
  generalize OB s rest S x.n=E at k hl e1 e2
  have hE:=k.gd
  replace e1:(if x.e=1 then _ else _)=some r1:=e1
  replace e2:(if x.e=1 then _ else _)=some r2:=e2
  have iht:∀ (rest:List sH),(∀ g ∈ rest,Fit s g)→rest.length≤19→∀ S' x n,n≤10→E.hist.length≤S'.hist.length→CO s N S'→Ce n x→kE (stM (jA fv s) s N fu rest S' x) (fun r=>Nw s N S' r.2):=
    fun rest hr hn S' x n h10 hl' hG hX=>QK hs hN fu rest S' x n hr hn hG hX h10 (by omega)
  have ihs:∀ (rest:List sH),(∀ g ∈ rest,Fit s g)→rest.length≤19→∀ S' x n r1 r2,n≤10→E.hist.length≤S'.hist.length→CO s N S'→Ce n x→stM (jA fv s) s N1 fu rest S' x=some r1→stM (jA fv s) s N fu rest S' x=some r2→Rl r1 r2:=
    fun rest hr hn S' x n r1 r2 h10 hl' hG hX=>XT hs hN h12 fu rest S' x n r1 r2 hr hn hG hX h10 (by omega)
  have hfE:∀ g ∈ E.a :: rest,Fit s g:=fun g hg=>by
    rcases List.mem_cons.1 hg with rfl | hg
    · exact hE.fit
    · exact hr g hg
  have hcall:∀ {k1 k2:Int→Sg→Option (Pn (Option Int) × Sg)},(∀ v h o r1 r2,k1 v ⟨E.a,h,o⟩=some r1→k2 v ⟨E.a,h,o⟩=some r2→Rl r1 r2)→(∀ v h o r,k2 v ⟨E.a,h,o⟩=some r→r.2.hist=h∧r.2.out=o)→
      AZ (stM (jA fv s) s N1 fu) s rest fu E x k1=some r1→AZ (stM (jA fv s) s N fu) s rest fu E x k2=some r2→Rl r1 r2:=fun hk hk2=>
    Td hs hE (fun h18=>iht (E.a :: rest) hfE (by rw [List.length_cons];omega)) (fun h18=>ihs (E.a :: rest) hfE (by rw [List.length_cons];omega)) hk hk2
  have hlsT:∀ (l:List jN) (S':Sg),E.hist.length≤S'.hist.length→CO s N S'→(∀ y ∈ l,Ce n y)→kE (EG (stM (jA fv s) s N fu rest) S' l) (fun r=>Nw s N S' r.2):=
    Qc (M:=E.hist.length) (n:=n) fun S' x=>iht rest hr hn S' x n (by omega)
  have hls:∀ (l:List jN) (S':Sg) r1 r2,E.hist.length≤S'.hist.length→CO s N S'→(∀ y ∈ l,Ce n y)→EG (stM (jA fv s) s N1 fu rest) S' l=some r1→EG (stM (jA fv s) s N fu rest) S' l=some r2→Rl r1 r2:=
    WB (M:=E.hist.length) (n:=n) (fun S' x=>iht rest hr hn S' x n (by omega)) fun S' x r1 r2=>ihs rest hr hn S' x n r1 r2 (by omega)
  have hev:∀ ws,∀ y ∈ x.a,Yes (CK fu ws y):=fun ws y hy=>Qy fu 5000 ws y (x2.2 y hy) (by omega)
  by_cases c1:x.e=1
  · rw [if_pos c1] at e1 e2
    rw [e1] at e2;cases e2;exact .rfl' _
  rw [if_neg c1] at e1 e2
  by_cases c2:x.e=2
  · rw [if_pos c2] at e1 e2
    rw [e1] at e2;cases e2;exact .rfl' _
  rw [if_neg c2] at e1 e2
  by_cases c3:x.e=3
  · rw [if_pos c3] at e1 e2
    refine hcall (fun v h o r1 r2 a b=>?_) (fun v h o r a=>?_) e1 e2
    · rw [a] at b;cases b;exact .rfl' _
    · rcases mJ a with ⟨_,a⟩|⟨_,a⟩
      · cases a;exact ⟨rfl,rfl⟩
      · unfold ME at a
        cases hT:x.c with
        | nil=>rw [hT] at a;cases a;exact ⟨rfl,rfl⟩
        | cons y l=>
         rw [hT] at a
         obtain ⟨p,_,a⟩:=bs a
         cases p <;> (cases a;exact ⟨rfl,rfl⟩)
  rw [if_neg c3] at e1 e2
  by_cases c4:x.e=4
  · rw [if_pos c4] at e1 e2
    refine XH e1 e2 fun v a b=>hls _ _ _ _ (Nat.le_refl _) hE (fun y hy=>?_) a b
    split at hy
    · exact x3 y hy
    · exact x4 y hy
  rw [if_neg c4] at e1 e2
  by_cases c5:x.e=5
  · rw [if_pos c5] at e1 e2
    refine Zk (M:=E.hist.length) hs h12 hr hn (fun S=>?_) (fun S' hM hG=>hlsT _ _ hM hG x3) (fun S' r1 r2 hM hG a b=>hls _ _ _ _ hM hG x3 a b) fu E r1 r2 (Nat.le_refl _) hE (by omega) e1 e2
    cases hA:x.a with
    | nil=>exact .mk trivial
    | cons y l=>exact hev _ y (by rw [hA];exact .head _)
  rw [if_neg c5] at e1 e2
  by_cases c6:x.e=6
  · rw [if_pos c6] at e1 e2
    by_cases cf:x.k≠be
    · rw [if_pos cf] at e1 e2
      refine hcall (fun v h o r1 r2 a b=>?_) (fun v h o r a=>?_) e1 e2
      · cases a;cases b;exact .rfl' _
      · cases a;exact ⟨rfl,rfl⟩
    · rw [if_neg cf] at e1 e2
      rw [e1] at e2;cases e2;exact .rfl' _
  rw [if_neg c6] at e1 e2
  by_cases c7:x.e=7
  · rw [if_pos c7] at e1 e2
    rw [e1] at e2;cases e2;exact .rfl' _
  rw [if_neg c7] at e1 e2
  by_cases c8:x.e=8
  · rw [if_pos c8] at e1 e2
    obtain ⟨⟨p1,S1⟩,q1,e1⟩:=bs e1
    obtain ⟨⟨p2,S2⟩,q2,e2⟩:=bs e2
    have k2:=(hlsT _ _ (Nat.le_refl _) hE x3).of' q2
    dsimp only at k2
    have hput:∀ {row z v},ix? S2.a.ws x.g=some (z :: row)→CO s N { S2 with a:={ S2.a with ws:=S2.a.ws.set x.g.toNat (v :: row) } }:=fun {row z v} hi=>by
      obtain ⟨q,hq,hql⟩:=Wx hi
      exact ⟨k2.gd.hl,k2.gd.ol,by
        rw [show x.g.toNat=q from by omega]
        exact Fit.put (st:=S2.a.st) k2.gd.fit hql rfl,k2.gd.ev⟩
    rcases hls _ _ _ _ (Nat.le_refl _) hE x3 q1 q2 with e | ⟨e,k3,k4⟩
    · cases e
      cases p1 with
      | Ep v=>
        dsimp only at e1 e2
        cases hi:ix? S1.a.ws x.g with
        | none=>rw [hi] at e1 e2;cases e1;cases e2;exact .rfl' _
        | some row=>
         rw [hi] at e1 e2
         cases row with
         | nil=>cases e1;cases e2;exact .rfl' _
         | cons z row=>exact hls x.h _ _ _ (by exact k2.hp.length_le) (hput hi) x4 e1 e2
      | _=>cases e1;cases e2;exact .rfl' _
    · dsimp only at e
      subst e
      cases e1
      refine .inr ⟨rfl,?_⟩
      cases p2 with
      | Ep v=>
        dsimp only at e2
        cases hi:ix? S2.a.ws x.g with
        | none=>rw [hi] at e2;cases e2;exact ⟨k3,k4⟩
        | some row=>
         rw [hi] at e2
         cases row with
         | nil=>cases e2;exact ⟨k3,k4⟩
         | cons z row=>
          have q:=(hlsT x.h _ (by exact k2.hp.length_le) (hput hi) x4).of' e2
          exact ⟨k3.trans q.hp,k4.trans q.op⟩
      | _=>cases e2;exact ⟨k3,k4⟩
  rw [if_neg c8] at e1 e2
  by_cases c9:x.e=9
  · rw [if_pos c9] at e1 e2
    rw [e1] at e2;cases e2;exact .rfl' _
  rw [if_neg c9] at e1 e2
  rw [e1] at e2;cases e2;exact .rfl' _
end
end Go.Proofs.Ytfglbdkfnphjgaa
set_option linter.unusedVariables false
namespace Go.Proofs.Ytfglbdkfnphjgaa
open Go.RowKit Go.Fw
structure Ar where
 b:Nat
 A:Option Addr
 c:Nat
 R:List Nat
def Gu (w:World):List Nat→List (List Int)→Prop
 | [],[]=>True
 | r :: R,l :: m=>mQ w r 3 (l.map V).toArray∧Gu w R m
 | _,_=>False
def Fg:List Nat→List (List Int)→List Value
 | r :: R,l :: m=>.slice (some ⟨r,0,none⟩) l.length l.length :: Fg R m
 | _,_=>[]
theorem Gu.len {w:World}:∀ {R:List Nat} {m:List (List Int)},Gu w R m→R.length=m.length
 | [],[],_=>rfl
 | _ :: _,_ :: _,h=>congrArg (·+1) (Gu.len h.2)
 | [],_ :: _,h=>h.elim
 | _ :: _,[],h=>h.elim
theorem Gu.get {w:World}:∀ {R:List Nat} {m:List (List Int)} {k:Nat} {l:List Int},Gu w R m→m[k]?=some l→∃ r,R[k]?=some r∧mQ w r 3 (l.map V).toArray
 | r :: _,_ :: _,0,l,h,hx=>by simp only [List.getElem?_cons_zero,Option.some.injEq] at hx;subst hx;exact ⟨r,rfl,h.1⟩
 | _ :: _,_ :: _,k+1,l,h,hx=>Gu.get (k:=k) h.2 (by simpa using hx)
 | [],[],_,_,_,hx=>by simp at hx
 | [],_ :: _,_,_,h,_=>h.elim
 | _ :: _,[],_,_,h,_=>h.elim
theorem Gu.mem {w:World}:∀ {R:List Nat} {m:List (List Int)} {r:Nat},Gu w R m→r ∈ R→r < w.heap.size
 | _ :: _,_ :: _,r,h,hr=>by
  rcases List.mem_cons.1 hr with rfl | hr
  · exact h.1.lt
  · exact Gu.mem h.2 hr
 | [],[],_,_,hr=>by cases hr
 | [],_ :: _,_,h,_=>h.elim
 | _ :: _,[],_,h,_=>h.elim
theorem Gu.st {w w':World}:∀ {R:List Nat} {m:List (List Int)},Gu w R m→(∀ b ∈ R,w'.heap[b]?=w.heap[b]?)→Gu w' R m
 | _ :: _,_ :: _,h,k=>⟨by have:=h.1;unfold mQ at this ⊢;rw [k _ (List.mem_cons_self ..)];exact this,Gu.st h.2 fun b hb=>k b (List.mem_cons_of_mem _ hb)⟩
 | [],[],_,_=>trivial
 | [],_ :: _,h,_=>h.elim
 | _ :: _,[],h,_=>h.elim
theorem F9:∀ {R:List Nat} {m:List (List Int)} {k r:Nat} {l:List Int},R[k]?=some r→m[k]?=some l→(Fg R m)[k]?=some (.slice (some ⟨r,0,none⟩) l.length l.length)
 | _ :: _,_ :: _,0,_,_,h,k=>by simp only [List.getElem?_cons_zero,Option.some.injEq] at h k;subst h k;rfl
 | _ :: _,_ :: _,k+1,_,_,h,hk=>F9 (k:=k) (by simpa using h) (by simpa using hk)
 | [],_,_,_,_,h,_=>by simp at h
 | _,[],_,_,_,_,h=>by simp at h
def It.act (x:Ar) (g:sH):It where
 F k:=k=x.b ∨ rowOf x.A=some k ∨ k ∈ x.R
 p w:=mQ w x.b 120 #[V g.f,V g.st,.slice x.A g.ws.length x.c]∧Gu w x.R g.ws∧Go.Fw.Own w 0 22 1 x.A g.ws.length x.c (Fg x.R g.ws)∧x.b ∉ x.R∧rowOf x.A≠some x.b∧(∀ r ∈ x.R,rowOf x.A≠some r)∧x.R.Nodup∧∀ l ∈ g.ws,l.length≤8
 bd w h k hk:=by
  obtain ⟨h1,h2,h3,_⟩:=h
  rcases hk with rfl | hk | hk
  · exact h1.lt
  · exact (h3.row k hk).2
  · exact h2.mem hk
 st w w' h k hs:=by
  obtain ⟨h1,h2,h3,h4⟩:=h
  refine ⟨?_,h2.st fun b hb=>k b (.inr (.inr hb)),Go.Fw.Own.same h3 fun b hb=>k b (.inr (.inl hb)),h4⟩
  unfold mQ at h1 ⊢;rw [k _ (.inl rfl)];exact h1
section
variable {w:World} {x:Ar} {g:sH} {k:Nat} {l:List Int}
theorem It.y8 (h:(It.act x g).p w):mQ w x.b 120 #[V g.f,V g.st,.slice x.A g.ws.length x.c]:=h.1
theorem Fp {w:World} {base:Nat} {e:TypeId} {n c k:Nat} {A:Option Addr} {xs:List Value} {v:Value} (h:Go.Fw.Own w base e 1 A n c xs) (hv:xs[k]?=some v):A=some ⟨nK A,oV A,none⟩∧w.cell? ⟨nK A,oV A+k,none⟩=some v∧oV A=0:=by
 rcases h.blk with ⟨_,_,_,h4⟩|⟨q,cur,h1,_,h3,_,_,_,h7⟩
 · subst h4;simp at hv
 · subst h1
   refine ⟨rfl,?_,rfl⟩
   show w.cell? ⟨q,0+k,none⟩=_
   rw [Nat.zero_add]
   refine h3.cell ?_
   have:cur.toList[k]?=some v:=by rw [← h7,List.getElem?_take] at hv;split at hv;exact hv;cases hv
   simpa using this
theorem It.zT (h:(It.act x g).p w) (hk:g.ws[k]?=some l):∃ r,x.R[k]?=some r∧mQ w r 3 (l.map V).toArray∧x.A=some ⟨nK x.A,oV x.A,none⟩∧w.cell? ⟨nK x.A,oV x.A+k,none⟩=some (.slice (some ⟨r,0,none⟩) l.length l.length):=by
 obtain ⟨r,h1,h2⟩:=h.2.1.get hk
 have h3:=Fp h.2.2.1 (F9 h1 hk)
 exact ⟨r,h1,h2,h3.1,h3.2.1⟩
end
end Go.Proofs.Ytfglbdkfnphjgaa
set_option linter.unusedVariables false
set_option maxRecDepth 4000
set_option maxHeartbeats 12800000
namespace Go.Proofs.Ytfglbdkfnphjgaa
open Go.RowKit Go.Fw
theorem SC:∃ D,Try.prog.underlying 90=some D∧(match D with | .interface _=>false | _=>true)=true:=⟨_,Try.underlying90,rfl⟩
theorem OZ:∃ D,Try.prog.underlying 91=some D∧(match D with | .interface _=>false | _=>true)=true:=⟨_,Try.underlying91,rfl⟩
def Pb {α:Type}:Pn α→List PanicEntry→Prop
 | .ok _,_=>False
 | .Ep v,c=>XJ (.iface 90 (V v)) c
 | .err e,c=>XJ (.iface 91 (V e)) c
 | .rt,c=>∃ u,XJ (.iface Try.prog.rt.boundsError u) c
theorem Gq:jD Try.prog 121:=⟨_,Try.func121,by kernel_rfl,by kernel_rfl⟩
theorem OL {op x y:Int} {w:World}:Calls Try.prog 122 #[V op,V x,V y] w (RP (fun v w'=>∃ n,RO op x y=.ok n∧v=V n∧w'=w) (fun c w'=>Pb (RO op x y) c∧w'=w)):=by
 refine vS Try.func122 rfl ?_
 refine lI [(0,V op),(1,V x),(2,V y)] ⟨rfl,rfl,rfl,trivial⟩ fun av=>?_
 refine go ?_
 unfold RO
 refine qp rfl (fun h=>?_) (fun h=>?_)
 · refine go ?_
   exact kR (jC rfl (kW rfl) ⟨_,by rw [if_pos h],rfl,rfl⟩)
 rw [if_neg h]
 refine go ?_
 refine qp rfl (fun h=>?_) (fun h=>?_)
 · refine go ?_
   exact kR (jC rfl (kW rfl) ⟨_,by rw [if_pos h],rfl,rfl⟩)
 rw [if_neg h]
 refine go ?_
 refine qp rfl (fun h=>?_) (fun h=>?_)
 · refine go ?_
   exact kR (jC rfl (kW rfl) ⟨_,by rw [if_pos h],rfl,rfl⟩)
 rw [if_neg h]
 refine go ?_
 refine nW (fun f w'=>w'=w∧Has f [(0,V op),(1,V x),(2,V y),(7,V op),(23,.bool (decide (op=9 ∨ op=10)))]) (fun J hJ=>?_) ?_
 · refine qp rfl (fun h=>?_) (fun h=>?_)
   · refine go ?_
     exact hJ _ _ ⟨rfl,rfl,rfl,rfl,rfl,congrArg Value.bool (decide_eq_decide.2 ⟨.inl,fun _=>h⟩),trivial⟩
   · refine go ?_
     exact hJ _ _ ⟨rfl,rfl,rfl,rfl,rfl,congrArg Value.bool (decide_eq_decide.2 ⟨.inr,fun z=>z.resolve_left h⟩),trivial⟩
 rintro f w1 ⟨rfl,hf⟩
 obtain ⟨av,rfl⟩:=gP _ _ hf
 clear hf
 refine go ?_
 refine qp rfl (fun hd=>?_) (fun hd=>?_)
 · refine go ?_
   refine qp rfl (fun hy=>?_) (fun hy=>?_)
   · refine go ?_
     refine jS (Ju SC rfl) ?_
     refine Ad rfl ?_
     refine ⟨?_,rfl⟩
     rcases hd with hd | hd
     · rw [if_pos hd,if_pos hy];exact xJ _
     · rw [if_neg (by omega),if_pos hd,if_pos hy];exact xJ _
   refine go ?_
   refine qp rfl (fun h=>?_) (fun h=>?_)
   · refine go ?_
     refine jS (Ul rfl rfl hy) ?_
     refine go ?_
     exact kR (jC rfl (kW rfl) ⟨_,by rw [if_pos h,if_neg hy],rfl,rfl⟩)
   refine go ?_
   refine jS (Qz rfl rfl hy) ?_
   refine go ?_
   exact kR (jC rfl (kW rfl) ⟨_,by rw [if_neg h,if_pos (hd.resolve_left h),if_neg hy],rfl,rfl⟩)
 rw [if_neg fun z=>hd (.inl z),if_neg fun z=>hd (.inr z)]
 refine go ?_
 refine qp rfl (fun h=>?_) (fun h=>?_)
 · refine go ?_
   exact kR (jC rfl (kW rfl) ⟨_,by rw [if_pos h],rfl,rfl⟩)
 rw [if_neg h]
 refine go ?_
 refine qp rfl (fun h=>?_) (fun h=>?_)
 · refine go ?_
   exact kR (jC rfl (kW rfl) ⟨_,by rw [if_pos h],rfl,rfl⟩)
 rw [if_neg h]
 refine go ?_
 refine qp rfl (fun h=>?_) (fun h=>?_)
 · refine go ?_
   exact kR (jC rfl (kW rfl) ⟨_,by rw [if_pos h],rfl,rfl⟩)
 rw [if_neg h]
 refine go ?_
 refine qp rfl (fun h=>?_) (fun h=>?_)
 · refine go ?_
   refine Dg (p8 Gq rfl) Bh ?_
   rintro _ w2 ⟨rfl,rfl⟩
   refine go ?_
   exact kR (jC rfl (kW rfl) ⟨_,by rw [if_pos h],rfl,rfl⟩)
 rw [if_neg h]
 refine go ?_
 refine qp rfl (fun h=>?_) (fun h=>?_)
 · refine go ?_
   refine Dg (p8 Gq rfl) Bh ?_
   rintro _ w2 ⟨rfl,rfl⟩
   refine go ?_
   exact kR (jC rfl (kW rfl) ⟨_,by rw [if_pos h],rfl,rfl⟩)
 rw [if_neg h]
 refine go ?_
 refine qp rfl (fun h=>?_) (fun h=>?_)
 · refine go ?_
   refine Dg (p8 Gq rfl) Bh ?_
   rintro _ w2 ⟨rfl,rfl⟩
   refine go ?_
   exact kR (jC rfl (kW rfl) ⟨_,by rw [if_pos h],rfl,rfl⟩)
 rw [if_neg h]
 refine go ?_
 refine qp rfl (fun h=>?_) (fun h=>?_)
 · refine go ?_
   refine Dg (p8 Gq rfl) Bh ?_
   rintro _ w2 ⟨rfl,rfl⟩
   refine go ?_
   exact kR (jC rfl (kW rfl) ⟨_,by rw [if_pos h],rfl,rfl⟩)
 rw [if_neg h]
 refine go ?_
 refine jS (Ju OZ rfl) ?_
 exact Ad rfl ⟨xJ _,rfl⟩
end Go.Proofs.Ytfglbdkfnphjgaa
