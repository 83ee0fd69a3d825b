/- Contracts, printed by gen3.py. -/
import Derived.Test.YtfglbdkfnphjgaaZ5
import Derived.Test.YtfglbdkfnphjgaaLa
import Derived.Test.YtfglbdkfnphjgaaZ18
import Derived.Test.YtfglbdkfnphjgaaZ6
set_option linter.unusedVariables false
set_option maxHeartbeats 12800000
set_option linter.unusedSimpArgs false
set_option maxRecDepth 4000
namespace Go.Proofs.Ytfglbdkfnphjgaa
open Go.RowKit Go.Fw
noncomputable section
def Cr (m:jQ→Int→Int→Option ((List Int))):Prop:=∀ {t:World} {A:Nat→Prop} {p:jQ} {x:Int} {z:Int} {a:Option Addr} {b:Nat} {c:Option Addr} {d:Nat} {e:Option Addr} {f:Nat} {h:Option Addr} {i:Nat} {u:(List Int)},Pre t A [] [.l a b p.a.a,.l c d p.a.b,.l e f p.b,.l h i p.c]→m p x z=some u→
 Calls Try.prog 31 #[.agg #[Z a p.a.a b,Z c p.a.b d,Z e p.b f,Z h p.c i],V x,V z] t (qx fun v w=>∃ (j:OA)(k:Nat)(o:LV),v=Z j u k∧Bx t w A (lK []) [O t.heap.size j k 3 Int o] [.els o u])
def kX (fu:Nat)(b:Int):List Gv→Nat→(List Int)→Option (Ld (List Int) ((List Int)))
 | [],_,a=>some (.go a)
 | f :: d,c,a=>
 if f.d≤b then
  if b≤f.g then
   (app a ([(c:Int)]:List Int)).bind fun e=>
   kX fu b d (c+1) e
  else
   kX fu b d (c+1) a
 else
  kX fu b d (c+1) a
def jO (fu:Nat)(c:jQ) (b:Int)(d:Int):Option ((List Int)):=
 if b < 0 then
  some ([]:List Int)
 else
  if (c.b.length:Int)≤b then
   some ([]:List Int)
  else
   (ix c.b b).bind fun e=>
   (kX fu d e 0 ([]:List Int)).bind fun f=>f.el (fun a=>
   some a
   ) (fun o=>some o)
theorem Cw (fu:Nat):Cr (jO fu):=by
 intro S au U x1 W A B C D E F H I r0 hP p
 unfold jO at p
 have e:=hP.bx
 clear hP
 generalize hG:lK _=G at e ⊢
 refine cf Try.func31 r ?_
 refine lJ [(0,.agg #[Z A U.a.a B,Z C U.a.b D,Z E U.b F,Z H U.c I]),(1,V x1),(2,V W)] ⟨r,r,r,y⟩ fun av=>?_
 refine q (g (nO (nG e (xG r)) ?_))
 rintro _ w1 ⟨b1,rfl,e⟩
 refine s (mO r) (n (q (q (g (s (mi r) (s (pU r r) (s (kM r) ?_)))))))
 rcases iv p with ⟨X,p⟩|⟨X,p⟩
 ·rw [decide_eq_true X]
  refine jH r (jH r (jH r (jH r (jH r (s (kC r r) (n (jK r (q (g (s (mO r) (n (kS ?_))))))))))))
  replace e:=e.BU Int 3
  obtain rfl:=sm p
  refine jB r (kW r) ?_
  exact ⟨none,0,[],r,(e.ad [0] [0])⟩
 rw [decide_eq_false X]
 refine ko r (s (mi r) (ko r (s (AX r) (ko r (s (Py r (e.bk 0 r) r) (ko r (s (lu FE r) (ko r (s (BM r r) (s (jY r r) (n ?_)))))))))))
 rcases iv p with ⟨Y,p⟩|⟨Y,p⟩
 ·refine jK (bt Y) (q (g (s (mO r) (n (kS ?_)))))
  replace e:=e.BU Int 3
  obtain rfl:=sm p
  refine jB r (kW r) ?_
  exact ⟨none,0,[],r,(e.ad [0] [0])⟩
 refine jD (bf Y) (wk (q (g (s (mO r) (n (q (q (g (s (AX r) (s (Py r (e.bk 0 r) r) (s (mi r) ?_)))))))))))
 obtain ⟨u,z,p⟩:=bs p
 obtain ⟨k6,a0,z⟩:=kH z
 obtain ⟨ab,a1,e⟩:=e.nm 2 rfl z
 obtain ⟨v,x,rfl,N⟩:=a1
 replace e:=e.kr (d:=.l v x u) N
 refine s (kV FE Es r r a0 (e.dl 4 r) z) (s (jM Bz r r ((e.dc 1 r) 0 _ r)) (s (lu Bz r) (s (mi r) (n ?_))))
 replace e:=e.BU Int 3
 have ac:=(e.dl 1 r).bd
 obtain ⟨Y8,m,p⟩:=bs p
 refine nV (fun f w=>∃ (j:List Int) (a:OA)(b:Nat)(c:LV),Has f [(7,Z a j b)]∧Bx S w au G [O S.heap.size a b 3 Int c] [.els c j,.l v x u]∧Ld.go j=Y8) (fun J8 a2=>?_) ?_
 ·refine oD (kK (fun aw f w=>∃ (t:Nat)(j:List Int) (a:OA)(b:Nat)(c:LV),aw=u.length - t∧t≤u.length∧Has f [(25,V (t:Int)),(2,V W),(7,Z a j b),(23,Z v u x),(24,V (u.length:Int))]∧Bx S w au G [O S.heap.size a b 3 Int c] [.els c j,.l v x u]∧kX fu W (u.drop t) t j=some Y8) (u.length) ⟨0,([]:List Int),none,0,[],r,Nat.zero_le _,⟨r,r,r,r,r,y⟩,(e.ad [0] [0,1]),m⟩ ?_)
  clear e m
  rintro aw f w ⟨t,j,a,b,c,rfl,ae,hf,e,m⟩ K8 J
  obtain ⟨av,rfl⟩:=gP _ _ hf
  clear hf
  rcases Nat.lt_or_ge t u.length with Q | Q
  ·obtain ⟨o,K⟩:=mF (l:=u) Q
   rw [mZ K,kX] at m
   refine q (g (s (uh r r (by omega)) (n (q (jK r (wk (q (oD (q (g (s (mi r) (s (kV Bz zY r r r (e.dl 1 r) K) (s (nE [T o.b,V o.e,V o.c,V o.a,.bool o.f,V o.d,V o.g] SC r zY r r (uG (ds:=[T o.b,V o.e,V o.c,V o.a,.bool o.f,V o.d,V o.g]) (e.dl 1 r) K (fun _ h=>h))) ?_)))))))))))))
   refine nO (nG e (jW zY)) ?_
   rintro _ af ⟨ag,rfl,e⟩
   refine s (xi r) (lq (tb e 0 [T o.b,V o.e,V o.c,V o.a,.bool o.f,V o.d,V o.g] r zY r r r r r (show _=#[T o.b,V o.e,V o.c,V o.a,.bool o.f,V o.d,V o.g] from r)) ?_)
   intro ah e
   try dsimp only [List.set] at e
   refine n (q (g (s (YS r) (s (l3 r (e.bk 0 r) r) (s (mi r) (s (Mg r r) (s (kM r) ?_)))))))
   rcases iv m with ⟨L,m⟩|⟨L,m⟩
   ·rw [decide_eq_true L]
    refine ko r (s (mi r) (ko r (s (Nv r) (ko r (s (l3 r (e.bk 0 r) r) (ko r (s (Mg r r) (s (kC r r) (n ?_)))))))))
    rcases iv m with ⟨M,m⟩|⟨M,m⟩
    ·refine jK (bt M) (g (s (l6 r) (s (mi r) (nO (jL e [[V (t:Int)]] ([(t:Int)]:List Int) (Am r) r r (by decide) ⟨r,y⟩) ?_))))
     rintro _ ai ⟨aj,rfl,e⟩
     obtain ⟨a3,R,m⟩:=bs m
     refine nO (kN e 2 1 r r sG mK r (by decide) (by decide) (Nat.le_refl _) r r (e.zQ 0 0 r r) R) ?_
     rintro _ ak ⟨a4,a5,a6,rfl,e⟩
     refine s (mO r) (n (g (s (nA r r (by omega) (by omega)) (s (mi r) (n ?_)))))
     exact J (u.length - (t+1)) _ _ (by omega) ⟨t+1,a3,a4,a5,a6,r,by omega,⟨r,r,r,r,r,y⟩,(e.ad [2] [1,2]),m⟩
    refine jD (bf M) (wk (g (s (nA r r (by omega) (by omega)) (s (mi r) (n ?_)))))
    exact J (u.length - (t+1)) _ _ (by omega) ⟨t+1,j,a,b,c,r,by omega,⟨r,r,r,r,r,y⟩,(e.arr [1] r),m⟩
   rw [decide_eq_false L]
   refine jH r (jH r (jH r (jH r (s (jY r r) (n (jD r (wk (g (s (nA r r (by omega) (by omega)) (s (mi r) (n ?_)))))))))))
   exact J (u.length - (t+1)) _ _ (by omega) ⟨t+1,j,a,b,c,r,by omega,⟨r,r,r,r,r,y⟩,(e.arr [1] r),m⟩
  obtain rfl:t=u.length:=by omega
  rw [lZ,kX] at m
  refine q (g (s (uw r r (by omega)) (n (q (jD r (uJ ?_))))))
  exact a2 _ _ ⟨j,a,b,c,⟨r,y⟩,e,sm m⟩
 clear e
 rintro f w ⟨j,a,b,c,hf,e,a7⟩
 obtain ⟨av,rfl⟩:=gP _ _ hf
 clear hf
 subst a7
 replace p:=gi p
 refine q (g (s (l6 r) (s (mO r) (n (kS ?_)))))
 obtain rfl:=sm p
 refine jB r (kW r) ?_
 exact ⟨a,b,c,r,(e.dp [0])⟩
def JB (m:(List Int)→Option ((List Int))):Prop:=∀ {f:World} {j:Nat→Prop} {h:(List Int)} {a:Option Addr} {b:Nat} {i:(List Int)},Pre f j [] [.l a b h]→m h=some i→
 Calls Try.prog 134 #[Z a h b] f (qx fun v w=>∃ (c:OA)(d:Nat)(e:LV),v=Z c i d∧Bx f w j (lK []) [O f.heap.size c d 3 Int e] [.els e i])
def Bt (fu:Nat)(a:(List Int)):Option ((List Int)):=
 (app ([]:List Int) a).bind fun b=>
 some b
theorem Ii (fu:Nat):JB (Bt fu):=by
 intro o x j a c p h d
 unfold Bt at d
 have b:=h.bx
 clear h
 generalize t:lK _=G at b ⊢
 refine cf Try.func134 r ?_
 refine lJ [(0,Z a j c)] ⟨r,y⟩ fun z=>?_
 refine q (g (s (mO r) (n (q (q (g (s (l6 r) (s (UM sG r r) (n ?_)))))))))
 rcases Classical.em (a=none) with f | f
 ·refine jK (bt f) (q (g (s (mO r) (n (kS ?_)))))
  replace b:=b.BU Int 3
  have hz:=(b.dl 1 r).UJ f
  subst hz
  obtain ⟨i,e,d⟩:=bs d
  obtain rfl:=sm d
  obtain rfl:i=[]:=(BJ e).2.symm
  refine jB r (kW r) ?_
  exact ⟨none,0,[],r,(b.dp [0])⟩
 refine jD (bf f) (wk (q (g (nO (jL b [] ([]:List Int) (FK) r r (by decide) y) ?_))))
 rintro _ u ⟨v,rfl,b⟩
 refine s (l6 r) ?_
 obtain ⟨i,e,d⟩:=bs d
 refine nO (kN b 0 0 r r sG mK r (by decide) (by decide) (Nat.le_refl _) r r (b.ysD 1 r) e) ?_
 rintro _ w ⟨k,l,m,rfl,b⟩
 refine s (mO r) (n (kS ?_))
 obtain rfl:=sm d
 refine jB r (kW r) ?_
 exact ⟨k,l,m,r,(b.dp [0])⟩
end
end Go.Proofs.Ytfglbdkfnphjgaa
set_option linter.unusedVariables false
set_option linter.unusedSimpArgs false
namespace Go.Proofs.Ytfglbdkfnphjgaa
open Go.RowKit Go.Fw
def EZ (i:Int):List jU→Nat→List Int
 | [],_=>[]
 | x :: r,k=>if x.d≤i∧i≤x.g then (k:Int) :: EZ i r (k+1) else EZ i r (k+1)
theorem Kv {i:Int}:∀ (r:List jU) (k:Nat),(EZ i r k).length≤r.length
 | [],_=>Nat.le_refl _
 | x :: r,k=>by
  have h:=Kv (i:=i) r (k+1)
  unfold EZ
  split
  · exact Nat.succ_le_succ h
  · exact Nat.le_succ_of_le h
theorem LA {i q:Int}:∀ (r:List jU) (k:Nat),q ∈ EZ i r k→∃ (j:Nat) (x:jU),q=((k+j:Nat):Int)∧r[j]?=some x∧x.d≤i∧i≤x.g
 | [],_,h=>by cases h
 | x :: r,k,h=>by
  unfold EZ at h
  have go:q ∈ EZ i r (k+1)→∃ (j:Nat) (y:jU),q=((k+j:Nat):Int)∧(x :: r)[j]?=some y∧y.d≤i∧i≤y.g:=fun h=>by
    obtain ⟨j,y,h1,h2,h3⟩:=LA r (k+1) h
    exact ⟨j+1,y,by omega,h2,h3⟩
  by_cases c:x.d≤i∧i≤x.g
  · rw [if_pos c] at h
    rcases List.mem_cons.1 h with h | h
    · exact ⟨0,x,h,rfl,c⟩
    · exact go h
  · rw [if_neg c] at h
    exact go h
theorem Dp {fu:Nat} {i:Int}:∀ (r:List jU) (k:Nat) (acc:List Int),acc.length+r.length≤1000000000→kX fu i r k acc=some (.go (acc ++ EZ i r k))
 | [],k,acc,_=>by rw [kX,EZ,List.append_nil]
 | x :: r,k,acc,h=>by
  rw [List.length_cons] at h
  rw [kX,EZ]
  by_cases c1:x.d≤i
  · by_cases c2:i≤x.g
    · rw [if_pos c1,if_pos c2,if_pos ⟨c1,c2⟩]
      have:app acc [((k:Nat):Int)]=some (acc ++ [((k:Nat):Int)]):=if_pos (by simp only [List.length_cons,List.length_nil];omega)
      rw [this]
      show kX fu i r (k+1) (acc ++ [((k:Nat):Int)])=_
      rw [Dp r (k+1) _ (by simp only [List.length_append,List.length_cons,List.length_nil];omega),List.append_assoc]
      rfl
    · rw [if_pos c1,if_neg c2,if_neg fun z=>c2 z.2]
      exact Dp r (k+1) acc (by omega)
  · rw [if_neg c1,if_neg fun z=>c1 z.1]
    exact Dp r (k+1) acc (by omega)
def Jl (s:jQ) (f i:Int):List Int:=if f < 0 then [] else match s.b[f.toNat]? with
 | none=>[]
 | some V=>EZ i V 0
theorem OB {fu:Nat} {s:jQ} {f i:Int} (h:∀ V ∈ s.b,V.length≤24):jO fu s f i=some (Jl s f i):=by
 unfold jO Jl
 by_cases c:f < 0
 · rw [if_pos c,if_pos c]
 rw [if_neg c,if_neg c]
 by_cases d:(s.b.length:Int)≤f
 · rw [if_pos d,List.getElem?_eq_none (by omega)]
 rw [if_neg d]
 obtain ⟨V,hV⟩:=mF (l:=s.b) (k:=f.toNat) (by omega)
 have:ix s.b f=some V:=by
   unfold Go.Fw.ix
   rw [if_neg (by omega),hV]
 rw [this,hV]
 show (kX fu i V 0 []).bind _=_
 rw [Dp V 0 [] (by have:=h V (List.mem_of_getElem? hV);rw [List.length_nil];omega),List.nil_append]
 rfl
theorem Qp {s:jQ} {f i:Int} {j:Nat} {q:Int} (h:(Jl s f i)[j]?=some q):0≤f∧f < s.b.length∧∃ V x,s.b[f.toNat]?=some V∧0≤q∧q < V.length∧V[q.toNat]?=some x∧x.d≤i∧i≤x.g:=by
 unfold Jl at h
 by_cases c:f < 0
 · rw [if_pos c] at h;cases h
 rw [if_neg c] at h
 cases hV:s.b[f.toNat]? with
 | none=>rw [hV] at h;cases h
 | some V=>
   rw [hV] at h
   have hl:=kU hV
   obtain ⟨j,x,h1,h2,h3⟩:=LA V 0 (List.mem_of_getElem? h)
   have hx:=kU h2
   exact ⟨by omega,by omega,V,x,rfl,by omega,by omega,by rw [h1];simpa using h2,h3⟩
theorem Ko {s:jQ} {f i:Int} (h:∀ V ∈ s.b,V.length≤24):(Jl s f i).length≤24:=by
 unfold Jl
 split
 · exact Nat.zero_le _
 · split
   · exact Nat.zero_le _
   · next V hV=>exact Nat.le_trans (Kv V 0) (h V (List.mem_of_getElem? hV))
theorem Vl {fu:Nat} (hf:50≤fu) {l:List Int} (hl:l.length≤1000):kD (zH fu l) (fun s=>s.size≤700000000):=by
 unfold zH
 exact .bd (OI (by omega) hl) fun p hp=>.bd (Sy hf hp) fun s hs=>.mk hs
structure CI (s:jQ):Prop where
 vn:∀ V ∈ s.b,V.length≤24
 fx:∀ f ∈ s.a.b,FX f
theorem Ml {fu:Nat} (hf:10100≤fu) {l:List Int}:kD (uZ fu l) (fun r=>jy r fun s b=>b=true→CI s):=by
 unfold uZ
 refine .bd Sk fun l2 h2=>.bd (Vl (by omega) (by omega)) fun t _=>?_
 refine .bp (Ro (by omega)) fun p r hr=>.pp hr fun a e hp=>.ite (fun _=>.mk fun z=>(by cases z)) fun c=>?_
 refine .bp (Sr hf (hp (by omega))) fun s r hr=>.pp hr fun a e hs=>.mk fun z=>?_
 have q:=hs (of_decide_eq_true z)
 exact ⟨fun V hV=>(q.1.1.2 V hV).2,q.2⟩
end Go.Proofs.Ytfglbdkfnphjgaa
set_option linter.unusedVariables false
set_option linter.unusedSimpArgs false
namespace Go.Proofs.Ytfglbdkfnphjgaa
open Go.RowKit Go.Fw
abbrev Yes {α:Type} (x:Option α):Prop:=kD x (fun _=>True)
theorem LH {α β:Type} {p:Pn α} {f:α→Option (Pn β)} (h:∀ a,p=.ok a→Yes (f a)):Yes (p.then f):=by
 cases p with
 | ok a=>exact h a rfl
 | _=>exact .mk trivial
theorem XC {ev:jA→Option (Pn Int)} {ws:List (List Int)} {e:jA} (h:∀ y ∈ e.a,Yes (ev y)):Yes (Rf ev ws e):=by
 unfold Rf
 cases ix? ws e.g with
 | none=>exact .mk trivial
 | some l=>
  dsimp only
  refine .ite (fun _=>.mk trivial) fun _=>.ite (fun _=>?_) fun _=>.mk trivial
  cases hA:e.a with
  | nil=>exact .mk trivial
  | cons x r=>exact .bd (h x (by rw [hA];exact .head _)) fun p _=>LH fun i _=>.mk trivial
theorem Tg:∀ (fu n:Nat) (ws:List (List Int)) (e:jA),zm n e→n≤fu→Yes (CF fu ws e)
 | 0,n,ws,e,h,hn=>by
  obtain rfl:n=0:=by omega
  exact h.elim
 | fu+1,n,ws,e,h,hn=>by
  cases n with
  | zero=>exact h.elim
  | succ n=>
  have ih:∀ y ∈ e.a,Yes (CF fu ws y):=fun y hy=>Tg fu n ws y (h.2 y hy) (by omega)
  rw [CF]
  refine .ite (fun _=>.mk trivial) fun _=>.ite (fun _=>.bd (XC ih) fun p _=>LH fun q _=>.mk trivial) fun _=>?_
  cases hA:e.a with
  | nil=>exact .ite (fun _=>.mk trivial) fun _=>.ite (fun _=>.mk trivial) fun _=>.mk trivial
  | cons x l=>
   rw [hA] at ih
   have hx:=ih x (.head _)
   refine .ite (fun _=>.bd hx fun p _=>LH fun n _=>.mk trivial) fun _=>.ite (fun _=>.bd hx fun p _=>LH fun n _=>.mk trivial) fun _=>.bd hx fun p _=>LH fun n _=>?_
   cases l with
   | nil=>exact .mk trivial
   | cons y r=>exact .bd (ih y (.tail _ (.head _))) fun p _=>LH fun m _=>.mk trivial
theorem T9 {ev:jA→Option (Pn Int)}:∀ (l:List jA) (acc:List Int),(∀ y ∈ l,Yes (ev y))→acc.length+l.length≤1000000000→Yes (IX ev l acc)
 | [],acc,_,_=>.mk trivial
 | x :: l,acc,h,hn=>by
  rw [List.length_cons] at hn
  rw [IX]
  exact .bd (h x (.head _)) fun p _=>LH fun n _=>.bd (.app (by simp only [List.length_cons,List.length_nil];omega)) fun r hr=>by
   subst hr
   exact T9 l _ (fun y hy=>h y (.tail _ hy)) (by rw [kJ];omega)
section
variable {s:jQ}
def Fit (s:jQ) (g:uE):Prop:=0≤g.f∧∃ V,s.b[g.f.toNat]?=some V∧g.ws.map List.length=V.map (fun x=>x.a.toNat)∧∀ x ∈ V,0≤x.a∧x.a≤8
theorem Fit.put {f st st':Int} {ws:List (List Int)} {k:Nat} {l l':List Int} (h:Fit s ⟨f,st,ws⟩) (hk:ws[k]?=some l) (hl:l'.length=l.length):Fit s ⟨f,st',ws.set k l'⟩:=by
 obtain ⟨h0,V,h1,h2,h3⟩:=h
 refine ⟨h0,V,h1,?_,h3⟩
 rw [← h2,List.map_set]
 exact set_self (by rw [List.getElem?_map,hk,hl];rfl)
theorem Fit.word {f st:Int} {ws:List (List Int)} {p:Nat × Nat} {v:Int} (h:Fit s ⟨f,st,ws⟩):Fit s ⟨f,st,setW ws p v⟩:=by
 unfold setW
 cases hk:ws[p.1]? with
 | none=>rw [List.set_eq_of_length_le (List.getElem?_eq_none_iff.1 hk)];exact h
 | some l=>exact h.put hk (by rw [List.length_set,List.getD_eq_getElem?_getD,hk];rfl)
def Zm (ws:List (List Int)) (v:Int):rT:=⟨v,List.replicate (ws.getD v.toNat []).length true,ws.getD v.toNat []⟩
def Yx (s:jQ) (g:uE):nI:=⟨g.f,g.st,(Jl s g.f g.st).map (Zm g.ws)⟩
theorem QM {ws:List (List Int)}:∀ (l:List Int) (acc:List rT),(∀ v ∈ l,0≤v∧v < ws.length)→acc.length+l.length≤1000000000→QZ ws l acc=some (acc ++ l.map (Zm ws))
 | [],acc,_,_=>by rw [QZ,List.map_nil,List.append_nil]
 | v :: l,acc,h,hn=>by
  rw [List.length_cons] at hn
  have hv:=h v (.head _)
  obtain ⟨row,hr⟩:=mF (l:=ws) (k:=v.toNat) (by omega)
  have h1:ix? ws v=some row:=by unfold ix?;rw [if_neg (by omega),hr]
  have h2:ws.getD v.toNat []=row:=by rw [List.getD_eq_getElem?_getD,hr];rfl
  rw [QZ,h1]
  show (app acc [_]).bind _=_
  unfold Go.Fw.app
  rw [if_pos (by simp only [List.length_cons,List.length_nil];omega)]
  show QZ ws l _=_
  rw [QM l _ (fun y hy=>h y (.tail _ hy)) (by rw [kJ];omega),List.map_cons,List.append_assoc]
  unfold Zm
  rw [h2]
  rfl
theorem Fit.vis {g:uE} (h:Fit s g) {v st:Int} (hv:v ∈ Jl s g.f st):0≤v∧v < g.ws.length:=by
 obtain ⟨h0,V,h1,h2,h3⟩:=h
 obtain ⟨j,hj⟩:=List.getElem?_of_mem hv
 obtain ⟨_,_,V',x,hV',q0,q1,_⟩:=Qp hj
 rw [h1] at hV'
 cases hV'
 have:=congrArg List.length h2
 rw [List.length_map,List.length_map] at this
 omega
variable (hv:∀ V ∈ s.b,V.length≤24)
include hv
theorem Wv {fu:Nat} {g:uE} (h:Fit s g):XU (jO fu s) g=some (Yx s g):=by
 unfold XU
 rw [OB hv]
 show (QZ g.ws (Jl s g.f g.st) []).bind _=_
 rw [QM _ _ (fun v h'=>h.vis h') (by have:=Ko (f:=g.f) (i:=g.st) hv;simp only [List.length_nil];omega)]
 rfl
theorem Ql {fu:Nat}:∀ (l:List uE) (acc:List nI),(∀ g ∈ l,Fit s g)→acc.length+l.length≤1000000000→Ug (jO fu s) l acc=some (acc ++ l.map (Yx s))
 | [],acc,_,_=>by rw [Ug,List.map_nil,List.append_nil]
 | g :: l,acc,h,hn=>by
  rw [List.length_cons] at hn
  rw [Ug,Wv hv (h g (.head _))]
  show (app acc [_]).bind _=_
  unfold Go.Fw.app
  rw [if_pos (by simp only [List.length_cons,List.length_nil];omega)]
  show Ug _ l _=_
  rw [Ql l _ (fun y hy=>h y (.tail _ hy)) (by rw [kJ];omega),List.map_cons,List.append_assoc]
  rfl
omit hv in
def Ta (s:jQ) (rest:List uE) (S:Sg) (id:Int):Sg:=⟨⟨S.a.f,id,S.a.ws⟩,S.hist ++ [⟨((⟨S.a.f,id,S.a.ws⟩:uE) :: rest).map (Yx s)⟩],S.out⟩
theorem Kq {fu N:Nat} {rest:List uE} {S:Sg} {id:Int} (h:Fit s S.a) (hr:∀ g ∈ rest,Fit s g) (hn:rest.length≤20) :
   event (jO fu s) N rest S id=if N≤S.hist.length then some (.err 13,S) else some (.ok (),Ta s rest S id):=by
 unfold event
 split
 · rfl
 · rw [Ql hv _ _ (fun g hg=>by
    rcases List.mem_cons.1 hg with rfl | hg
    · exact h
    · exact hr g hg) (by simp only [List.length_cons,List.length_nil];omega)]
   rfl
end
end Go.Proofs.Ytfglbdkfnphjgaa
set_option linter.unusedVariables false
set_option linter.unusedSimpArgs false
namespace Go.Proofs.Ytfglbdkfnphjgaa
open Go.RowKit Go.Fw
theorem Zo {α:Type} {l:List α} {i:Int} {x:α} (h:ix? l i=some x):∃ k:Nat,i=(k:Int)∧l[k]?=some x:=by
 unfold ix? at h
 split at h
 · cases h
 · exact ⟨i.toNat,by omega,h⟩
def ML (s:jQ) (e:kI):Prop:=∃ gs:List uE,e.a=gs.map (Yx s)∧gs.length≤20∧∀ g ∈ gs,Fit s g
structure Oa (s:jQ) (N:Nat) (S:Sg):Prop where
 hl:S.hist.length≤N
 ol:S.out.length≤S.hist.length
 fit:Fit s S.a
 ev:∀ e ∈ S.hist,ML s e
structure Nw (s:jQ) (N:Nat) (S S':Sg):Prop where
 gd:Oa s N S'
 hp:S.hist <+: S'.hist
 op:S.out <+: S'.out
theorem Nw.rfl' {s:jQ} {N:Nat} {S:Sg} (h:Oa s N S):Nw s N S S:=⟨h,List.prefix_rfl,List.prefix_rfl⟩
theorem Nw.trans {s:jQ} {N:Nat} {S S1 S2:Sg} (h:Nw s N S S1) (k:Nw s N S1 S2):Nw s N S S2:=⟨k.gd,h.hp.trans k.hp,h.op.trans k.op⟩
theorem JR {ev:jA→Option (Pn Int)} {l:List jA} {S:Sg} {β:Type} {k:Int→Option (Pn β × Sg)} {P:Pn β × Sg→Prop} (h:∀ y ∈ l,Yes (ev y)) (hp:∀ p,P (p,S)) (hk:∀ n,kD (k n) P):kD (one ev l S k) P:=by
 unfold one
 cases l with
 | nil=>exact .mk (hp _)
 | cons x l=>
  refine .bd (h x (.head _)) fun p _=>?_
  cases p with
  | ok n=>exact hk n
  | _=>exact .mk (hp _)
theorem PI {ev:jA→Option (Pn Int)} {ws:List (List Int)} {l:List jA} {S:Sg} {β:Type} {k:Nat × Nat→Option (Pn β × Sg)} {P:Pn β × Sg→Prop} (h:∀ y ∈ l,Yes (Rf ev ws y)) (hp:∀ p,P (p,S)) (hk:∀ n,kD (k n) P):kD (NT ev ws l S k) P:=by
 unfold NT
 cases l with
 | nil=>exact .mk (hp _)
 | cons x l=>
  refine .bd (h x (.head _)) fun p _=>?_
  cases p with
  | ok n=>exact hk n
  | _=>exact .mk (hp _)
theorem PN:∀ (l:List jU) (acc:List (List Int)),acc.length+l.length≤1000000000→kD (FJ l acc) (fun p=>∀ ws,p=.ok ws→ws.map List.length=acc.map List.length ++ l.map (fun x=>x.a.toNat)∧∀ x ∈ l,0≤x.a∧x.a≤8)
 | [],acc,_=>.mk fun ws h=>by cases h;exact ⟨by rw [List.map_nil,List.append_nil],fun x hx=>by cases hx⟩
 | v :: l,acc,hn=>by
  rw [List.length_cons] at hn
  rw [FJ]
  refine .ite (fun _=>.mk fun ws h=>by cases h) fun c=>.bd (.app (by simp only [List.length_cons,List.length_nil];omega)) fun r hr=>?_
  subst hr
  refine (PN l _ (by rw [kJ];omega)).imp fun p hp ws hw=>?_
  obtain ⟨h1,h2⟩:=hp ws hw
  refine ⟨by rw [h1,List.map_append,List.append_assoc];simp,fun x hx=>?_⟩
  rcases List.mem_cons.1 hx with rfl | hx
  · omega
  · exact h2 x hx
theorem Ni:∀ (l:List Int) (i:Nat) (ws ws':List (List Int)),IY l i ws=.ok ws'→ws'.map List.length=ws.map List.length
 | [],_,ws,ws',h=>by cases h;rfl
 | v :: l,i,ws,ws',h=>by
  rw [IY] at h
  cases hw:ws[i]? with
  | none=>rw [hw] at h;cases h
  | some row=>
   rw [hw] at h
   cases row with
   | nil=>cases h
   | cons z row=>
    rw [Ni l _ _ ws' h,List.map_set]
    exact set_self (by rw [List.getElem?_map,hw];rfl)
section
variable {s:jQ} {N:Nat}
theorem VB {sm:Sm} {M n:Nat} (hS:∀ S x,M≤S.hist.length→Oa s N S→Hw n x→kD (sm S x) (fun r=>Nw s N S r.2)):∀ (l:List jN) (S:Sg),M≤S.hist.length→Oa s N S→(∀ y ∈ l,Hw n y)→kD (JJ sm S l) (fun r=>Nw s N S r.2)
 | [],S,_,h,_=>.mk (.rfl' h)
 | x :: l,S,hM,h,hl=>by
  rw [JJ]
  refine .bd (hS S x hM h (hl x (.head _))) fun r hr=>?_
  obtain ⟨p,S1⟩:=r
  have k:=VB hS l S1 (Nat.le_trans hM hr.hp.length_le) hr.gd (fun y hy=>hl y (.tail _ hy))
  cases p with
  | ok o=>
   cases o with
   | none=>exact k.imp fun r h=>hr.trans h
   | some v=>exact .mk hr
  | _=>exact .mk hr
structure Cl (s:jQ) (N:Nat) (hist:List kI) (out:List Int) (h:List kI) (o:List Int):Prop where
 hl:h.length≤N
 ol:o.length≤h.length
 ev:∀ e ∈ h,ML s e
 hp:hist <+: h
 op:out <+: o
theorem Pm (hs:CI s) {sm:List uE→Sm} {stk:List uE} {f:Int} {args:List Int} {hist:List kI} {out:List Int} (h1:hist.length≤N) (h2:out.length≤hist.length) (h3:∀ e ∈ hist,ML s e)
  (hS:stk.length≤19→∀ S x n,n≤10→hist.length≤S.hist.length→Oa s N S→Hw n x→kD (sm stk S x) (fun r=>Nw s N S r.2)):kD (Ef sm s stk f args hist out) (fun r=>Cl s N hist out r.2.1 r.2.2):=by
 have hC:Cl s N hist out hist out:=⟨h1,h2,h3,List.prefix_rfl,List.prefix_rfl⟩
 unfold Ef
 refine .ite (fun _=>.mk hC) fun c=>?_
 cases hV:ix? s.b f with
 | none=>exact .mk hC
 | some vars=>
 obtain ⟨k,rfl,hk⟩:=Zo hV
 have h24:=hs.vn vars (List.mem_of_getElem? hk)
 refine .bd (PN vars [] (by simp only [List.length_nil];omega)) fun p hp=>?_
 cases p with
 | ok ws=>
  obtain ⟨h4,h5⟩:=hp ws rfl
  cases hA:IY args 0 ws with
  | ok ws'=>
   simp only [hA]
   cases hF:ix? s.a.b (k:Int) with
   | none=>exact .mk hC
   | some fn=>
    obtain ⟨k2,_,hk2⟩:=Zo hF
    have hfit:Fit s ⟨(k:Int),0,ws'⟩:=⟨Int.natCast_nonneg k,vars,by dsimp only;rw [Int.toNat_natCast];exact hk,by dsimp only;rw [Ni _ _ _ _ hA,h4];rfl,h5⟩
    refine .bd (VB (M:=hist.length) (n:=10) (fun S x=>hS (by omega) S x 10 (Nat.le_refl _)) fn.d ⟨⟨(k:Int),0,ws'⟩,hist,out⟩ (Nat.le_refl _) ⟨h1,h2,hfit,h3⟩ (hs.fx fn (List.mem_of_getElem? hk2))) fun r hr=>?_
    exact .mk ⟨hr.gd.hl,hr.gd.ol,hr.gd.ev,hr.hp,hr.op⟩
  | _=>simp only [hA];exact .mk hC
 | _=>exact .mk hC
theorem Qe {rest:List uE} {S:Sg} {id:Int} (h:Oa s N S) (hr:∀ g ∈ rest,Fit s g) (hn:rest.length≤19) (hN:S.hist.length < N):Nw s N S (Ta s rest S id):=by
 have hf:Fit s ⟨S.a.f,id,S.a.ws⟩:=h.fit
 refine ⟨⟨by unfold Ta;rw [kJ];omega,by unfold Ta;rw [kJ];exact Nat.le_succ_of_le h.ol,hf,nY h.ev ⟨_,rfl,by rw [List.length_cons];omega,fun g hg=>?_⟩⟩,List.prefix_append _ _,List.prefix_rfl⟩
 rcases List.mem_cons.1 hg with rfl | hg
 · exact hf
 · exact hr g hg
theorem Yv (hs:CI s) {rest:List uE} (hr:∀ g ∈ rest,Fit s g) (hn:rest.length≤19) {fv:Nat} {id:Int} {M:Nat} {cond:Sg→Option (Pn Int)} {body:Sg→Option (Pn (Option Int) × Sg)} (hc:∀ S,Yes (cond S)) (hb:∀ S,M≤S.hist.length→Oa s N S→kD (body S) (fun r=>Nw s N S r.2)) :
  ∀ (n:Nat) (S:Sg),M≤S.hist.length→Oa s N S→N - S.hist.length+1≤n→kD (WX cond body (fun S=>event (jO fv s) N rest S id) n S) (fun r=>Nw s N S r.2)
 | 0,S,_,_,h=>by omega
 | n+1,S,hM,h,hn'=>by
  rw [WX]
  refine .bd (hc S) fun p _=>?_
  cases p with
  | ok v=>
   refine .ite (fun _=>.mk (.rfl' h)) fun _=>.bd (hb S hM h) fun r hr1=>?_
   obtain ⟨p,S1⟩:=r
   cases p with
   | ok o=>
    cases o with
    | none=>
     have hl:=hr1.hp.length_le
     dsimp only at hl hr1 ⊢
     rw [Kq hs.vn hr1.gd.fit hr (by omega)]
     by_cases hN:N≤S1.hist.length
     · rw [if_pos hN];exact .mk hr1
     · rw [if_neg hN]
       have k:=Qe (id:=id) hr1.gd hr hn (by omega)
       refine (Yv hs hr hn hc hb n _ (Nat.le_trans hM (Nat.le_trans hl k.hp.length_le)) k.gd (by unfold Ta;rw [kJ];omega)).imp fun r h=>(hr1.trans k).trans h
    | some v=>exact .mk hr1
   | _=>exact .mk hr1
  | _=>exact .mk (.rfl' h)
theorem Sd (hs:CI s) {sm:List uE→Sm} {rest:List uE} {fu:Nat} {S:Sg} {x:jN} {k:Int→Sg→Option (Pn (Option Int) × Sg)} (h:Oa s N S) (hr:∀ g ∈ rest,Fit s g) (hA:x.a.length≤5000∧∀ y ∈ x.a,zm 5000 y) (hf:5000≤fu)
  (hS:rest.length≤18→∀ S' x n,n≤10→S.hist.length≤S'.hist.length→Oa s N S'→Hw n x→kD (sm (S.a :: rest) S' x) (fun r=>Nw s N S' r.2)) (hk:∀ v h o,Cl s N S.hist S.out h o→kD (k v ⟨S.a,h,o⟩) (fun r=>Nw s N S r.2)) :
  kD (F7 sm s rest fu S x k) (fun r=>Nw s N S r.2):=by
 unfold F7
 refine .bd (T9 x.a [] (fun y hy=>Tg fu 5000 _ y (hA.2 y hy) hf) (by simp only [List.length_nil];omega)) fun p _=>?_
 cases p with
 | ok l=>
  refine .bd (Pm hs h.hl h.ol h.ev (fun h19=>hS (by rw [List.length_cons] at h19;omega))) fun r hr=>?_
  obtain ⟨p,h',o⟩:=r
  have hc:Nw s N S ⟨S.a,h',o⟩:=⟨⟨hr.hl,hr.ol,h.fit,hr.ev⟩,hr.hp,hr.op⟩
  cases p with
  | ok v=>exact hk v h' o hr
  | _=>exact .mk hc
 | _=>exact .mk (.rfl' h)
theorem YW (hs:CI s) (hN:N≤5000) {fv:Nat}:∀ (fu:Nat) (rest:List uE) (S:Sg) (x:jN) (n:Nat),(∀ g ∈ rest,Fit s g)→rest.length≤19→Oa s N S→Hw n x→n≤10→5001+(N - S.hist.length)≤fu→
  kD (stM (jO fv s) s N fu rest S x) (fun r=>Nw s N S r.2)
 | 0,_,_,_,_,_,_,_,_,_,h=>by omega
 | fu+1,rest,S,x,n,hr,hn,h,hx,hn10,hf=>by
  cases n with
  | zero=>exact hx.elim
  | succ n=>
  obtain ⟨x1,x2,x3,x4⟩:=hx
  rw [stM,Kq hs.vn h.fit hr (by omega)]
  by_cases hN2:N≤S.hist.length
  · rw [if_pos hN2];exact .mk (.rfl' h)
  rw [if_neg hN2]
  have k:=Qe (id:=x.n) h hr hn (by omega)
  have hl:(Ta s rest S x.n).hist.length=S.hist.length+1:=kJ
  have ho:(Ta s rest S x.n).out.length+1≤(Ta s rest S x.n).hist.length:=by rw [hl];exact Nat.succ_le_succ h.ol
  generalize Ta s rest S x.n=E at k hl ho
  refine kD.imp (Q:=fun r=>Nw s N E r.2) ?_ fun r h=>k.trans h
  have hE:=k.gd
  show kD (if x.e=1 then _ else _) _
  have ihs:∀ (rest:List uE),(∀ g ∈ rest,Fit s g)→rest.length≤19→∀ S' x n,n≤10→E.hist.length≤S'.hist.length→Oa s N S'→Hw n x→kD (stM (jO fv s) s N fu rest S' x) (fun r=>Nw s N S' r.2):=
    fun rest hr hn S' x n h10 hl' hG hX=>YW hs hN fu rest S' x n hr hn hG hX h10 (by omega)
  have hcall:∀ {k:Int→Sg→Option (Pn (Option Int) × Sg)},(∀ v h o,Cl s N E.hist E.out h o→kD (k v ⟨E.a,h,o⟩) (fun r=>Nw s N E r.2))→kD (F7 (stM (jO fv s) s N fu) s rest fu E x k) (fun r=>Nw s N E r.2):=fun hk=>
    Sd hs hE hr x2 (by omega) (fun h18=>ihs (E.a :: rest) (fun g hg=>by
      rcases List.mem_cons.1 hg with rfl | hg
      · exact hE.fit
      · exact hr g hg) (by rw [List.length_cons];omega)) hk
  have hls:∀ (l:List jN) (S':Sg),E.hist.length≤S'.hist.length→Oa s N S'→(∀ y ∈ l,Hw n y)→kD (JJ (stM (jO fv s) s N fu rest) S' l) (fun r=>Nw s N S' r.2):=
    VB (M:=E.hist.length) (n:=n) fun S' x=>ihs rest hr hn S' x n (by omega)
  have hev:∀ ws,∀ y ∈ x.a,Yes (CF fu ws y):=fun ws y hy=>Tg fu 5000 ws y (x2.2 y hy) (by omega)
  have hwd:∀ ws,∀ y ∈ x.c,Yes (Rf (CF fu ws) ws y):=fun ws y hy=>XC fun z hz=>Tg fu 5000 ws z (zm.mono (n:=4999) ((x1 y hy).2 z hz) (by decide)) (by omega)
  refine .ite (fun _=>?_) fun _=>.ite (fun _=>?_) fun _=>.ite (fun _=>?_) fun _=>.ite (fun _=>?_) fun _=>.ite (fun _=>?_) fun _=>.ite (fun _=>?_) fun _=>.ite (fun _=>?_) fun _=>.ite (fun _=>?_) fun _=>.ite (fun _=>?_) fun _=>.ite (fun _=>?_) fun _=>?_
  · cases hi:ix? E.a.ws x.g with
    | none=>exact .mk (.rfl' hE)
    | some l=>
      obtain ⟨q,hq,hql⟩:=Zo hi
      exact .mk ⟨⟨hE.hl,hE.ol,by
        rw [show x.g.toNat=q from by omega]
        exact Fit.put (st:=E.a.st) hE.fit hql (List.length_replicate ..),hE.ev⟩,List.prefix_rfl,List.prefix_rfl⟩
  · exact PI (hwd _) (fun p=>.rfl' hE) fun q=>JR (hev _) (fun p=>.rfl' hE) fun v=>.mk ⟨⟨hE.hl,hE.ol,Fit.word (st:=E.a.st) hE.fit,hE.ev⟩,List.prefix_rfl,List.prefix_rfl⟩
  · refine hcall fun v h' o hC=>?_
    have hc:Nw s N E ⟨E.a,h',o⟩:=⟨⟨hC.hl,hC.ol,hE.fit,hC.ev⟩,hC.hp,hC.op⟩
    exact .ite (fun _=>.mk hc) fun _=>PI (hwd _) (fun p=>hc) fun q=>.mk ⟨⟨hC.hl,hC.ol,Fit.word (st:=E.a.st) hE.fit,hC.ev⟩,hC.hp,hC.op⟩
  · refine JR (hev _) (fun p=>.rfl' hE) fun v=>hls _ _ (Nat.le_refl _) hE fun y hy=>?_
    split at hy
    · exact x3 y hy
    · exact x4 y hy
  · refine Yv (M:=E.hist.length) hs hr hn (fun S=>?_) (fun S' hM hG=>hls _ _ hM hG x3) fu E (Nat.le_refl _) hE (by omega)
    cases hA:x.a with
    | nil=>exact .mk trivial
    | cons y l=>exact hev _ y (by rw [hA];exact .head _)
  · exact .ite (fun _=>hcall fun v h' o hC=>.mk ⟨⟨hC.hl,hC.ol,hE.fit,hC.ev⟩,hC.hp,hC.op⟩) fun _=>JR (hev _) (fun p=>.rfl' hE) fun v=>.mk (.rfl' hE)
  · exact JR (hev _) (fun p=>.rfl' hE) fun v=>.mk (.rfl' hE)
  · refine .bd (hls _ _ (Nat.le_refl _) hE x3) fun r hr1=>?_
    obtain ⟨p,S1⟩:=r
    cases p with
    | Ey v=>
      dsimp only
      cases hi:ix? S1.a.ws x.g with
      | none=>exact .mk hr1
      | some row=>
        obtain ⟨q,hq,hql⟩:=Zo hi
        cases row with
        | nil=>exact .mk hr1
        | cons z row=>
         have hk2:Nw s N S1 { S1 with a:={ S1.a with ws:=S1.a.ws.set x.g.toNat (v :: row) } }:=⟨⟨hr1.gd.hl,hr1.gd.ol,by
          rw [show x.g.toNat=q from by omega]
          exact Fit.put (st:=S1.a.st) hr1.gd.fit hql rfl,hr1.gd.ev⟩,List.prefix_rfl,List.prefix_rfl⟩
         exact (hls x.h { S1 with a:={ S1.a with ws:=S1.a.ws.set x.g.toNat (v :: row) } } hr1.hp.length_le hk2.gd x4).imp fun r h=>(hr1.trans hk2).trans h
    | _=>exact .mk hr1
  · refine JR (hev _) (fun p=>.rfl' hE) fun v=>.bd (.app (by have:=hE.hl;simp only [List.length_cons,List.length_nil];omega)) fun o ho'=>?_
    subst ho'
    exact .mk ⟨⟨hE.hl,by dsimp only;rw [kJ];omega,hE.fit,hE.ev⟩,List.prefix_rfl,List.prefix_append _ _⟩
  · exact .mk (.rfl' hE)
  · exact .mk (.rfl' hE)
end
end Go.Proofs.Ytfglbdkfnphjgaa
set_option linter.unusedVariables false
namespace Go.Proofs.Ytfglbdkfnphjgaa
open Go.RowKit Go.Fw
structure Ao where
 b:Nat
 A:Option Addr
 c:Nat
 R:List Nat
def FZ (w:World):List Nat→List (List Int)→Prop
 | [],[]=>True
 | r :: R,l :: m=>mM w r 3 (l.map V).toArray∧FZ w R m
 | _,_=>False
def Fq:List Nat→List (List Int)→List Value
 | r :: R,l :: m=>.slice (some ⟨r,0,none⟩) l.length l.length :: Fq R m
 | _,_=>[]
theorem FZ.len {w:World}:∀ {R:List Nat} {m:List (List Int)},FZ w R m→R.length=m.length
 | [],[],_=>rfl
 | _ :: _,_ :: _,h=>congrArg (·+1) (FZ.len h.2)
 | [],_ :: _,h=>h.elim
 | _ :: _,[],h=>h.elim
theorem FZ.get {w:World}:∀ {R:List Nat} {m:List (List Int)} {k:Nat} {l:List Int},FZ w R m→m[k]?=some l→∃ r,R[k]?=some r∧mM w r 3 (l.map V).toArray
 | r :: _,_ :: _,0,l,h,hx=>by simp only [List.getElem?_cons_zero,Option.some.injEq] at hx;subst hx;exact ⟨r,rfl,h.1⟩
 | _ :: _,_ :: _,k+1,l,h,hx=>FZ.get (k:=k) h.2 (by simpa using hx)
 | [],[],_,_,_,hx=>by simp at hx
 | [],_ :: _,_,_,h,_=>h.elim
 | _ :: _,[],_,_,h,_=>h.elim
theorem FZ.mem {w:World}:∀ {R:List Nat} {m:List (List Int)} {r:Nat},FZ w R m→r ∈ R→r < w.heap.size
 | _ :: _,_ :: _,r,h,hr=>by
  rcases List.mem_cons.1 hr with rfl | hr
  · exact h.1.lt
  · exact FZ.mem h.2 hr
 | [],[],_,_,hr=>by cases hr
 | [],_ :: _,_,h,_=>h.elim
 | _ :: _,[],_,h,_=>h.elim
theorem FZ.st {w w':World}:∀ {R:List Nat} {m:List (List Int)},FZ w R m→(∀ b ∈ R,w'.heap[b]?=w.heap[b]?)→FZ w' R m
 | _ :: _,_ :: _,h,k=>⟨by have:=h.1;unfold mM at this ⊢;rw [k _ (List.mem_cons_self ..)];exact this,FZ.st h.2 fun b hb=>k b (List.mem_cons_of_mem _ hb)⟩
 | [],[],_,_=>trivial
 | [],_ :: _,h,_=>h.elim
 | _ :: _,[],h,_=>h.elim
theorem Gf:∀ {R:List Nat} {m:List (List Int)} {k r:Nat} {l:List Int},R[k]?=some r→m[k]?=some l→(Fq R m)[k]?=some (.slice (some ⟨r,0,none⟩) l.length l.length)
 | _ :: _,_ :: _,0,_,_,h,k=>by simp only [List.getElem?_cons_zero,Option.some.injEq] at h k;subst h k;rfl
 | _ :: _,_ :: _,k+1,_,_,h,hk=>Gf (k:=k) (by simpa using h) (by simpa using hk)
 | [],_,_,_,_,h,_=>by simp at h
 | _,[],_,_,_,_,h=>by simp at h
def It.act (x:Ao) (g:uE):It where
 F k:=k=x.b ∨ rowOf x.A=some k ∨ k ∈ x.R
 p w:=mM w x.b 120 #[V g.f,V g.st,.slice x.A g.ws.length x.c]∧FZ w x.R g.ws∧Go.Fw.Own w 0 22 1 x.A g.ws.length x.c (Fq x.R g.ws)∧x.b ∉ x.R∧rowOf x.A≠some x.b∧(∀ r ∈ x.R,rowOf x.A≠some r)∧x.R.Nodup∧∀ l ∈ g.ws,l.length≤8
 bd w h k hk:=by
  obtain ⟨h1,h2,h3,_⟩:=h
  rcases hk with rfl | hk | hk
  · exact h1.lt
  · exact (h3.row k hk).2
  · exact h2.mem hk
 st w w' h k hs:=by
  obtain ⟨h1,h2,h3,h4⟩:=h
  refine ⟨?_,h2.st fun b hb=>k b (.inr (.inr hb)),Go.Fw.Own.same h3 fun b hb=>k b (.inr (.inl hb)),h4⟩
  unfold mM at h1 ⊢;rw [k _ (.inl rfl)];exact h1
section
variable {w:World} {x:Ao} {g:uE} {k:Nat} {l:List Int}
theorem It.za (h:(It.act x g).p w):mM w x.b 120 #[V g.f,V g.st,.slice x.A g.ws.length x.c]:=h.1
theorem Fe {w:World} {base:Nat} {e:TypeId} {n c k:Nat} {A:Option Addr} {xs:List Value} {v:Value} (h:Go.Fw.Own w base e 1 A n c xs) (hv:xs[k]?=some v):A=some ⟨nM A,oU A,none⟩∧w.cell? ⟨nM A,oU A+k,none⟩=some v∧oU A=0:=by
 rcases h.blk with ⟨_,_,_,h4⟩|⟨q,cur,h1,_,h3,_,_,_,h7⟩
 · subst h4;simp at hv
 · subst h1
   refine ⟨rfl,?_,rfl⟩
   show w.cell? ⟨q,0+k,none⟩=_
   rw [Nat.zero_add]
   refine h3.cell ?_
   have:cur.toList[k]?=some v:=by rw [← h7,List.getElem?_take] at hv;split at hv;exact hv;cases hv
   simpa using this
theorem It.zP (h:(It.act x g).p w) (hk:g.ws[k]?=some l):∃ r,x.R[k]?=some r∧mM w r 3 (l.map V).toArray∧x.A=some ⟨nM x.A,oU x.A,none⟩∧w.cell? ⟨nM x.A,oU x.A+k,none⟩=some (.slice (some ⟨r,0,none⟩) l.length l.length):=by
 obtain ⟨r,h1,h2⟩:=h.2.1.get hk
 have h3:=Fe h.2.2.1 (Gf h1 hk)
 exact ⟨r,h1,h2,h3.1,h3.2.1⟩
end
end Go.Proofs.Ytfglbdkfnphjgaa
set_option linter.unusedVariables false
set_option maxRecDepth 4000
set_option maxHeartbeats 12800000
namespace Go.Proofs.Ytfglbdkfnphjgaa
open Go.RowKit Go.Fw
theorem RI:∃ D,Try.prog.underlying 90=some D∧(match D with | .interface _=>false | _=>true)=true:=⟨_,Try.underlying90,rfl⟩
theorem OY:∃ D,Try.prog.underlying 91=some D∧(match D with | .interface _=>false | _=>true)=true:=⟨_,Try.underlying91,rfl⟩
def Pb {α:Type}:Pn α→List PanicEntry→Prop
 | .ok _,_=>False
 | .Ey v,c=>Xl (.iface 90 (V v)) c
 | .err e,c=>Xl (.iface 91 (V e)) c
 | .rt,c=>∃ u,Xl (.iface Try.prog.rt.boundsError u) c
theorem FR:jC Try.prog 121:=⟨_,Try.func121,by kernel_rfl,by kernel_rfl⟩
theorem NZ {op x y:Int} {w:World}:Calls Try.prog 122 #[V op,V x,V y] w (RP (fun v w'=>∃ n,Ry op x y=.ok n∧v=V n∧w'=w) (fun c w'=>Pb (Ry op x y) c∧w'=w)):=by
 refine vU Try.func122 rfl ?_
 refine lJ [(0,V op),(1,V x),(2,V y)] ⟨rfl,rfl,rfl,trivial⟩ fun av=>?_
 refine go ?_
 unfold Ry
 refine qm rfl (fun h=>?_) (fun h=>?_)
 · refine go ?_
   exact kS (jB rfl (kW rfl) ⟨_,by rw [if_pos h],rfl,rfl⟩)
 rw [if_neg h]
 refine go ?_
 refine qm rfl (fun h=>?_) (fun h=>?_)
 · refine go ?_
   exact kS (jB rfl (kW rfl) ⟨_,by rw [if_pos h],rfl,rfl⟩)
 rw [if_neg h]
 refine go ?_
 refine qm rfl (fun h=>?_) (fun h=>?_)
 · refine go ?_
   exact kS (jB rfl (kW rfl) ⟨_,by rw [if_pos h],rfl,rfl⟩)
 rw [if_neg h]
 refine go ?_
 refine nV (fun f w'=>w'=w∧Has f [(0,V op),(1,V x),(2,V y),(7,V op),(23,.bool (decide (op=9 ∨ op=10)))]) (fun J hJ=>?_) ?_
 · refine qm rfl (fun h=>?_) (fun h=>?_)
   · refine go ?_
     exact hJ _ _ ⟨rfl,rfl,rfl,rfl,rfl,congrArg Value.bool (decide_eq_decide.2 ⟨.inl,fun _=>h⟩),trivial⟩
   · refine go ?_
     exact hJ _ _ ⟨rfl,rfl,rfl,rfl,rfl,congrArg Value.bool (decide_eq_decide.2 ⟨.inr,fun z=>z.resolve_left h⟩),trivial⟩
 rintro f w1 ⟨rfl,hf⟩
 obtain ⟨av,rfl⟩:=gP _ _ hf
 clear hf
 refine go ?_
 refine qm rfl (fun hd=>?_) (fun hd=>?_)
 · refine go ?_
   refine qm rfl (fun hy=>?_) (fun hy=>?_)
   · refine go ?_
     refine jR (Iy RI rfl) ?_
     refine zV rfl ?_
     refine ⟨?_,rfl⟩
     rcases hd with hd | hd
     · rw [if_pos hd,if_pos hy];exact xH _
     · rw [if_neg (by omega),if_pos hd,if_pos hy];exact xH _
   refine go ?_
   refine qm rfl (fun h=>?_) (fun h=>?_)
   · refine go ?_
     refine jR (Ub rfl rfl hy) ?_
     refine go ?_
     exact kS (jB rfl (kW rfl) ⟨_,by rw [if_pos h,if_neg hy],rfl,rfl⟩)
   refine go ?_
   refine jR (QT rfl rfl hy) ?_
   refine go ?_
   exact kS (jB rfl (kW rfl) ⟨_,by rw [if_neg h,if_pos (hd.resolve_left h),if_neg hy],rfl,rfl⟩)
 rw [if_neg fun z=>hd (.inl z),if_neg fun z=>hd (.inr z)]
 refine go ?_
 refine qm rfl (fun h=>?_) (fun h=>?_)
 · refine go ?_
   exact kS (jB rfl (kW rfl) ⟨_,by rw [if_pos h],rfl,rfl⟩)
 rw [if_neg h]
 refine go ?_
 refine qm rfl (fun h=>?_) (fun h=>?_)
 · refine go ?_
   exact kS (jB rfl (kW rfl) ⟨_,by rw [if_pos h],rfl,rfl⟩)
 rw [if_neg h]
 refine go ?_
 refine qm rfl (fun h=>?_) (fun h=>?_)
 · refine go ?_
   exact kS (jB rfl (kW rfl) ⟨_,by rw [if_pos h],rfl,rfl⟩)
 rw [if_neg h]
 refine go ?_
 refine qm rfl (fun h=>?_) (fun h=>?_)
 · refine go ?_
   refine CX (pY FR rfl) Bo ?_
   rintro _ w2 ⟨rfl,rfl⟩
   refine go ?_
   exact kS (jB rfl (kW rfl) ⟨_,by rw [if_pos h],rfl,rfl⟩)
 rw [if_neg h]
 refine go ?_
 refine qm rfl (fun h=>?_) (fun h=>?_)
 · refine go ?_
   refine CX (pY FR rfl) Bo ?_
   rintro _ w2 ⟨rfl,rfl⟩
   refine go ?_
   exact kS (jB rfl (kW rfl) ⟨_,by rw [if_pos h],rfl,rfl⟩)
 rw [if_neg h]
 refine go ?_
 refine qm rfl (fun h=>?_) (fun h=>?_)
 · refine go ?_
   refine CX (pY FR rfl) Bo ?_
   rintro _ w2 ⟨rfl,rfl⟩
   refine go ?_
   exact kS (jB rfl (kW rfl) ⟨_,by rw [if_pos h],rfl,rfl⟩)
 rw [if_neg h]
 refine go ?_
 refine qm rfl (fun h=>?_) (fun h=>?_)
 · refine go ?_
   refine CX (pY FR rfl) Bo ?_
   rintro _ w2 ⟨rfl,rfl⟩
   refine go ?_
   exact kS (jB rfl (kW rfl) ⟨_,by rw [if_pos h],rfl,rfl⟩)
 rw [if_neg h]
 refine go ?_
 refine jR (Iy OY rfl) ?_
 exact zV rfl ⟨xH _,rfl⟩
end Go.Proofs.Ytfglbdkfnphjgaa
set_option linter.unusedVariables false
set_option maxRecDepth 4000
set_option maxHeartbeats 12800000
namespace Go.Proofs.Ytfglbdkfnphjgaa
open Go.RowKit Go.Fw
abbrev cE (e:jA) (a:Option Addr) (c:Nat):List Value:=[V e.e,V e.c,V e.g,T e.b,T e.d,.slice a e.a.length c]
section
variable {N:Fz} {ops:Array Oper} {K:KK} {rest:List Oper} {f:Fr} {w w0:World} {d1 d2:Nat} {ty ty2:TypeId} {pos pos2:String} {af af2:Array Edge} {y z:Operand} {Z G:Nat→Prop} {L:List It} {D:List Da}
theorem TW (e:Bx w0 w Z G L D) (j:Nat) {a:Option Addr} {c:Nat} {l:List jA} {k:Nat} {i:Int} {x:jA} (hj:D[j]?=some (.l a c l)) (hk:l[k]?=some x) (h1:ev f y=.slice a l.length c) (h2:ev f z=V i) (hi:i=(k:Int))
  (h:∀ a2 c2,Bx w0 w Z G L (.l a2 c2 x.a :: D)→kQ Try.prog N ops K rest (upd (upd f d1 (.pointer (some ⟨nM a,oU a+k * 6,none⟩))) d2 (.agg (cE x a2 c2).toArray)) w) :
  kQ Try.prog N ops K (⟨some d1,.indexAddr 109 y z,ty,pos,af,none⟩ :: ⟨some d2,.load 138 (.tmp d1),ty2,pos2,af2,none⟩ :: rest) f w:=by
 obtain ⟨cs,hr,e2⟩:=e.nm j hj hk
 obtain ⟨a2,c2,rfl,hd⟩:=jA.out hr
 have e3:=e2.kr (d:=.l a2 c2 x.a) hd
 refine jR (kV Try.underlying109 jS h1 h2 hi (e.dl j hj) hk) ?_
 refine jR (nE (cE x a2 c2) Try.underlying138 rfl jS rfl (by show upd f d1 _ d1=_;unfold upd;rw [Nat.beq_refl];rfl) (e3.dc 1 rfl)) ?_
 exact h a2 c2 (e3.Lm fun d hd=>by
  rcases List.mem_cons.1 hd with rfl | hd
  · exact List.mem_cons_self ..
  · exact List.mem_cons_of_mem _ (List.mem_cons_of_mem _ hd))
theorem Aj {t:TypeId} {d:Option Nat} {a:Option Addr} {n c:Nat} {i:Int} {t2:TypeId} (ht:Try.prog.underlying t=some (.slice t2)) (h1:ev f y=.slice a n c) (h2:ev f z=V i) (hi:¬ (0≤i∧i < n))
  (h:∀ u w',w'=w ∨ w'=w.drew→K.p f [⟨.iface Try.prog.rt.boundsError u,false,false⟩] w') :
  kQ Try.prog N ops K (⟨d,.indexAddr t y z,ty,pos,af,none⟩ :: rest) f w:=by
 obtain ⟨w',v,hr,hw⟩:=Nu (P:=Try.prog) (w:=w) (d:=d) (ty:=ty) (pos:=pos) (af:=af) (g:=none) ht h1 h2 hi
 exact TD hr (h v w' hw)
end
theorem Qu:jC Try.prog 101:=⟨_,Try.func101,by kernel_rfl,by kernel_rfl⟩
theorem Bd:jC Try.prog 102:=⟨_,Try.func102,by kernel_rfl,by kernel_rfl⟩
theorem VP:jC Try.prog 122:=⟨_,Try.func122,by kernel_rfl,by kernel_rfl⟩
def Zw {α:Type} (p:Pn α) (w:World) (ch:List PanicEntry) (w':World):Prop:=Pb p ch∧Ext w w'
def X9 (evf:List (List Int)→jA→Option (Pn Int)):Prop:=∀ {w:World} {A:Nat→Prop} {rb:Nat} {x:Ao} {g:uE} {e:jA} {a:Option Addr} {c:Nat} {p:Pn Int},Pre w A [] [.l a c e.a]→(It.act x g).p w→evf g.ws e=some p→
 Calls Try.prog 102 #[Pt rb,Pt x.b,.agg (cE e a c).toArray] w (RP (fun v w'=>∃ n,p=.ok n∧v=V n∧Ext w w') (Zw p w))
def ZN (evf:List (List Int)→jA→Option (Pn Int)):Prop:=∀ {w:World} {A:Nat→Prop} {rb:Nat} {x:Ao} {g:uE} {e:jA} {a:Option Addr} {c:Nat} {p:Pn (Nat × Nat)},Pre w A [] [.l a c e.a]→(It.act x g).p w→Rf (evf g.ws) g.ws e=some p→
 Calls Try.prog 101 #[Pt rb,Pt x.b,.agg (cE e a c).toArray] w (RP (fun v w'=>∃ k j r l,p=.ok (k,j)∧x.R[k]?=some r∧g.ws[k]?=some l∧j < l.length∧v=.pointer (some ⟨r,j,none⟩)∧Ext w w') (Zw p w))
theorem yg {x:Ao} {g:uE} {w w':World} (h:(It.act x g).p w) (e:Ext w w'):(It.act x g).p w':=(It.act x g).st w w' h (fun b hb=>e.block b ((It.act x g).bd w h b hb)) e.size
theorem Pb.up {α β:Type} {p:Pn α} {ch:List PanicEntry} (h:Pb p ch):Pb (p.up:Pn β) ch:=by
 cases p with
 | ok a=>exact h.elim
 | _=>exact h
theorem Bu {w w1 w':World} (h:Ext w w1) (k:w'=w1 ∨ w'=w1.drew):Ext w w':=by
 rcases k with rfl | rfl
 · exact h
 · exact h.drew
theorem Px {ef:List (List Int)→jA→Option (Pn Int)} (hE:X9 ef) (hW:ZN ef) {fu:Nat} (hf:∀ ws e,ef ws e=CF fu ws e):X9 (CF (fu+1)):=by
 intro w A rb x g e a c p hP ha hm
 have b:=hP.bx
 clear hP
 refine vU Try.func102 rfl ?_
 refine lJ [(0,Pt rb),(1,Pt x.b),(2,.agg (cE e a c).toArray)] ⟨rfl,rfl,rfl,trivial⟩ fun av=>?_
 refine go ?_
 refine tF b (xG rfl) fun w1 b1 b=>?_
 refine goB b ?_
 rw [CF] at hm
 refine qm rfl (fun h=>?_) (fun h=>?_)
 · rw [if_pos h] at hm
   refine goB b ?_
   exact kS (jB rfl (kW rfl) ⟨_,(sm hm).symm,rfl,(b.tl).ex⟩)
 rw [if_neg h] at hm
 refine goB b ?_
 refine nV (fun f w'=>w'=w1∧Has f [(0,Pt rb),(1,Pt x.b),(5,Pt b1),(10,V e.e),(15,.bool (decide (e.e=1 ∨ e.e=2 ∨ e.e=3)))]) (fun J hJ=>?_) ?_
 · refine qm rfl (fun h=>?_) (fun h=>?_)
   · refine go ?_
     exact hJ _ _ ⟨rfl,rfl,rfl,rfl,rfl,congrArg Value.bool (decide_eq_decide.2 ⟨.inl,fun _=>h⟩),trivial⟩
   refine go ?_
   refine qm rfl (fun h2=>?_) (fun h2=>?_)
   · refine go ?_
     exact hJ _ _ ⟨rfl,rfl,rfl,rfl,rfl,congrArg Value.bool (decide_eq_decide.2 ⟨fun z=>.inr (.inl z),fun _=>h2⟩),trivial⟩
   refine go ?_
   exact hJ _ _ ⟨rfl,rfl,rfl,rfl,rfl,congrArg Value.bool (decide_eq_decide.2 ⟨fun z=>.inr (.inr z),fun z=>(z.resolve_left h).resolve_left h2⟩),trivial⟩
 rintro f w' ⟨rfl,hf'⟩
 obtain ⟨av,rfl⟩:=gP _ _ hf'
 clear hf'
 have hx:Ext w w':=(b.tl).ex
 refine go ?_
 refine qm rfl (fun h=>?_) (fun h=>?_)
 · rw [if_pos h] at hm
   obtain ⟨q,h1,hm⟩:=bs hm
   refine goB b ?_
   refine jR (mY (cE e a c) mQ jS rfl (b.bk 0 rfl)) ?_
   refine IZ (pY Qu rfl) (hW (b.pr [] [0] [0] rfl) (yg ha hx) (by rw [← h1];congr 1;exact funext fun e=>hf ..)) (fun ch w2 hp=>?_) ?_
   · obtain ⟨hp,hx2⟩:=hp
     cases q with
     | ok r=>exact hp.elim
     | _=>obtain rfl:=sm hm;exact ⟨hp,hx.trans hx2⟩
   rintro _ w2 ⟨k,j,r,l,rfl,hr,hl,hj,rfl,hx2⟩
   obtain ⟨r',hr',hb,_⟩:=It.zP (yg (yg ha hx) hx2) hl
   rw [hr] at hr'
   obtain rfl:=Option.some.inj hr'
   refine go ?_
   refine V9 rfl hb (v:=V (UG g.ws (k,j))) ?_ ?_
   · show (l.map V).toArray[j]?=_
     simp only [List.getElem?_toArray,List.getElem?_map,UG]
     rw [List.getElem?_eq_getElem hj]
     simp [List.getD_eq_getElem?_getD,hl,hj]
   refine go ?_
   exact kS (jB rfl (kW rfl) ⟨_,(sm hm).symm,rfl,hx.trans hx2⟩)
 rw [if_neg h] at hm
 refine goB b ?_
 refine qm rfl (fun h=>?_) (fun h=>?_)
 · rw [if_pos h] at hm
   refine goB b ?_
   cases hA:e.a with
   | nil=>
     rw [hA] at hm
     exact Aj Try.underlying109 rfl rfl (by rw [hA];simp) fun u w2 hw=>by obtain rfl:=sm hm;exact ⟨⟨u,xH _⟩,Bu hx hw⟩
   | cons y l=>
     rw [hA] at hm
     obtain ⟨q,h1,hm⟩:=bs hm
     refine TW b 0 rfl (show e.a[0]?=some y by rw [hA];rfl) rfl rfl rfl fun a2 c2 b=>?_
     refine goB b ?_
     refine IZ (pY Bd rfl) (hE (b.pr [] [0] [0] rfl) (yg ha hx) (by rw [hf];exact h1)) (fun ch w2 hp=>?_) ?_
     · obtain ⟨hp,hx2⟩:=hp
       cases q with
       | ok r=>exact hp.elim
       | _=>obtain rfl:=sm hm;exact ⟨hp,hx.trans hx2⟩
     rintro _ w2 ⟨n,rfl,rfl,hx2⟩
     refine go ?_
     exact kS (jB rfl (kW rfl) ⟨_,(sm hm).symm,rfl,hx.trans hx2⟩)
 rw [if_neg h] at hm
 refine goB b ?_
 refine qm rfl (fun h=>?_) (fun h=>?_)
 · rw [if_pos h] at hm
   refine goB b ?_
   cases hA:e.a with
   | nil=>
     rw [hA] at hm
     exact Aj Try.underlying109 rfl rfl (by rw [hA];simp) fun u w2 hw=>by obtain rfl:=sm hm;exact ⟨⟨u,xH _⟩,Bu hx hw⟩
   | cons y l=>
     rw [hA] at hm
     obtain ⟨q,h1,hm⟩:=bs hm
     refine TW b 0 rfl (show e.a[0]?=some y by rw [hA];rfl) rfl rfl rfl fun a2 c2 b=>?_
     refine goB b ?_
     refine IZ (pY Bd rfl) (hE (b.pr [] [0] [0] rfl) (yg ha hx) (by rw [hf];exact h1)) (fun ch w2 hp=>?_) ?_
     · obtain ⟨hp,hx2⟩:=hp
       cases q with
       | ok r=>exact hp.elim
       | _=>obtain rfl:=sm hm;exact ⟨hp,hx.trans hx2⟩
     rintro _ w2 ⟨n,rfl,rfl,hx2⟩
     refine go ?_
     refine CX (pY FR rfl) Bo ?_
     rintro _ w3 ⟨rfl,rfl⟩
     refine go ?_
     exact kS (jB rfl (kW rfl) ⟨_,(sm hm).symm,rfl,hx.trans hx2⟩)
 rw [if_neg h] at hm
 refine goB b ?_
 cases hA:e.a with
 | nil=>
   rw [hA] at hm
   exact Aj Try.underlying109 rfl rfl (by rw [hA];simp) fun u w2 hw=>by obtain rfl:=sm hm;exact ⟨⟨u,xH _⟩,Bu hx hw⟩
 | cons y l=>
   rw [hA] at hm
   obtain ⟨q,h1,hm⟩:=bs hm
   refine TW b 0 rfl (show e.a[0]?=some y by rw [hA];rfl) rfl rfl rfl fun a2 c2 b=>?_
   refine goB b ?_
   refine IZ (pY Bd rfl) (hE (b.pr [] [0] [0] rfl) (yg ha hx) (by rw [hf];exact h1)) (fun ch w2 hp=>?_) ?_
   · obtain ⟨hp,hx2⟩:=hp
     cases q with
     | ok r=>exact hp.elim
     | _=>obtain rfl:=sm hm;exact ⟨hp,hx.trans hx2⟩
   rintro _ w2 ⟨n,rfl,rfl,hx2⟩
   replace b:=b.ext hx2
   replace hx:=hx.trans hx2
   refine goB b ?_
   cases l with
   | nil=>exact Aj Try.underlying109 rfl rfl (by rw [hA];simp) fun u w2 hw=>by obtain rfl:=sm hm;exact ⟨⟨u,xH _⟩,Bu hx hw⟩
   | cons z l=>
     obtain ⟨q,h1,hm⟩:=bs hm
     refine TW b 1 rfl (show e.a[1]?=some z by rw [hA];rfl) rfl rfl rfl fun a3 c3 b=>?_
     refine goB b ?_
     refine IZ (pY Bd rfl) (hE (b.pr [] [0] [0] rfl) (yg ha hx) (by rw [hf];exact h1)) (fun ch w2 hp=>?_) ?_
     · obtain ⟨hp,hx2⟩:=hp
       cases q with
       | ok r=>exact hp.elim
       | _=>obtain rfl:=sm hm;exact ⟨hp,hx.trans hx2⟩
     rintro _ w3 ⟨m,rfl,rfl,hx3⟩
     replace b:=b.ext hx3
     replace hx:=hx.trans hx3
     obtain rfl:=sm hm
     refine goB b ?_
     refine IZ (pY VP rfl) NZ (fun ch w2 hp=>?_) ?_
     · obtain ⟨hp,rfl⟩:=hp
       exact ⟨hp,hx⟩
     rintro _ w4 ⟨r,hr,rfl,rfl⟩
     refine go ?_
     exact kS (jB rfl (kW rfl) ⟨_,hr,rfl,hx⟩)
theorem ZR {N:Fz} {ops:Array Oper} {K:KK} {rest:List Oper} {f:Fr} {w:World} {d1 d2:Nat} {ty ty2:TypeId} {pos pos2:String} {af af2:Array Edge} {y z:Operand} {x:Ao} {g:uE} {k:Nat} {l:List Int} {i:Int}
  (ha:(It.act x g).p w) (hk:g.ws[k]?=some l) (h1:ev f y=.slice x.A g.ws.length x.c) (h2:ev f z=V i) (hi:i=(k:Int))
  (h:∀ r,x.R[k]?=some r→mM w r 3 (l.map V).toArray→kQ Try.prog N ops K rest (upd (upd f d1 (.pointer (some ⟨nM x.A,oU x.A+k * 1,none⟩))) d2 (.slice (some ⟨r,0,none⟩) l.length l.length)) w) :
  kQ Try.prog N ops K (⟨some d1,.indexAddr 118 y z,ty,pos,af,none⟩ :: ⟨some d2,.load 22 (.tmp d1),ty2,pos2,af2,none⟩ :: rest) f w:=by
 obtain ⟨r,h3,h4,h5,h6⟩:=It.zP ha hk
 rw [h5] at h1
 refine jR (xIdx k Try.underlying118 Ak h1 h2 hi (kU hk)) ?_
 refine jR (jM (a:=⟨nM x.A,oU x.A+k * 1,none⟩) Try.underlying22 rfl (by show upd f d1 _ d1=_;unfold upd;rw [Nat.beq_refl];rfl) (by rw [Nat.mul_one];exact h6)) ?_
 exact h r h3 h4
section
variable {P:Program} {N:Fz} {ops:Array Oper} {f:Fr} {w w0:World} {Z G:Nat→Prop} {L:List It} {D:List Da}
theorem Qy {Q:Post} {i:Nat} (h:Bx w0 w Z G L D) (E:World→Prop) (hE:E w.drew) (hm:P.follows .mixedOrders=true)
  (k:Bx w0 w.drew Z G L D∧E w.drew→rC P N ops (fun u=>Bx w0 u Z G L D∧E u) (fun _=>True) [] ⟨Q.n,Q.p⟩ ops.size (Array.replicate ops.size false) f w.drew):WP P N (.region i ops true) Q f w:=
 uV _ _ [] hm (k ⟨h.drew,hE⟩)
theorem Kj {ρ:Operand→Value} {d:Option Nat} {ty:TypeId} {pos:String} {af:Array Edge} {g:Option (Nat × Bool)} {t e:TypeId} {x y:Operand} {A:Option Addr} {n c:Nat} {i:Int} {z:Value} {s by_:Nat} (j:Nat) (h5:A=some ⟨nM A,oU A,none⟩) (ht:P.underlying t=some (.slice e)) (he:TI P e z s by_) (hx:ρ x=.slice A n c)
  (hy:ρ y=V i) (hi:i=(j:Int)) (hj:j < n):Yl P ρ (.indexAddr t x y) d ty pos af g w (.pointer (some ⟨nM A,oU A+j * s,none⟩)):=by
 rw [h5] at hx
 exact xIdx j ht he hx hy hi hj
end
theorem KT {N:Fz} {ops:Array Oper} {S1 S:World→Prop} {T':List Nat} {K:KK} {f:Fr} {w:World} {n':Nat} {L:Array Bool} {i:Nat} {d:Option Nat} {t t2:TypeId} {y z:Operand} {ty:TypeId} {pos:String} {af:Array Edge} {a:Option Addr} {n c:Nat} {iv:Int}
  (hi:ops[i]?=some ⟨d,.indexAddr t y z,ty,pos,af,none⟩) (ht:Try.prog.underlying t=some (.slice t2)) (h1:ev f y=.slice a n c) (h2:ev f z=V iv) (hn:¬ (0≤iv∧iv < n))
  (h:∀ u w',w'=w ∨ w'=w.drew→∀ f,K.p f [⟨.iface Try.prog.rt.boundsError u,false,false⟩] w'):Au Try.prog N ops S1 S T' K n' L f w i:=by
 obtain ⟨w',v,hr,hw⟩:=Nu (P:=Try.prog) (w:=w) (d:=d) (ty:=ty) (pos:=pos) (af:=af) (g:=none) ht h1 h2 hn
 exact UR hi rfl hr (h v w' hw)
theorem EI {x:Ao} {g:uE} {w:World} {k r:Nat} {l:List Int} (h:(It.act x g).p w) (hr:x.R[k]?=some r) (hk:g.ws[k]?=some l):w.cell? ⟨nM x.A,oU x.A+k * 1,none⟩=some (.slice (some ⟨r,0,none⟩) l.length l.length):=by
 obtain ⟨r',h1,_,_,h4⟩:=It.zP h hk
 rw [hr] at h1
 rw [Nat.mul_one,Option.some.inj h1]
 exact h4
theorem VE {α:Type} {l:List α} {i:Int} {x:α} (h:ix? l i=some x):∃ k:Nat,i=(k:Int)∧l[k]?=some x:=by
 unfold ix? at h
 split at h
 · cases h
 · exact ⟨i.toNat,by omega,h⟩
theorem Ai {α:Type} {l:List α} {i:Int} (h:ix? l i=none):¬ (0≤i∧i < l.length):=by
 unfold ix? at h
 split at h
 · omega
 · have:=List.getElem?_eq_none_iff.1 h;omega
theorem Nl {ef:List (List Int)→jA→Option (Pn Int)} (hE:X9 ef):ZN ef:=by
 intro w A rb x g e a c p hP ha hm
 have b:=hP.bx
 clear hP
 refine vU Try.func101 rfl ?_
 refine lJ [(0,Pt rb),(1,Pt x.b),(2,.agg (cE e a c).toArray)] ⟨rfl,rfl,rfl,trivial⟩ fun av=>?_
 refine go ?_
 refine tF b (xG rfl) fun w1 b1 b=>?_
 refine jR (LU rfl) ?_
 refine goB b ?_
 have hx:Ext w w1:=(b.tl).ex
 refine Qy b (It.act x g).p (yg ha hx.drew) (by kernel_rfl) fun m=>?_
 replace b:=m.1
 replace hx:=hx.drew
 replace ha:=m.2
 refine pF 0 r (vO r) m (pF 1 r (xn r) m (pF 2 r (Dl r) m (uF 3 r (fun h=>Na r (It.za h.2) r) m (pF 4 r (Tf r) m (uF 5 r (fun h=>JK r (h.1.bk 0 r) r) m ?_)))))
 unfold Rf at hm
 cases hl:ix? g.ws e.g with
 | none=>
   rw [hl] at hm
   obtain rfl:=sm hm
   exact hO 6 (KT r Try.underlying118 r r (Ai hl) fun v w' hw _=>⟨⟨v,xH _⟩,Bu hx hw⟩)
 | some l=>
 rw [hl] at hm
 obtain ⟨k,hk,hl⟩:=VE hl
 obtain ⟨r0,hr,hB,h5,_⟩:=It.zP ha hl
 refine pF 6 r (Kj k h5 Try.underlying118 Ak r r hk (kU hl)) m (uF 7 r (fun h=>jM (a:=⟨nM x.A,oU x.A+k * 1,none⟩) Try.underlying22 r r (EI h.2 hr hl)) m (pF 8 r (mO r) m (hD ?_)))
 refine goB b ?_
 dsimp only at hm
 refine qm rfl (fun h=>?_) (fun h=>?_)
 · rw [if_pos h] at hm
   obtain rfl:=sm hm
   refine goB b ?_
   by_cases hn:0≤e.c∧e.c < l.length
   · rw [if_pos hn]
     obtain ⟨j,hj⟩:∃ j:Nat,e.c=(j:Int):=⟨e.c.toNat,by omega⟩
     refine jR (xIdx j Try.underlying22 mK rfl rfl hj (by omega)) ?_
     refine go ?_
     exact kS (jB rfl (kW (v:=.pointer (some ⟨r0,0+j * 1,none⟩)) rfl) ⟨k,j,r0,l,by rw [hk,hj];rfl,hr,hl,by omega,by rw [Nat.zero_add,Nat.mul_one],hx⟩)
   · rw [if_neg hn]
     exact Aj Try.underlying22 rfl rfl hn fun u w2 hw=>⟨⟨u,xH _⟩,Bu hx hw⟩
 rw [if_neg h] at hm
 refine goB b ?_
 refine qm rfl (fun h=>?_) (fun h=>?_)
 · rw [if_pos h] at hm
   refine goB b ?_
   cases hA:e.a with
   | nil=>
     rw [hA] at hm
     exact Aj Try.underlying109 rfl rfl (by rw [hA];simp) fun u w2 hw=>by obtain rfl:=sm hm;exact ⟨⟨u,xH _⟩,Bu hx hw⟩
   | cons y l2=>
     rw [hA] at hm
     obtain ⟨q,h1,hm⟩:=bs hm
     refine TW b 0 rfl (show e.a[0]?=some y by rw [hA];rfl) rfl rfl rfl fun a2 c2 b=>?_
     refine goB b ?_
     refine IZ (pY Bd rfl) (hE (b.pr [] [0] [0] rfl) ha h1) (fun ch w2 hp=>?_) ?_
     · obtain ⟨hp,hx2⟩:=hp
       cases q with
       | ok r=>exact hp.elim
       | _=>obtain rfl:=sm hm;exact ⟨hp,hx.trans hx2⟩
     rintro _ w2 ⟨n,rfl,rfl,hx2⟩
     replace hx:=hx.trans hx2
     replace b:=b.ext hx2
     obtain rfl:=sm hm
     refine go ?_
     by_cases hn:n < 0
     · rw [decide_eq_true hn]
       refine go ?_
       refine jR (Iy RI rfl) ?_
       exact zV rfl ⟨by rw [if_pos (.inl hn)];exact xH _,hx⟩
     rw [decide_eq_false hn]
     refine goB b ?_
     refine qm rfl (fun h=>?_) (fun h=>?_)
     · refine go ?_
       refine jR (Iy RI rfl) ?_
       exact zV rfl ⟨by rw [if_pos (.inr h)];exact xH _,hx⟩
     obtain ⟨j,rfl⟩:∃ j:Nat,n=(j:Int):=⟨n.toNat,by omega⟩
     refine go ?_
     refine jR (xIdx j Try.underlying22 mK rfl rfl rfl (by omega)) ?_
     refine go ?_
     exact kS (jB rfl (kW (v:=.pointer (some ⟨r0,0+j * 1,none⟩)) rfl) ⟨k,j,r0,l,by rw [if_neg (by omega),hk];rfl,hr,hl,by omega,by rw [Nat.zero_add,Nat.mul_one],hx⟩)
 rw [if_neg h] at hm
 obtain rfl:=sm hm
 refine goB b ?_
 cases l with
 | nil=>exact Aj Try.underlying22 rfl rfl (by simp) fun u w2 hw=>⟨⟨u,xH _⟩,Bu hx hw⟩
 | cons y l=>
   refine jR (xIdx 0 Try.underlying22 mK rfl rfl rfl (by simp)) ?_
   refine go ?_
   exact kS (jB rfl (kW (v:=.pointer (some ⟨r0,0+0 * 1,none⟩)) rfl) ⟨k,0,r0,_,by rw [if_neg (by simp),hk];rfl,hr,hl,by simp,by rw [Nat.zero_add,Nat.mul_one],hx⟩)
end Go.Proofs.Ytfglbdkfnphjgaa
