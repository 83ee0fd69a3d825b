/- What is in scope; what a checked text is. -/
import Derived.Test.YtfglbdkfnphjgaaGreatZ17
import Derived.Test.YtfglbdkfnphjgaaGreatZ5
import Derived.Test.YtfglbdkfnphjgaaGreatZ12
import Derived.Test.YtfglbdkfnphjgaaGreatZ8
import Derived.Test.YtfglbdkfnphjgaaGreatPf
set_option linter.unusedVariables false
set_option linter.unusedSimpArgs false
namespace Go.Proofs.YtfglbdkfnphjgaaGreat
open Go.RowKit Go.Fw Go.Proofs.Tryz
def G8 (i:Int):List jy→Nat→List Int
 | [],_=>[]
 | x :: r,k=>if x.e<=i/\i<=x.g then (k:Int) :: G8 i r (k+1) else G8 i r (k+1)
theorem Ny {i:Int}:∀ (r:List jy) (k:Nat),(G8 i r k).length≤r.length
 | [],_=>Nat.le_refl _
 | x :: r,k=>by
  have h:=Ny (i:=i) r (k+1);unfold G8;split
  · exact Nat.succ_le_succ h
  · exact Nat.le_succ_of_le h
theorem Mj {i q:Int}:∀ (r:List jy) (k:Nat),q ∈ G8 i r k→∃ (j:Nat) (x:jy),q=((k+j:Nat):Int)∧r[j]?=some x∧x.e≤i∧i≤x.g
 | [],_,h=>by cases h
 | x :: r,k,h=>by
  unfold G8 at h;have go:q ∈ G8 i r (k+1)->∃ (j:Nat) (y:jy),q=((k+j:Nat):Int)/\(x :: r)[j]?=some y/\y.e<=i/\i<=y.g:=fun h=>by obtain ⟨j,y,h1,h2,h3⟩:=Mj r (k+1) h;exact ⟨j+1,y,by omega,h2,h3⟩
  by_cases c:x.e<=i/\i<=x.g
  · rw [if_pos c] at h;rcases List.mem_cons.1 h with h | h
    · exact ⟨0,x,h,rfl,c⟩
    · exact go h
  · rw [if_neg c] at h;exact go h
theorem Ep {fu:Nat} {i:Int}:∀ (r:List jy) (k:Nat) (acc:List Int),acc.length+r.length≤1000000000→kW fu i r k acc=some (.go (acc ++ G8 i r k))
 | [],k,acc,_=>by rw [kW,G8,List.append_nil]
 | x :: r,k,acc,h=>by
  rw [List.length_cons] at h;rw [kW,G8];by_cases c1:x.e<=i
  · by_cases c2:i<=x.g
    · rw [if_pos c1,if_pos c2,if_pos ⟨c1,c2⟩];have:app acc [((k:Nat):Int)]=some (acc ++ [((k:Nat):Int)]):=if_pos (by simp only [List.length_cons,List.length_nil];omega);rw [this];show kW fu i r (k+1) (acc ++ [((k:Nat):Int)])=_;rw [Ep r (k+1) _ (by simp only [List.length_append,List.length_cons,List.length_nil];omega),List.append_assoc];rfl
    · rw [if_pos c1,if_neg c2,if_neg fun z=>c2 z.2];exact Ep r (k+1) acc (by omega)
  · rw [if_neg c1,if_neg fun z=>c1 z.1];exact Ep r (k+1) acc (by omega)
def KT (s:jL) (f i:Int):List Int:=if f < 0 then [] else match s.c[f.toNat]? with
 | none=>[]
 | some V=>G8 i V 0
theorem Qs {fu:Nat} {s:jL} {f i:Int} (h:∀ V ∈ s.c,V.length<=24):jD fu s f i=some (KT s f i):=by
 unfold jD KT;by_cases c:f < 0
 · rw [if_pos c,if_pos c]
 rw [if_neg c,if_neg c];by_cases d:(s.c.length:Int)<=f
 · rw [if_pos d,List.getElem?_eq_none (by omega)]
 rw [if_neg d];obtain ⟨V,hV⟩:=lT (l:=s.c) (k:=f.toNat) (by omega);have:ix s.c f=some V:=by unfold Go.Fw.ix;rw [if_neg (by omega),hV]
 rw [this,hV];show (kW fu i V 0 []).bind _=_;rw [Ep V 0 [] (by have:=h V (List.mem_of_getElem? hV);rw [List.length_nil];omega),List.nil_append];rfl
theorem TY {s:jL} {f i:Int} {j:Nat} {q:Int} (h:(KT s f i)[j]?=some q):0<=f/\f < s.c.length/\∃ V x,s.c[f.toNat]?=some V/\0<=q/\q < V.length/\V[q.toNat]?=some x/\x.e<=i/\i<=x.g:=by
 unfold KT at h;by_cases c:f < 0
 · rw [if_pos c] at h;cases h
 rw [if_neg c] at h;cases hV:s.c[f.toNat]? with
 | none=>rw [hV] at h;cases h
 | some V=>
   rw [hV] at h;have hl:=jW hV;obtain ⟨j,x,h1,h2,h3⟩:=Mj V 0 (List.mem_of_getElem? h);have hx:=jW h2;exact ⟨by omega,by omega,V,x,rfl,by omega,by omega,by rw [h1];simpa using h2,h3⟩
theorem Ma {s:jL} {f i:Int} (h:∀ V ∈ s.c,V.length<=24):(KT s f i).length<=24:=by
 unfold KT;split
 · exact Nat.zero_le _
 · split
   · exact Nat.zero_le _
   · next V hV=>exact Nat.le_trans (Ny V 0) (h V (List.mem_of_getElem? hV))
theorem Ym {fu:Nat} (hf:50<=fu) {l:List Int} (hl:l.length<=1000):kP (Az fu l) (fun s=>s.size<=700000000):=by unfold Az;exact .bd (QB (by omega) hl) fun p hp=>.bd (Ul hf hp) fun s hs=>.mk hs
structure CI (s:jL):Prop where
 vn:∀ V ∈ s.c,V.length<=24
 fx:∀ f ∈ s.a.b,FX f
abbrev Yes {α:Type} (x:Option α):Prop:=kP x (fun _=>True)
theorem Ob {α β:Type} {p:Pn α} {f:α->Option (Pn β)} (h:∀ a,p=.ok a->Yes (f a)):Yes (p.then f):=by
 cases p with
 | ok a=>exact h a rfl
 | _=>exact .mk trivial
theorem aa6 {ev:jA->Option (Pn Int)} {ws:List (List Int)} {e:jA} (h:∀ y ∈ e.a,Yes (ev y)):Yes (M7 ev ws e):=by
 unfold M7;cases ix? ws e.g with
 | none=>exact .mk trivial
 | some l=>
  dsimp only;refine .ite (fun _=>.mk trivial) fun _=>.ite (fun _=>?_) fun _=>.mk trivial;cases hA:e.a with
  | nil=>exact .mk trivial
  | cons x r=>exact .bd (h x (by rw [hA];exact .head _)) fun p _=>Ob fun i _=>.mk trivial
theorem UZ:∀ (fu n:Nat) (ws:List (List Int)) (e:jA),yx n e→n≤fu→Yes (wu fu ws e)
 | 0,n,ws,e,h,hn=>by
  obtain rfl:n=0:=by omega
  exact h.elim
 | fu+1,n,ws,e,h,hn=>by
  cases n with
  | zero=>exact h.elim
  | succ n=>
  have ih:∀ y ∈ e.a,Yes (wu fu ws y):=fun y hy=>UZ fu n ws y (h.2 y hy) (by omega);rw [wu];refine .ite (fun _=>.mk trivial) fun _=>.ite (fun _=>.bd (aa6 ih) fun p _=>Ob fun q _=>.mk trivial) fun _=>?_;cases hA:e.a with
  | nil=>exact .ite (fun _=>.mk trivial) fun _=>.ite (fun _=>.mk trivial) fun _=>.mk trivial
  | cons x l=>
   rw [hA] at ih;have hx:=ih x (.head _);refine .ite (fun _=>.bd hx fun p _=>Ob fun n _=>.mk trivial) fun _=>.ite (fun _=>.bd hx fun p _=>Ob fun n _=>.mk trivial) fun _=>.bd hx fun p _=>Ob fun n _=>?_;cases l with
   | nil=>exact .mk trivial
   | cons y r=>exact .bd (ih y (.tail _ (.head _))) fun p _=>Ob fun m _=>.mk trivial
theorem Wn {ev:jA→Option (Pn Int)}:∀ (l:List jA) (acc:List Int),(∀ y ∈ l,Yes (ev y))→acc.length+l.length≤1000000000→Yes (yu ev l acc)
 | [],acc,_,_=>.mk trivial
 | x :: l,acc,h,hn=>by
  rw [List.length_cons] at hn;rw [yu];exact .bd (h x (.head _)) fun p _=>Ob fun n _=>.bd (.app (by simp only [List.length_cons,List.length_nil];omega)) fun r hr=>by subst hr;exact Wn l _ (fun y hy=>h y (.tail _ hy)) (by rw [kL];omega)
section
variable {s:jL}
def Fit (s:jL) (g:pQ):Prop:=0<=g.f/\∃ V,s.c[g.f.toNat]?=some V/\g.ws.map List.length=V.map (fun x=>x.a.toNat)/\∀ x ∈ V,0<=x.a/\x.a<=8
theorem Fit.put {f st st':Int} {ws:List (List Int)} {k:Nat} {l l':List Int} (h:Fit s ⟨f,st,ws⟩) (hk:ws[k]?=some l) (hl:l'.length=l.length):Fit s ⟨f,st',ws.set k l'⟩:=by obtain ⟨h0,V,h1,h2,h3⟩:=h;refine ⟨h0,V,h1,?_,h3⟩;rw [<-h2,List.map_set];exact set_self (by rw [List.getElem?_map,hk,hl];rfl)
theorem Fit.word {f st:Int} {ws:List (List Int)} {p:Nat × Nat} {v:Int} (h:Fit s ⟨f,st,ws⟩):Fit s ⟨f,st,setW ws p v⟩:=by
 unfold setW;cases hk:ws[p.1]? with
 | none=>rw [List.set_eq_of_length_le (List.getElem?_eq_none_iff.1 hk)];exact h
 | some l=>exact h.put hk (by rw [List.length_set,List.getD_eq_getElem?_getD,hk];rfl)
def shO (ws:List (List Int)) (v:Int):qc:=⟨v,List.replicate (ws.getD v.toNat []).length true,ws.getD v.toNat []⟩
def YV (s:jL) (g:pQ):ny:=⟨g.f,g.st,(KT s g.f g.st).map (shO g.ws)⟩
theorem Q5 {ws:List (List Int)}:∀ (l:List Int) (acc:List qc),(∀ v ∈ l,0≤v∧v < ws.length)→acc.length+l.length≤1000000000→Qw ws l acc=some (acc ++ l.map (shO ws))
 | [],acc,_,_=>by rw [Qw,List.map_nil,List.append_nil]
 | v :: l,acc,h,hn=>by
  rw [List.length_cons] at hn;have hv:=h v (.head _);obtain ⟨row,hr⟩:=lT (l:=ws) (k:=v.toNat) (by omega);have h1:ix? ws v=some row:=by unfold ix?;rw [if_neg (by omega),hr]
  have h2:ws.getD v.toNat []=row:=by rw [List.getD_eq_getElem?_getD,hr];rfl
  rw [Qw,h1];show (app acc [_]).bind _=_;unfold Go.Fw.app;rw [if_pos (by simp only [List.length_cons,List.length_nil];omega)];show Qw ws l _=_;rw [Q5 l _ (fun y hy=>h y (.tail _ hy)) (by rw [kL];omega),List.map_cons,List.append_assoc];unfold shO;rw [h2];rfl
theorem Fit.vis {g:pQ} (h:Fit s g) {v st:Int} (hv:v ∈ KT s g.f st):0<=v/\v < g.ws.length:=by obtain ⟨h0,V,h1,h2,h3⟩:=h;obtain ⟨j,hj⟩:=List.getElem?_of_mem hv;obtain ⟨_,_,V',x,hV',q0,q1,_⟩:=TY hj;rw [h1] at hV';cases hV';have:=congrArg List.length h2;rw [List.length_map,List.length_map] at this;omega
variable (hv:∀ V ∈ s.c,V.length<=24)
include hv
theorem WW {fu:Nat} {g:pQ} (h:Fit s g):XQ (jD fu s) g=some (YV s g):=by unfold XQ;rw [Qs hv];show (Qw g.ws (KT s g.f g.st) []).bind _=_;rw [Q5 _ _ (fun v h'=>h.vis h') (by have:=Ma (f:=g.f) (i:=g.st) hv;simp only [List.length_nil];omega)];rfl
theorem Rf {fu:Nat}:∀ (l:List pQ) (acc:List ny),(∀ g ∈ l,Fit s g)→acc.length+l.length≤1000000000→Ui (jD fu s) l acc=some (acc ++ l.map (YV s))
 | [],acc,_,_=>by rw [Ui,List.map_nil,List.append_nil]
 | g :: l,acc,h,hn=>by rw [List.length_cons] at hn;rw [Ui,WW hv (h g (.head _))];show (app acc [_]).bind _=_;unfold Go.Fw.app;rw [if_pos (by simp only [List.length_cons,List.length_nil];omega)];show Ui _ l _=_;rw [Rf l _ (fun y hy=>h y (.tail _ hy)) (by rw [kL];omega),List.map_cons,List.append_assoc];rfl
omit hv in
def UL (s:jL) (rest:List pQ) (S:Sg) (id:Int):Sg:=⟨⟨S.a.f,id,S.a.ws⟩,S.hist ++ [⟨((⟨S.a.f,id,S.a.ws⟩:pQ) :: rest).map (YV s)⟩],S.out⟩
theorem Mg {fu N:Nat} {rest:List pQ} {S:Sg} {id:Int} (h:Fit s S.a) (hr:∀ g ∈ rest,Fit s g) (hn:rest.length<=20) :event (jD fu s) N rest S id=if N<=S.hist.length then some (.err 13,S) else some (.ok (),UL s rest S id):=by
 unfold event;split
 · rfl
 · rw [Rf hv _ _ (fun g hg=>by
    rcases List.mem_cons.1 hg with rfl | hg
    · exact h
    · exact hr g hg) (by simp only [List.length_cons,List.length_nil];omega)]
   rfl
end
theorem ixr {α:Type} {l:List α} {i:Int} {x:α} (h:ix? l i=some x):∃ k:Nat,i=(k:Int)/\l[k]?=some x:=by
 unfold ix? at h;split at h
 · cases h
 · exact ⟨i.toNat,by omega,h⟩
def O0 (s:jL) (e:ko):Prop:=∃ gs:List pQ,e.a=gs.map (YV s)/\gs.length<=20/\∀ g ∈ gs,Fit s g
structure Ql (s:jL) (N:Nat) (S:Sg):Prop where
 hl:S.hist.length<=N
 ol:S.out.length<=S.hist.length
 fit:Fit s S.a
 ev:∀ e ∈ S.hist,O0 s e
structure Nw (s:jL) (N:Nat) (S S':Sg):Prop where
 gd:Ql s N S'
 hp:S.hist <+: S'.hist
 op:S.out <+: S'.out
theorem Nw.rfl' {s:jL} {N:Nat} {S:Sg} (h:Ql s N S):Nw s N S S:=⟨h,List.prefix_rfl,List.prefix_rfl⟩
theorem Nw.trans {s:jL} {N:Nat} {S S1 S2:Sg} (h:Nw s N S S1) (k:Nw s N S1 S2):Nw s N S S2:=⟨k.gd,h.hp.trans k.hp,h.op.trans k.op⟩
theorem Nc {ev:jA->Option (Pn Int)} {l:List jA} {S:Sg} {β:Type} {k:Int->Option (Pn β × Sg)} {P:Pn β × Sg->Prop} (h:∀ y ∈ l,Yes (ev y)) (hp:∀ p,P (p,S)) (hk:∀ n,kP (k n) P):kP (one ev l S k) P:=by
 unfold one;cases l with
 | nil=>exact .mk (hp _)
 | cons x l=>
  refine .bd (h x (.head _)) fun p _=>?_;cases p with
  | ok n=>exact hk n
  | _=>exact .mk (hp _)
theorem SA {ev:jA->Option (Pn Int)} {ws:List (List Int)} {l:List jA} {S:Sg} {β:Type} {k:Nat × Nat->Option (Pn β × Sg)} {P:Pn β × Sg->Prop} (h:∀ y ∈ l,Yes (M7 ev ws y)) (hp:∀ p,P (p,S)) (hk:∀ n,kP (k n) P):kP (I6 ev ws l S k) P:=by
 unfold I6;cases l with
 | nil=>exact .mk (hp _)
 | cons x l=>
  refine .bd (h x (.head _)) fun p _=>?_;cases p with
  | ok n=>exact hk n
  | _=>exact .mk (hp _)
theorem Rk:∀ (l:List jy) (acc:List (List Int)),acc.length+l.length≤1000000000→kP (Au l acc) (fun p=>∀ ws,p=.ok ws→ws.map List.length=acc.map List.length ++ l.map (fun x=>x.a.toNat)∧∀ x ∈ l,0≤x.a∧x.a≤8)
 | [],acc,_=>.mk fun ws h=>by cases h;exact ⟨by rw [List.map_nil,List.append_nil],fun x hx=>by cases hx⟩
 | v :: l,acc,hn=>by
  rw [List.length_cons] at hn;rw [Au];refine .ite (fun _=>.mk fun ws h=>by cases h) fun c=>.bd (.app (by simp only [List.length_cons,List.length_nil];omega)) fun r hr=>?_;subst hr;refine (Rk l _ (by rw [kL];omega)).imp fun p hp ws hw=>?_;obtain ⟨h1,h2⟩:=hp ws hw;refine ⟨by rw [h1,List.map_append,List.append_assoc];simp,fun x hx=>?_⟩;rcases List.mem_cons.1 hx with rfl | hx
  · omega
  · exact h2 x hx
theorem Qf:∀ (l:List Int) (i:Nat) (ws ws':List (List Int)),Cg l i ws=.ok ws'→ws'.map List.length=ws.map List.length
 | [],_,ws,ws',h=>by cases h;rfl
 | v :: l,i,ws,ws',h=>by
  rw [Cg] at h;cases hw:ws[i]? with
  | none=>rw [hw] at h;cases h
  | some row=>
   rw [hw] at h;cases row with
   | nil=>cases h
   | cons z row=>
    rw [Qf l _ _ ws' h,List.map_set];exact set_self (by rw [List.getElem?_map,hw];rfl)
section
variable {s:jL} {N:Nat}
theorem WH {sm:Sm} {M n:Nat} (hS:∀ S x,M≤S.hist.length→Ql s N S→Ga n x→kP (sm S x) (fun r=>Nw s N S r.2)):∀ (l:List jI) (S:Sg),M≤S.hist.length→Ql s N S→(∀ y ∈ l,Ga n y)→kP (Dp sm S l) (fun r=>Nw s N S r.2)
 | [],S,_,h,_=>.mk (.rfl' h)
 | x :: l,S,hM,h,hl=>by
  rw [Dp];refine .bd (hS S x hM h (hl x (.head _))) fun r hr=>?_;obtain ⟨p,S1⟩:=r;have k:=WH hS l S1 (Nat.le_trans hM hr.hp.length_le) hr.gd (fun y hy=>hl y (.tail _ hy));cases p with
  | ok o=>
   cases o with
   | none=>exact k.imp fun r h=>hr.trans h
   | some v=>exact .mk hr
  | _=>exact .mk hr
structure Cl (s:jL) (N:Nat) (hist:List ko) (out:List Int) (h:List ko) (o:List Int):Prop where
 hl:h.length<=N
 ol:o.length<=h.length
 ev:∀ e ∈ h,O0 s e
 hp:hist <+: h
 op:out <+: o
theorem Tw (hs:CI s) {sm:List pQ->Sm} {stk:List pQ} {f:Int} {args:List Int} {hist:List ko} {out:List Int} (h1:hist.length<=N) (h2:out.length<=hist.length) (h3:∀ e ∈ hist,O0 s e) (hS:stk.length<=19->∀ S x n,n<=10->hist.length<=S.hist.length->Ql s N S->Ga n x->kP (sm stk S x) (fun r=>Nw s N S r.2)):kP (zC sm s stk f args hist out) (fun r=>Cl s N hist out r.2.1 r.2.2):=by
 have hC:Cl s N hist out hist out:=⟨h1,h2,h3,List.prefix_rfl,List.prefix_rfl⟩;unfold zC;refine .ite (fun _=>.mk hC) fun c=>?_;cases hV:ix? s.c f with
 | none=>exact .mk hC
 | some vars=>
 obtain ⟨k,rfl,hk⟩:=ixr hV;have h24:=hs.vn vars (List.mem_of_getElem? hk);refine .bd (Rk vars [] (by simp only [List.length_nil];omega)) fun p hp=>?_;cases p with
 | ok ws=>
  obtain ⟨h4,h5⟩:=hp ws rfl;cases hA:Cg args 0 ws with
  | ok ws'=>
   simp only [hA];cases hF:ix? s.a.b (k:Int) with
   | none=>exact .mk hC
   | some fn=>
    obtain ⟨k2,_,hk2⟩:=ixr hF;have hfit:Fit s ⟨(k:Int),0,ws'⟩:=⟨Int.natCast_nonneg k,vars,by dsimp only;rw [Int.toNat_natCast];exact hk,by dsimp only;rw [Qf _ _ _ _ hA,h4];rfl,h5⟩;refine .bd (WH (M:=hist.length) (n:=10) (fun S x=>hS (by omega) S x 10 (Nat.le_refl _)) fn.e ⟨⟨(k:Int),0,ws'⟩,hist,out⟩ (Nat.le_refl _) ⟨h1,h2,hfit,h3⟩ (hs.fx fn (List.mem_of_getElem? hk2))) fun r hr=>?_;exact .mk ⟨hr.gd.hl,hr.gd.ol,hr.gd.ev,hr.hp,hr.op⟩
  | _=>simp only [hA];exact .mk hC
 | _=>exact .mk hC
theorem RS {rest:List pQ} {S:Sg} {id:Int} (h:Ql s N S) (hr:∀ g ∈ rest,Fit s g) (hn:rest.length<=19) (hN:S.hist.length < N):Nw s N S (UL s rest S id):=by
 have hf:Fit s ⟨S.a.f,id,S.a.ws⟩:=h.fit;refine ⟨⟨by unfold UL;rw [kL];omega,by unfold UL;rw [kL];exact Nat.le_succ_of_le h.ol,hf,og h.ev ⟨_,rfl,by rw [List.length_cons];omega,fun g hg=>?_⟩⟩,List.prefix_append _ _,List.prefix_rfl⟩;rcases List.mem_cons.1 hg with rfl | hg
 · exact hf
 · exact hr g hg
theorem aag (hs:CI s) {rest:List pQ} (hr:∀ g ∈ rest,Fit s g) (hn:rest.length<=19) {fv:Nat} {id:Int} {M:Nat} {cond:Sg->Option (Pn Int)} {body:Sg->Option (Pn (Option Int) × Sg)} (hc:∀ S,Yes (cond S)) (hb:∀ S,M<=S.hist.length->Ql s N S->kP (body S) (fun r=>Nw s N S r.2)) :
  ∀ (n:Nat) (S:Sg),M<=S.hist.length->Ql s N S->N - S.hist.length+1<=n->kP (Uh cond body (fun S=>event (jD fv s) N rest S id) n S) (fun r=>Nw s N S r.2)
 | 0,S,_,_,h=>by omega
 | n+1,S,hM,h,hn'=>by
  rw [Uh];refine .bd (hc S) fun p _=>?_;cases p with
  | ok v=>
   refine .ite (fun _=>.mk (.rfl' h)) fun _=>.bd (hb S hM h) fun r hr1=>?_;obtain ⟨p,S1⟩:=r;cases p with
   | ok o=>
    cases o with
    | none=>
     have hl:=hr1.hp.length_le;dsimp only at hl hr1 ⊢;rw [Mg hs.vn hr1.gd.fit hr (by omega)];by_cases hN:N<=S1.hist.length
     · rw [if_pos hN];exact .mk hr1
     · rw [if_neg hN];have k:=RS (id:=id) hr1.gd hr hn (by omega);refine (aag hs hr hn hc hb n _ (Nat.le_trans hM (Nat.le_trans hl k.hp.length_le)) k.gd (by unfold UL;rw [kL];omega)).imp fun r h=>(hr1.trans k).trans h
    | some v=>exact .mk hr1
   | _=>exact .mk hr1
  | _=>exact .mk (.rfl' h)
theorem Vb (hs:CI s) {sm:List pQ->Sm} {rest:List pQ} {fu:Nat} {S:Sg} {x:jI} {k:Int->Sg->Option (Pn (Option Int) × Sg)} (h:Ql s N S) (hr:∀ g ∈ rest,Fit s g) (hA:x.a.length<=5000/\∀ y ∈ x.a,yx 5000 y) (hf:5000<=fu) (hS:rest.length<=18->∀ S' x n,n<=10->S.hist.length<=S'.hist.length->Ql s N S'->Ga n x->kP (sm (S.a :: rest) S' x) (fun r=>Nw s N S' r.2)) (hk:∀ v h o,Cl s N S.hist S.out h o->kP (k v ⟨S.a,h,o⟩) (fun r=>Nw s N S r.2)) :kP (Dl sm s rest fu S x k) (fun r=>Nw s N S r.2):=by
 unfold Dl;refine .bd (Wn x.a [] (fun y hy=>UZ fu 5000 _ y (hA.2 y hy) hf) (by simp only [List.length_nil];omega)) fun p _=>?_;cases p with
 | ok l=>
  refine .bd (Tw hs h.hl h.ol h.ev (fun h19=>hS (by rw [List.length_cons] at h19;omega))) fun r hr=>?_;obtain ⟨p,h',o⟩:=r;have hc:Nw s N S ⟨S.a,h',o⟩:=⟨⟨hr.hl,hr.ol,h.fit,hr.ev⟩,hr.hp,hr.op⟩;cases p with
  | ok v=>exact hk v h' o hr
  | _=>exact .mk hc
 | _=>exact .mk (.rfl' h)
theorem YG (hs:CI s) (hN:N≤5000) {fv:Nat}:∀ (fu:Nat) (rest:List pQ) (S:Sg) (x:jI) (n:Nat),(∀ g ∈ rest,Fit s g)→rest.length≤19→Ql s N S→Ga n x→n≤10→5001+(N - S.hist.length)≤fu→
  kP (stM (jD fv s) s N fu rest S x) (fun r=>Nw s N S r.2)
 | 0,_,_,_,_,_,_,_,_,_,h=>by omega
 | fu+1,rest,S,x,n,hr,hn,h,hx,hn10,hf=>by
  cases n with
  | zero=>exact hx.elim
  | succ n=>
  obtain ⟨x1,x2,x3,x4,_⟩:=hx;rw [stM,Mg hs.vn h.fit hr (by omega)];by_cases hN2:N<=S.hist.length
  · rw [if_pos hN2];exact .mk (.rfl' h)
  rw [if_neg hN2];have k:=RS (id:=x.n) h hr hn (by omega);have hl:(UL s rest S x.n).hist.length=S.hist.length+1:=kL;have ho:(UL s rest S x.n).out.length+1<=(UL s rest S x.n).hist.length:=by rw [hl];exact Nat.succ_le_succ h.ol
  generalize UL s rest S x.n=E at k hl ho;refine kP.imp (Q:=fun r=>Nw s N E r.2) ?_ fun r h=>k.trans h;have hE:=k.gd;show kP (if x.c=1 then _ else _) _;have ihs:∀ (rest:List pQ),(∀ g ∈ rest,Fit s g)->rest.length<=19->∀ S' x n,n<=10->E.hist.length<=S'.hist.length->Ql s N S'->Ga n x->kP (stM (jD fv s) s N fu rest S' x) (fun r=>Nw s N S' r.2):=
    fun rest hr hn S' x n h10 hl' hG hX=>YG hs hN fu rest S' x n hr hn hG hX h10 (by omega)
  have hcall:∀ {k:Int->Sg->Option (Pn (Option Int) × Sg)},(∀ v h o,Cl s N E.hist E.out h o->kP (k v ⟨E.a,h,o⟩) (fun r=>Nw s N E r.2))->kP (Dl (stM (jD fv s) s N fu) s rest fu E x k) (fun r=>Nw s N E r.2):=fun hk=>
    Vb hs hE hr x2 (by omega) (fun h18=>ihs (E.a :: rest) (fun g hg=>by
      rcases List.mem_cons.1 hg with rfl | hg
      · exact hE.fit
      · exact hr g hg) (by rw [List.length_cons];omega)) hk
  have hls:∀ (l:List jI) (S':Sg),E.hist.length<=S'.hist.length->Ql s N S'->(∀ y ∈ l,Ga n y)->kP (Dp (stM (jD fv s) s N fu rest) S' l) (fun r=>Nw s N S' r.2):=
    WH (M:=E.hist.length) (n:=n) fun S' x=>ihs rest hr hn S' x n (by omega)
  have hev:∀ ws,∀ y ∈ x.a,Yes (wu fu ws y):=fun ws y hy=>UZ fu 5000 ws y (x2.2 y hy) (by omega);have hwd:∀ ws,∀ y ∈ x.d,Yes (M7 (wu fu ws) ws y):=fun ws y hy=>aa6 fun z hz=>UZ fu 5000 ws z (yx.mono (n:=4999) ((x1 y hy).2 z hz) (by decide)) (by omega);refine .ite (fun _=>?_) fun _=>.ite (fun _=>?_) fun _=>.ite (fun _=>?_) fun _=>.ite (fun _=>?_) fun _=>.ite (fun _=>?_) fun _=>.ite (fun _=>?_) fun _=>.ite (fun _=>?_) fun _=>.ite (fun _=>?_) fun _=>.ite (fun _=>?_) fun _=>.ite (fun _=>?_) fun _=>?_
  · cases hi:ix? E.a.ws x.g with
    | none=>exact .mk (.rfl' hE)
    | some l=>
      obtain ⟨q,hq,hql⟩:=ixr hi;exact .mk ⟨⟨hE.hl,hE.ol,by
        rw [show x.g.toNat=q from by omega];exact Fit.put (st:=E.a.st) hE.fit hql (List.length_replicate ..),hE.ev⟩,List.prefix_rfl,List.prefix_rfl⟩
  · exact SA (hwd _) (fun p=>.rfl' hE) fun q=>Nc (hev _) (fun p=>.rfl' hE) fun v=>.mk ⟨⟨hE.hl,hE.ol,Fit.word (st:=E.a.st) hE.fit,hE.ev⟩,List.prefix_rfl,List.prefix_rfl⟩
  · refine hcall fun v h' o hC=>?_;have hc:Nw s N E ⟨E.a,h',o⟩:=⟨⟨hC.hl,hC.ol,hE.fit,hC.ev⟩,hC.hp,hC.op⟩;exact .ite (fun _=>.mk hc) fun _=>SA (hwd _) (fun p=>hc) fun q=>.mk ⟨⟨hC.hl,hC.ol,Fit.word (st:=E.a.st) hE.fit,hC.ev⟩,hC.hp,hC.op⟩
  · refine Nc (hev _) (fun p=>.rfl' hE) fun v=>hls _ _ (Nat.le_refl _) hE fun y hy=>?_;split at hy
    · exact x3 y hy
    · exact x4 y hy
  · refine aag (M:=E.hist.length) hs hr hn (fun S=>?_) (fun S' hM hG=>hls _ _ hM hG x3) fu E (Nat.le_refl _) hE (by omega);cases hA:x.a with
    | nil=>exact .mk trivial
    | cons y l=>exact hev _ y (by rw [hA];exact .head _)
  · exact .ite (fun _=>hcall fun v h' o hC=>.mk ⟨⟨hC.hl,hC.ol,hE.fit,hC.ev⟩,hC.hp,hC.op⟩) fun _=>Nc (hev _) (fun p=>.rfl' hE) fun v=>.mk (.rfl' hE)
  · exact Nc (hev _) (fun p=>.rfl' hE) fun v=>.mk (.rfl' hE)
  · refine .bd (hls _ _ (Nat.le_refl _) hE x3) fun r hr1=>?_;obtain ⟨p,S1⟩:=r;cases p with
    | tV v=>
      dsimp only;cases hi:ix? S1.a.ws x.g with
      | none=>exact .mk hr1
      | some row=>
        obtain ⟨q,hq,hql⟩:=ixr hi;cases row with
        | nil=>exact .mk hr1
        | cons z row=>
         have hk2:Nw s N S1 { S1 with a:={ S1.a with ws:=S1.a.ws.set x.g.toNat (v :: row) } }:=⟨⟨hr1.gd.hl,hr1.gd.ol,by
          rw [show x.g.toNat=q from by omega];exact Fit.put (st:=S1.a.st) hr1.gd.fit hql rfl,hr1.gd.ev⟩,List.prefix_rfl,List.prefix_rfl⟩
         exact (hls x.h { S1 with a:={ S1.a with ws:=S1.a.ws.set x.g.toNat (v :: row) } } hr1.hp.length_le hk2.gd x4).imp fun r h=>(hr1.trans hk2).trans h
    | _=>exact .mk hr1
  · refine Nc (hev _) (fun p=>.rfl' hE) fun v=>.bd (.app (by have:=hE.hl;simp only [List.length_cons,List.length_nil];omega)) fun o ho'=>?_;subst ho';exact .mk ⟨⟨hE.hl,by dsimp only;rw [kL];omega,hE.fit,hE.ev⟩,List.prefix_rfl,List.prefix_append _ _⟩
  · exact .mk (.rfl' hE)
  · exact .mk (.rfl' hE)
end
def VO (R:List kE) (v:jy):Prop:=(v.c=1/\v.a=1)\/(v.c=2/\∃ r,ix R v.d=some r/\v.a=r.a.length)\/(v.c=3/\0 < v.a/\v.a<=8)
def Vr (V V':List jy):Prop:=∀ (i:Nat) (v:jy),V[i]?=some v->∃ v',V'[i]?=some v'/\v'.c=v.c/\v'.d=v.d/\v'.a=v.a/\v'.e=v.e
theorem Vr.rfl' {V:List jy}:Vr V V:=fun i v h=>⟨v,h,rfl,rfl,rfl,rfl⟩
theorem Vr.trans {V V1 V2:List jy} (h:Vr V V1) (k:Vr V1 V2):Vr V V2:=fun i v hv=>by obtain ⟨v1,h1,a1,a2,a3,a4⟩:=h i v hv;obtain ⟨v2,h2,b1,b2,b3,b4⟩:=k i v1 h1;exact ⟨v2,h2,b1.trans a1,b2.trans a2,b3.trans a3,b4.trans a4⟩
theorem PU {V V':List jy} (h:Vr V V') {i:Int} {v:jy} (hv:ix V i=some v):∃ v',ix V' i=some v'/\v'.c=v.c/\v'.d=v.d/\v'.a=v.a/\v'.e=v.e:=by obtain ⟨k,rfl,hk⟩:=kK hv;obtain ⟨v',h1,h2⟩:=h k v hk;exact ⟨v',by unfold Go.Fw.ix;rw [if_neg (by omega),Int.toNat_natCast,h1],h2⟩
inductive RX (V:List jy):jA→Prop
 | mk {e:jA} (h:e.e=1\/e.e=2\/e.e=3->∃ v,ix V e.g=some v/\v.c=e.e/\(e.e=2->0<=e.d/\e.d < v.a)) (k:∀ y ∈ e.a,RX V y):RX V e
theorem RX.mono {V V':List jy} (hv:Vr V V') {e:jA} (h:RX V e):RX V' e:=by
 induction h with
 | mk h k ih=>
  refine .mk (fun z=>?_) ih;obtain ⟨v,h1,h2,h3⟩:=h z;obtain ⟨v',a1,a2,a3,a4,a5⟩:=PU hv h1;exact ⟨v',a1,a2.trans h2,fun z=>by rw [a4];exact h3 z⟩
inductive SW (K:List jV) (V:List jy) (Ps:List Nat) (f:Int):List jI→Nat→Nat→Prop
 | nil {a:Nat}:SW K V Ps f [] a a
 | cons {x:jI} {l:List jI} {a c d b:Nat} (id:x.n=a) (kd:K[a]?=some ⟨f,x.c,x.f⟩) (tg:∀ y ∈ x.d,RX V y) (ar:∀ y ∈ x.a,RX V y) (de:x.c=1→∃ v,ix V x.g=some v)
  (tr:x.c=8->∃ v,ix V x.g=some v/\v.c=1/\v.e=(c:Int)) (ca:x.j≠be->ix Ps x.i=some x.a.length) (ct:∀ y ∈ x.d,(x.c=3->y.e=1)/\1<=y.e/\y.e<=3)
  (bo:SW K V Ps f x.e (a+1) c) (el:SW K V Ps f x.h c d) (nx:SW K V Ps f l d b):SW K V Ps f (x :: l) a b
theorem SW.mono {K K':List jV} {V V':List jy} {Ps:List Nat} {f:Int} (hk:K <+: K') (hv:Vr V V') {l:List jI} {a b:Nat} (h:SW K V Ps f l a b):SW K' V' Ps f l a b:=by
 induction h with
 | nil=>exact .nil
 | cons id kd tg ar de tr ca ct _ _ _ ih1 ih2 ih3=>
  obtain ⟨t,rfl⟩:=hk;refine .cons id (by rw [List.getElem?_append_left (jW kd)];exact kd) (fun y hy=>(tg y hy).mono hv) (fun y hy=>(ar y hy).mono hv) (fun z=>?_) (fun z=>?_) ca ct ih1 ih2 ih3
  · obtain ⟨v,h1⟩:=de z;obtain ⟨v',h2,_⟩:=PU hv h1;exact ⟨v',h2⟩
  · obtain ⟨v,h1,h3,h4⟩:=tr z;obtain ⟨v',h2,a1,a2,a3,a4⟩:=PU hv h1;exact ⟨v',h2,a1.trans h3,a4.trans h4⟩
theorem SW.le {K:List jV} {V:List jy} {Ps:List Nat} {f:Int} {l:List jI} {a b:Nat} (h:SW K V Ps f l a b):a<=b:=by
 induction h with
 | nil=>exact Nat.le_refl _
 | cons _ _ _ _ _ _ _ _ _ _ _ h1 h2 h3=>omega
theorem SW.app {K:List jV} {V:List jy} {Ps:List Nat} {f:Int} {l m:List jI} {a b c:Nat} (h:SW K V Ps f l a b) (k:SW K V Ps f m b c):SW K V Ps f (l ++ m) a c:=by
 induction h with
 | nil=>exact k
 | cons id kd tg ar de tr ca ct bo el _ _ _ ih=>exact .cons id kd tg ar de tr ca ct bo el (ih k)
structure Up (S:fV) (V:List jy) (S':fV) (V':List jy):Prop where
 e:S.e=0
 f:S'.f=S.f
 pg:S'.a.a=S.a.a
 k:S.a.b <+: S'.a.b
 v:ix S'.a.c S.f=some V'
 vs:∀ i:Nat,(i:Int)≠S.f->S'.a.c[i]?=S.a.c[i]?
 vl:S'.a.c.length=S.a.c.length
 vr:Vr V V'
 vo:∀ x ∈ V',VO S.a.a.a x
structure Wd (S:fV) (V:List jy):Prop where
 v:ix S.a.c S.f=some V
 vo:∀ x ∈ V,VO S.a.a.a x
theorem Up.wd {S S':fV} {V V':List jy} (h:Up S V S' V'):Wd S' V':=⟨by rw [h.f];exact h.v,by rw [h.pg];exact h.vo⟩
theorem Up.rfl' {S:fV} {V:List jy} (h:Wd S V) (e:S.e=0):Up S V S V:=⟨e,rfl,rfl,List.prefix_rfl,h.v,fun _ _=>rfl,rfl,.rfl',h.vo⟩
theorem Up.trans {S S1 S2:fV} {V V1 V2:List jy} (h:Up S V S1 V1) (k:Up S1 V1 S2 V2):Up S V S2 V2:=
 ⟨h.e,k.f.trans h.f,k.pg.trans h.pg,h.k.trans k.k,by rw [<-h.f];exact k.v,fun i hi=>(k.vs i (by rw [h.f];exact hi)).trans (h.vs i hi),k.vl.trans h.vl,h.vr.trans k.vr,by rw [<-h.pg];exact k.vo⟩
structure JM (S S':fV):Prop where
 out:S'.a=S.a
 f:S'.f=S.f
 op:S'.b=S.b
 e:S'.e=0->S.e=0
theorem JM.rfl' {S:fV}:JM S S:=⟨rfl,rfl,rfl,id⟩
theorem JM.trans {S S1 S2:fV} (h:JM S S1) (k:JM S1 S2):JM S S2:=⟨k.out.trans h.out,k.f.trans h.f,k.op.trans h.op,fun z=>h.e (k.e z)⟩
theorem JM.up {S S':fV} {V:List jy} (k:JM S S') (h:Wd S V) (e:S'.e=0):Up S V S' V:=⟨k.e e,k.f,by rw [k.out],by rw [k.out];exact List.prefix_rfl,by rw [k.out];exact h.v,fun i _=>by rw [k.out],by rw [k.out],.rfl',h.vo⟩
theorem JM.wd {S S':fV} {V:List jy} (k:JM S S') (h:Wd S V):Wd S' V:=⟨by rw [k.out,k.f];exact h.v,by rw [k.out];exact h.vo⟩
theorem vO {fu:Nat} {S S':fV} {ln e:Int} (he:e≠0) (h:mg fu S ln e=some S'):JM S S'/\S'.e≠0:=by
 unfold mg at h;rcases jC h with ⟨c,h⟩|⟨c,h⟩
 · cases h;exact ⟨⟨rfl,rfl,rfl,fun z=>absurd z he⟩,he⟩
 · cases h;exact ⟨.rfl',c⟩
section
variable {fu:Nat} {f:fV->jA->Int->Option (jA × fV)} {g:fV->List jA->Int->Option (List jA × fV)}
def Xe (f:fV->jA->Int->Option (jA × fV)):Prop:=∀ S x ln x' S' V,f S x ln=some (x',S')->Wd S V->JM S S'/\x'.e=x.e/\(S'.e=0->RX V x')
def Xes (g:fV->List jA->Int->Option (List jA × fV)):Prop:=∀ S l ln l' S' V,g S l ln=some (l',S')->Wd S V->JM S S'/\l'.map jA.e=l.map jA.e/\(S'.e=0->∀ y ∈ l',RX V y)
theorem X5 {x:jA} {b:Nat}:∀ (l:List ByteArray) (k:Nat) (a:Int) (n:Int),nR fu g f x l k a=some (.go n)→k+l.length≤b→a < b→n < b
 | [],_,a,n,h,_,ha=>by cases h;exact ha
 | u :: r,k,a,n,h,hk,ha=>by
  rw [List.length_cons] at hk;rw [nR] at h;rcases jC h with ⟨_,h⟩|⟨_,h⟩
  · exact X5 r _ _ n h (by omega) (by omega)
  · exact X5 r _ _ n h (by omega) ha
theorem abD {S:fV} {x:jA} {ln:Int} {V:List jy} {d c:Int} {a1:List kE} {a2 a3 a4:Int} {a5:List kY} {a6:List (List jy)} {a7:List jV} {a8:List Int} (hw:Wd S V) (h:oH fu g f S x ln=some (.go (d,c,a1,a2,a3,a4,a5,a6,a7,a8))):JM S ⟨⟨⟨a1,a5⟩,a6,a7⟩,a2,a8,a3,a4⟩/\(a4=0->x.e=1\/x.e=2\/x.e=3->∃ v,ix V c=some v/\v.c=x.e/\(x.e=2->0<=d/\d < v.a)):=by
 unfold oH at h;obtain ⟨v,hv,h⟩:=bs h;cases v with
 | out o=>cases h
 | go b=>
  have hb:b=true ↔ (x.e=1\/x.e=2\/x.e=3):=by
    unfold sI at hv;rcases jC hv with ⟨h1,hv⟩|⟨h1,hv⟩
    · cases hv;simp [h1]
    · rcases jC hv with ⟨h2,hv⟩|⟨h2,hv⟩
      · cases hv;simp [h2]
      · cases hv;simp [h1,h2]
  replace h:=gi h;rcases jC h with ⟨h1,h⟩|⟨h1,h⟩
  · have hop:=hb.1 h1;obtain ⟨⟨c',i⟩,_,h⟩:=bs h;replace h:=pi h;rcases jC h with ⟨_,h⟩|⟨_,h⟩
    · obtain ⟨j,_,h⟩:=bs h;cases h
    · obtain ⟨t,ht,h⟩:=bs h;rw [hw.v] at ht;cases ht;obtain ⟨m,hm,h⟩:=bs h;rcases jC h with ⟨_,h⟩|⟨hk,h⟩
      · obtain ⟨k,_,h⟩:=bs h;cases h
      · have hk:m.c=x.e:=by have e1:wr (1+x.e)=1+x.e:=lZ (by omega) (by omega);rw [e1,lZ (by omega) (by omega)] at hk;have:=Decidable.not_not.1 hk;omega
        rcases jC h with ⟨h2,h⟩|⟨h2,h⟩
        · obtain ⟨u,hu,h⟩:=bs h;obtain ⟨v,hv2,h⟩:=bs h;cases v with
          | out o=>cases h
          | go d'=>
           replace h:=gi h;have hlt:=X5 (b:=u.a.length) _ 0 _ _ hv2 (by omega) (by omega);rcases jC h with ⟨_,h⟩|⟨h3,h⟩
           · obtain ⟨a,ha,h⟩:=bs h;cases h;obtain ⟨k1,k2⟩:=vO (by decide) ha;exact ⟨k1,fun z=>absurd z k2⟩
           · cases h;refine ⟨.rfl',fun _ _=>⟨m,hm,hk,fun _=>⟨by omega,?_⟩⟩⟩;obtain ⟨q,rfl,hq⟩:=kK hm;rcases hw.vo m (List.mem_of_getElem? hq) with ⟨h5,_⟩|⟨_,r,h5,h6⟩|⟨h5,_⟩
             · omega
             · rw [hu] at h5;cases h5;rw [h6];exact hlt
             · omega
        · cases h;exact ⟨.rfl',fun _ _=>⟨m,hm,hk,fun z=>absurd z h2⟩⟩
  · cases h;exact ⟨.rfl',fun _ z=>absurd (hb.2 z) h1⟩
theorem aaH {S:fV} {x:jA} {ln:Int} {V:List jy} {x':jA} {S':fV} (h:oH fu g f S x ln=some (.out (x',S'))):JM S S'/\x'=x/\S'.e≠0:=by
 unfold oH at h;obtain ⟨v,hv,h⟩:=bs h;cases v with
 | out o=>
  unfold sI at hv;rcases jC hv with ⟨_,hv⟩|⟨_,hv⟩
  · cases hv
  · rcases jC hv with ⟨_,hv⟩|⟨_,hv⟩ <;> cases hv
 | go b=>
  replace h:=gi h;rcases jC h with ⟨_,h⟩|⟨_,h⟩
  · obtain ⟨⟨c,i⟩,_,h⟩:=bs h;replace h:=pi h;rcases jC h with ⟨_,h⟩|⟨_,h⟩
    · obtain ⟨j,hj,h⟩:=bs h;cases h;have k:=vO (by decide) hj;exact ⟨k.1,rfl,k.2⟩
    · obtain ⟨t,_,h⟩:=bs h;obtain ⟨m,_,h⟩:=bs h;rcases jC h with ⟨_,h⟩|⟨_,h⟩
      · obtain ⟨k,hk,h⟩:=bs h;cases h;have k:=vO (by decide) hk;exact ⟨k.1,rfl,k.2⟩
      · rcases jC h with ⟨_,h⟩|⟨_,h⟩
        · obtain ⟨u,_,h⟩:=bs h;obtain ⟨v,hv,h⟩:=bs h;cases v with
          | out o=>exact (U2 _ _ _ _ hv).elim
          | go d=>
           replace h:=gi h;rcases jC h with ⟨_,h⟩|⟨_,h⟩
           · obtain ⟨a,_,h⟩:=bs h;cases h
           · cases h
        · cases h
  · cases h
theorem XA (hg:Xes g):Xe (tQ fu g f):=by
 intro S x ln x' S' V h hw;unfold tQ at h;rcases jC h with ⟨c,h⟩|⟨_,h⟩
 · cases h;exact ⟨.rfl',rfl,fun z=>absurd z c⟩
 · obtain ⟨v,hv,h⟩:=bs h;cases v with
   | out o=>
    cases h;obtain ⟨k1,rfl,k2⟩:=aaH (V:=V) hv;exact ⟨k1,rfl,fun z=>absurd z k2⟩
   | go s=>
    obtain ⟨a1,a2,a3,a4,a5,a6,a7,a8,a9,a10⟩:=s;replace h:=gi h;simp only [pl] at h;obtain ⟨⟨l',S1⟩,h1,h⟩:=bs h;rw [pl] at h;cases h;obtain ⟨k1,k2⟩:=abD hw hv;obtain ⟨k3,k4,k5⟩:=hg _ _ _ _ _ V h1 (k1.wd hw);exact ⟨k1.trans k3,rfl,fun z=>.mk (k2 (k3.e z)) (k5 z)⟩
theorem Gz (hf:Xe f) {ln:Int} {V:List jy} {S0:fV} (hw:Wd S0 V):∀ (l:List jA) (k:Nat) (out:List jA) (S:fV) (v:Ld (List jA × List kE × Int × Int × Int × List kY × List (List jy) × List jV × List Int) (List jA × fV)),JM S0 S→
  nN fu g f ln l k out S.a.a.a S.f S.c S.e S.a.a.b S.a.c S.a.b S.b=some v->(S.e=0->∀ y ∈ out,RX V y)->∃ o a1 a2 a3 a4 a5 a6 a7 a8,v=.go (o,a1,a2,a3,a4,a5,a6,a7,a8)/\JM S0 ⟨⟨⟨a1,a5⟩,a6,a7⟩,a2,a8,a3,a4⟩/\o.map jA.e=out.map jA.e ++ l.map jA.e/\(a4=0->∀ y ∈ o,RX V y)
 | [],_,out,S,v,hS,h,ho=>by cases h;exact ⟨_,_,_,_,_,_,_,_,_,rfl,hS,by rw [List.map_nil,List.append_nil],ho⟩
 | u :: r,k,out,S,v,hS,h,ho=>by rw [nN] at h;obtain ⟨⟨x,S1⟩,h1,h⟩:=bs h;rw [pl] at h;obtain ⟨w,hw',h⟩:=bs h;obtain ⟨_,rfl⟩:=sK hw';obtain ⟨k1,k2,k3⟩:=hf _ _ _ _ _ V h1 (hS.wd hw);obtain ⟨o,a1,a2,a3,a4,a5,a6,a7,a8,e,h2,h3,h4⟩:=Gz hf hw r _ _ S1 v (hS.trans k1) h (fun z=>og (ho (k1.e z)) (k3 z));exact ⟨o,a1,a2,a3,a4,a5,a6,a7,a8,e,h2,by rw [h3,List.map_append,List.append_assoc,List.map_cons,List.map_cons,k2];rfl,h4⟩
theorem Vn (hf:Xe f):Xes (rV fu g f):=by intro S l ln l' S' V h hw;unfold rV at h;obtain ⟨v,hv,h⟩:=bs h;obtain ⟨o,a1,a2,a3,a4,a5,a6,a7,a8,rfl,h2,h3,h4⟩:=Gz hf hw l _ _ S v .rfl' hv (fun _ y hy=>by cases hy);replace h:=gi h;simp only [pl] at h;cases h;exact ⟨h2,h3,h4⟩
end
theorem KD:∀ fu:Nat,Xe (yI fu)∧Xes (rP fu)
 | 0=>⟨fun _ _ _ _ _ _ h=>(by cases h),fun _ _ _ _ _ _ h=>(by cases h)⟩
 | fu+1=>⟨XA (KD fu).2,Vn (KD fu).1⟩
end Go.Proofs.YtfglbdkfnphjgaaGreat
namespace Go.Fw
theorem kP.of' {α:Type} {x:Option α} {P:α->Prop} {v:α} (h:kP x P) (e:x=some v):P v:=by obtain ⟨u,h1,h2⟩:=h;rw [e] at h1;cases h1;exact h2
end Go.Fw
namespace Go.Proofs.YtfglbdkfnphjgaaGreat
open Go.RowKit Go.Fw Go.Proofs.Tryz
section
variable {fu:Nat}
theorem XZ {p:fV} {t:kE} {u:Nat}:∀ (o:Nat) {b:Int} {c:List kE} {d h i:Int} {j:List kY} {k:List (List jy)} {l:List jV} {m:List Int} {r:Int × List kE × Int × Int × Int × List kY × List (List jy) × List jV × List Int},
  oP fu p t u o b c d h i j k l m=some (.go r)->r.2.2.2.2.1=0->i=0
 | 0,_,_,_,_,_,_,_,_,_,_,z,_=>by cases z
 | o+1,_,_,_,_,_,_,_,_,_,_,z,e=>by
  rw [oP] at z;rcases jC z with ⟨_,z⟩|⟨_,z⟩
  · obtain ⟨_,_,z⟩:=bs z;rcases jC z with ⟨_,z⟩|⟨_,z⟩
    · obtain ⟨_,ha,z⟩:=bs z;exact (vO (by decide) ha).1.e (XZ o z e)
    · exact XZ o z e
  · cases z;exact e
theorem X9 {t:kE} {u:ByteArray} {p:Nat}:∀ (o:Nat) {b:Int} {c:List kE} {d h i:Int} {j:List kY} {k:List (List jy)} {l:List jV} {m:List Int} {r:Int × List kE × Int × Int × Int × List kY × List (List jy) × List jV × List Int},
  oU fu t u p o b c d h i j k l m=some (.go r)->r.2.2.2.2.1=0->i=0
 | 0,_,_,_,_,_,_,_,_,_,_,z,_=>by cases z
 | o+1,_,_,_,_,_,_,_,_,_,_,z,e=>by
  rw [oU] at z;rcases jC z with ⟨_,z⟩|⟨_,z⟩
  · obtain ⟨_,_,z⟩:=bs z;rcases jC z with ⟨_,z⟩|⟨_,z⟩
    · obtain ⟨_,ha,z⟩:=bs z;exact (vO (by decide) ha).1.e (X9 o z e)
    · exact X9 o z e
  · cases z;exact e
theorem WS {d:Int} {p:kY}:∀ (o:Nat) {b:Int} {h:List kE} {i j k:Int} {c:List kY} {l:List (List jy)} {m:List jV} {q:List Int} {r:Int × List kE × Int × Int × Int × List kY × List (List jy) × List jV × List Int},
  oJ fu d p o b h i j k c l m q=some (.go r)->r.2.2.2.2.1=0->k=0
 | 0,_,_,_,_,_,_,_,_,_,_,z,_=>by cases z
 | o+1,_,_,_,_,_,_,_,_,_,_,z,e=>by
  rw [oJ] at z;rcases jC z with ⟨_,z⟩|⟨_,z⟩
  · obtain ⟨_,_,z⟩:=bs z;rcases jC z with ⟨_,z⟩|⟨_,z⟩
    · obtain ⟨_,ha,z⟩:=bs z;exact (vO (by decide) ha).1.e (WS o z e)
    · exact WS o z e
  · cases z;exact e
theorem Zc {B:kE}:∀ (x:List ByteArray) {w:Nat} {a:List kE} {b c d:Int} {e:List kY} {f:List (List jy)} {h:List jV} {i:List Int} {r:List kE × Int × Int × Int × List kY × List (List jy) × List jV × List Int},
  o7 fu B x w a b c d e f h i=some (.go r)->r.2.2.2.1=0->d=0
 | [],_,_,_,_,_,_,_,_,_,_,z,y=>by cases z;exact y
 | x :: xs,_,_,_,_,_,_,_,_,_,_,z,y=>by
  rw [o7] at z;obtain ⟨v,hv,z⟩:=bs z;cases v with
  | out o=>cases z
  | go s=>
   obtain ⟨a1,a2,a3,a4,a5,a6,a7,a8,a9⟩:=s;replace z:=gi z;simp only [pl] at z;exact X9 _ hv (Zc xs z y)
theorem aas {R:fV}:∀ (x:List kE) {w:Nat} {a:List kE} {b c d:Int} {e:List kY} {f:List (List jy)} {h:List jV} {i:List Int} {r:List kE × Int × Int × Int × List kY × List (List jy) × List jV × List Int},
  o8 fu R x w a b c d e f h i=some (.go r)->r.2.2.2.1=0->d=0/\∀ u ∈ x,u.a.length<=4
 | [],_,_,_,_,_,_,_,_,_,_,z,y=>by cases z;exact ⟨y,fun u hu=>by cases hu⟩
 | x :: xs,_,_,_,_,d,_,_,_,_,_,z,y=>by
  rw [o8] at z;obtain ⟨v,hv,z⟩:=bs z;cases v with
  | out o=>cases z
  | go s=>
   obtain ⟨a1,a2,a3,a4,a5,a6,a7,a8⟩:=s;replace z:=gi z;simp only [pl] at z;obtain ⟨v,hv3,z⟩:=bs z;cases v with
   | out o=>cases z
   | go s=>
    obtain ⟨b1,b2,b3,b4,b5,b6,b7,b8,b9⟩:=s;replace z:=gi z;simp only [pl] at z;obtain ⟨v,hv4,z⟩:=bs z;cases v with
    | out o=>cases z
    | go s=>
     obtain ⟨c1,c2,c3,c4,c5,c6,c7,c8⟩:=s;replace z:=gi z;simp only [pl] at z;obtain ⟨k1,k2⟩:=aas xs z y;have k3:=XZ _ hv3 (Zc _ hv4 k1);unfold uS at hv;obtain ⟨v,hj,hv⟩:=bs hv;cases v with
     | out o=>cases hv
     | go q=>
      replace hv:=gi hv;rcases jC hv with ⟨_,hv⟩|⟨c,hv⟩
      · obtain ⟨_,ha,hv⟩:=bs hv;cases hv;exact absurd k3 (vO (by decide) ha).2
      · cases hv;refine ⟨k3,fun u hu=>?_⟩;rcases List.mem_cons.1 hu with rfl | hu
        · unfold vk at hj;rcases jC hj with ⟨_,hj⟩|⟨_,hj⟩
          · cases hj;exact absurd rfl c
          · cases hj;have:¬ (4:Int) < (u.a.length:Int):=fun z=>c (decide_eq_true z);omega
        · exact k2 u hu
theorem ZT {k:List kY}:∀ (o:Nat) {a:Int} {c:List kE} {d e f:Int} {b:List kY} {h:List (List jy)} {i:List jV} {j:List Int} {r:Int × List kE × Int × Int × Int × List kY × List (List jy) × List jV × List Int},
  qb fu k o a c d e f b h i j=some (.go r)->r.2.2.2.2.1=0->f=0
 | 0,_,_,_,_,_,_,_,_,_,_,z,_=>by cases z
 | o+1,_,_,_,_,_,_,_,_,_,_,z,y=>by
  rw [qb] at z;rcases jC z with ⟨_,z⟩|⟨_,z⟩
  · obtain ⟨_,_,z⟩:=bs z;obtain ⟨v,hv,z⟩:=bs z;cases v with
    | out o=>cases z
    | go s=>
     obtain ⟨a1,a2,a3,a4,a5,a6,a7,a8⟩:=s;replace z:=gi z;simp only [pl] at z;obtain ⟨v,hv3,z⟩:=bs z;cases v with
     | out o=>cases z
     | go s=>
      obtain ⟨b1,b2,b3,b4,b5,b6,b7,b8,b9⟩:=s;replace z:=gi z;simp only [pl] at z;have k3:=WS _ hv3 (ZT o z y);unfold uT at hv;rcases jC hv with ⟨_,hv⟩|⟨c,hv⟩
      · obtain ⟨_,ha,hv⟩:=bs hv;cases hv;exact absurd k3 (vO (by decide) ha).2
      · cases hv;exact k3
  · cases z;exact y
theorem U4 (hf:5002<=fu) {S S':fV} (h1:S.a.a.a.length<=5000) (h2:∀ u ∈ S.a.a.a,u.a.length<=5000) (h3:S.a.a.b.length<=5000) (h:uN fu S=some S') (e:S'.e=0):∀ u ∈ S.a.a.a,u.a.length<=4:=by
 unfold uN at h;obtain ⟨v,hv,h⟩:=bs h;have k0:=(DW (O:=fun _=>False) hf h1 _ 0 S (by omega) h2 .rfl').of' hv;cases v with
 | out o=>exact k0.elim
 | go s=>
  obtain ⟨a1,a2,a3,a4,a5,a6,a7,a8⟩:=s;replace k0:Ci S ⟨⟨⟨a1,a5⟩,a6,a7⟩,a2,a8,a3,a4⟩:=k0;replace h:=gi h;simp only [pl] at h;obtain ⟨v,hv2,h⟩:=bs h;have hfs:a5=S.a.a.b:=congrArg (fun z=>z.a.b) k0.out;cases v with
  | out o=>
   subst hfs;exact ((DC (O:=fun _=>False) hf h3 fu 0 ⟨⟨⟨a1,_⟩,a6,a7⟩,a2,a8,a3,a4⟩ (Int.le_refl _) (by omega) (by omega) k0).of' hv2).elim
  | go s=>
   obtain ⟨b1,b2,b3,b4,b5,b6,b7,b8,b9⟩:=s;replace h:=gi h;simp only [pl] at h;cases h;exact (aas _ hv (ZT _ hv2 e)).2
end
end Go.Proofs.YtfglbdkfnphjgaaGreat
