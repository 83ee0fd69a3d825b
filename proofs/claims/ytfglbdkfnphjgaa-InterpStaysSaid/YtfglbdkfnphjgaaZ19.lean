/- The interpreter's mirror answers for enough fuel; its events grow, and show what fits. -/
import Derived.Test.YtfglbdkfnphjgaaZ18
import Derived.Test.YtfglbdkfnphjgaaZ9
import Derived.Test.YtfglbdkfnphjgaaZ13
set_option linter.unusedVariables false
set_option linter.unusedSimpArgs false
namespace Go.Proofs.Ytfglbdkfnphjgaa
open Go.RowKit Go.Fw
theorem U2 {α:Type} {l:List α} {i:Int} {x:α} (h:ix? l i=some x):∃ k:Nat,i=(k:Int)∧l[k]?=some x:=by
 unfold ix? at h
 split at h
 · cases h
 · exact ⟨i.toNat,by omega,h⟩
def Lu (s:jO) (e:kR):Prop:=∃ gs:List sJ,e.a=gs.map (U5 s)∧gs.length≤20∧∀ g ∈ gs,Fit s g
structure DN (s:jO) (N:Nat) (S:Sg):Prop where
 hl:S.hist.length≤N
 ol:S.out.length≤S.hist.length
 fit:Fit s S.a
 ev:∀ e ∈ S.hist,Lu s e
structure Nw (s:jO) (N:Nat) (S S':Sg):Prop where
 gd:DN s N S'
 hp:S.hist <+: S'.hist
 op:S.out <+: S'.out
theorem Nw.rfl' {s:jO} {N:Nat} {S:Sg} (h:DN s N S):Nw s N S S:=⟨h,List.prefix_rfl,List.prefix_rfl⟩
theorem Nw.trans {s:jO} {N:Nat} {S S1 S2:Sg} (h:Nw s N S S1) (k:Nw s N S1 S2):Nw s N S S2:=⟨k.gd,h.hp.trans k.hp,h.op.trans k.op⟩
theorem LG {ev:jB→Option (Pn Int)} {l:List jB} {S:Sg} {β:Type} {k:Int→Option (Pn β × Sg)} {P:Pn β × Sg→Prop} (h:∀ y ∈ l,Yes (ev y)) (hp:∀ p,P (p,S)) (hk:∀ n,kG (k n) P):kG (one ev l S k) P:=by
 unfold one
 cases l with
 | nil=>exact .mk (hp _)
 | cons x l=>
  refine .bd (h x (.head _)) fun p _=>?_
  cases p with
  | ok n=>exact hk n
  | _=>exact .mk (hp _)
theorem PK {ev:jB→Option (Pn Int)} {ws:List (List Int)} {l:List jB} {S:Sg} {β:Type} {k:Nat × Nat→Option (Pn β × Sg)} {P:Pn β × Sg→Prop} (h:∀ y ∈ l,Yes (SH ev ws y)) (hp:∀ p,P (p,S)) (hk:∀ n,kG (k n) P):kG (KA ev ws l S k) P:=by
 unfold KA
 cases l with
 | nil=>exact .mk (hp _)
 | cons x l=>
  refine .bd (h x (.head _)) fun p _=>?_
  cases p with
  | ok n=>exact hk n
  | _=>exact .mk (hp _)
theorem Mw:∀ (l:List jA) (acc:List (List Int)),acc.length+l.length≤1000000000→kG (F4 l acc) (fun p=>∀ ws,p=.ok ws→ws.map List.length=acc.map List.length ++ l.map (fun x=>x.a.toNat)∧∀ x ∈ l,0≤x.a∧x.a≤8)
 | [],acc,_=>.mk fun ws h=>by cases h;exact ⟨by rw [List.map_nil,List.append_nil],fun x hx=>by cases hx⟩
 | v :: l,acc,hn=>by
  rw [List.length_cons] at hn
  rw [F4]
  refine .ite (fun _=>.mk fun ws h=>by cases h) fun c=>.bd (.app (by simp only [List.length_cons,List.length_nil];omega)) fun r hr=>?_
  subst hr
  refine (Mw l _ (by rw [ko];omega)).imp fun p hp ws hw=>?_
  obtain ⟨h1,h2⟩:=hp ws hw
  refine ⟨by rw [h1,List.map_append,List.append_assoc];simp,fun x hx=>?_⟩
  rcases List.mem_cons.1 hx with rfl | hx
  · omega
  · exact h2 x hx
theorem IX:∀ (l:List Int) (i:Nat) (ws ws':List (List Int)),G7 l i ws=.ok ws'→ws'.map List.length=ws.map List.length
 | [],_,ws,ws',h=>by cases h;rfl
 | v :: l,i,ws,ws',h=>by
  rw [G7] at h
  cases hw:ws[i]? with
  | none=>rw [hw] at h;cases h
  | some row=>
   rw [hw] at h
   cases row with
   | nil=>cases h
   | cons z row=>
    rw [IX l _ _ ws' h,List.map_set]
    exact set_self (by rw [List.getElem?_map,hw];rfl)
section
variable {s:jO} {N:Nat}
theorem SA {sm:Sm} {M n:Nat} (hS:∀ S x,M≤S.hist.length→DN s N S→CF n x→kG (sm S x) (fun r=>Nw s N S r.2)):∀ (l:List jD) (S:Sg),M≤S.hist.length→DN s N S→(∀ y ∈ l,CF n y)→kG (Gy sm S l) (fun r=>Nw s N S r.2)
 | [],S,_,h,_=>.mk (.rfl' h)
 | x :: l,S,hM,h,hl=>by
  rw [Gy]
  refine .bd (hS S x hM h (hl x (.head _))) fun r hr=>?_
  obtain ⟨p,S1⟩:=r
  have k:=SA hS l S1 (Nat.le_trans hM hr.hp.length_le) hr.gd (fun y hy=>hl y (.tail _ hy))
  cases p with
  | ok o=>
   cases o with
   | none=>exact k.imp fun r h=>hr.trans h
   | some v=>exact .mk hr
  | _=>exact .mk hr
structure Cl (s:jO) (N:Nat) (hist:List kR) (out:List Int) (h:List kR) (o:List Int):Prop where
 hl:h.length≤N
 ol:o.length≤h.length
 ev:∀ e ∈ h,Lu s e
 hp:hist <+: h
 op:out <+: o
theorem Qz (hs:CI s) {sm:List sJ→Sm} {stk:List sJ} {f:Int} {args:List Int} {hist:List kR} {out:List Int} (h1:hist.length≤N) (h2:out.length≤hist.length) (h3:∀ e ∈ hist,Lu s e)
  (hS:stk.length≤19→∀ S x n,n≤10→hist.length≤S.hist.length→DN s N S→CF n x→kG (sm stk S x) (fun r=>Nw s N S r.2)):kG (BO sm s stk f args hist out) (fun r=>Cl s N hist out r.2.1 r.2.2):=by
 have hC:Cl s N hist out hist out:=⟨h1,h2,h3,List.prefix_rfl,List.prefix_rfl⟩
 unfold BO
 refine .ite (fun _=>.mk hC) fun c=>?_
 cases hV:ix? s.c f with
 | none=>exact .mk hC
 | some vars=>
 obtain ⟨k,rfl,hk⟩:=U2 hV
 have h24:=hs.vn vars (List.mem_of_getElem? hk)
 refine .bd (Mw vars [] (by simp only [List.length_nil];omega)) fun p hp=>?_
 cases p with
 | ok ws=>
  obtain ⟨h4,h5⟩:=hp ws rfl
  cases hA:G7 args 0 ws with
  | ok ws'=>
   simp only [hA]
   cases hF:ix? s.a.b (k:Int) with
   | none=>exact .mk hC
   | some fn=>
    obtain ⟨k2,_,hk2⟩:=U2 hF
    have hfit:Fit s ⟨(k:Int),0,ws'⟩:=⟨Int.natCast_nonneg k,vars,by dsimp only;rw [Int.toNat_natCast];exact hk,by dsimp only;rw [IX _ _ _ _ hA,h4];rfl,h5⟩
    refine .bd (SA (M:=hist.length) (n:=10) (fun S x=>hS (by omega) S x 10 (Nat.le_refl _)) fn.e ⟨⟨(k:Int),0,ws'⟩,hist,out⟩ (Nat.le_refl _) ⟨h1,h2,hfit,h3⟩ (hs.fx fn (List.mem_of_getElem? hk2))) fun r hr=>?_
    exact .mk ⟨hr.gd.hl,hr.gd.ol,hr.gd.ev,hr.hp,hr.op⟩
  | _=>simp only [hA];exact .mk hC
 | _=>exact .mk hC
theorem I9 {rest:List sJ} {S:Sg} {id:Int} (h:DN s N S) (hr:∀ g ∈ rest,Fit s g) (hn:rest.length≤19) (hN:S.hist.length < N):Nw s N S (JC s rest S id):=by
 have hf:Fit s ⟨S.a.f,id,S.a.ws⟩:=h.fit
 refine ⟨⟨by unfold JC;rw [ko];omega,by unfold JC;rw [ko];exact Nat.le_succ_of_le h.ol,hf,nP h.ev ⟨_,rfl,by rw [List.length_cons];omega,fun g hg=>?_⟩⟩,List.prefix_append _ _,List.prefix_rfl⟩
 rcases List.mem_cons.1 hg with rfl | hg
 · exact hf
 · exact hr g hg
theorem WA (hs:CI s) {rest:List sJ} (hr:∀ g ∈ rest,Fit s g) (hn:rest.length≤19) {fv:Nat} {id:Int} {M:Nat} {cond:Sg→Option (Pn Int)} {body:Sg→Option (Pn (Option Int) × Sg)} (hc:∀ S,Yes (cond S)) (hb:∀ S,M≤S.hist.length→DN s N S→kG (body S) (fun r=>Nw s N S r.2)) :
  ∀ (n:Nat) (S:Sg),M≤S.hist.length→DN s N S→N - S.hist.length+1≤n→kG (TM cond body (fun S=>event (jJ fv s) N rest S id) n S) (fun r=>Nw s N S r.2)
 | 0,S,_,_,h=>by omega
 | n+1,S,hM,h,hn'=>by
  rw [TM]
  refine .bd (hc S) fun p _=>?_
  cases p with
  | ok v=>
   refine .ite (fun _=>.mk (.rfl' h)) fun _=>.bd (hb S hM h) fun r hr1=>?_
   obtain ⟨p,S1⟩:=r
   cases p with
   | ok o=>
    cases o with
    | none=>
     have hl:=hr1.hp.length_le
     dsimp only at hl hr1 ⊢
     rw [Dw hs.vn hr1.gd.fit hr (by omega)]
     by_cases hN:N≤S1.hist.length
     · rw [if_pos hN];exact .mk hr1
     · rw [if_neg hN]
       have k:=I9 (id:=id) hr1.gd hr hn (by omega)
       refine (WA hs hr hn hc hb n _ (Nat.le_trans hM (Nat.le_trans hl k.hp.length_le)) k.gd (by unfold JC;rw [ko];omega)).imp fun r h=>(hr1.trans k).trans h
    | some v=>exact .mk hr1
   | _=>exact .mk hr1
  | _=>exact .mk (.rfl' h)
theorem Rk (hs:CI s) {sm:List sJ→Sm} {rest:List sJ} {fu:Nat} {S:Sg} {x:jD} {k:Int→Sg→Option (Pn (Option Int) × Sg)} (h:DN s N S) (hr:∀ g ∈ rest,Fit s g) (hA:x.a.length≤5000∧∀ y ∈ x.a,zm 5000 y) (hf:5000≤fu)
  (hS:rest.length≤18→∀ S' x n,n≤10→S.hist.length≤S'.hist.length→DN s N S'→CF n x→kG (sm (S.a :: rest) S' x) (fun r=>Nw s N S' r.2)) (hk:∀ v h o,Cl s N S.hist S.out h o→kG (k v ⟨S.a,h,o⟩) (fun r=>Nw s N S r.2)) :
  kG (CZ sm s rest fu S x k) (fun r=>Nw s N S r.2):=by
 unfold CZ
 refine .bd (TN x.a [] (fun y hy=>O4 fu 5000 _ y (hA.2 y hy) hf) (by simp only [List.length_nil];omega)) fun p _=>?_
 cases p with
 | ok l=>
  refine .bd (Qz hs h.hl h.ol h.ev (fun h19=>hS (by rw [List.length_cons] at h19;omega))) fun r hr=>?_
  obtain ⟨p,h',o⟩:=r
  have hc:Nw s N S ⟨S.a,h',o⟩:=⟨⟨hr.hl,hr.ol,h.fit,hr.ev⟩,hr.hp,hr.op⟩
  cases p with
  | ok v=>exact hk v h' o hr
  | _=>exact .mk hc
 | _=>exact .mk (.rfl' h)
theorem RA (hs:CI s) (hN:N≤5000) {fv:Nat}:∀ (fu:Nat) (rest:List sJ) (S:Sg) (x:jD) (n:Nat),(∀ g ∈ rest,Fit s g)→rest.length≤19→DN s N S→CF n x→n≤10→5001+(N - S.hist.length)≤fu→
  kG (stM (jJ fv s) s N fu rest S x) (fun r=>Nw s N S r.2)
 | 0,_,_,_,_,_,_,_,_,_,h=>by omega
 | fu+1,rest,S,x,n,hr,hn,h,hx,hn10,hf=>by
  cases n with
  | zero=>exact hx.elim
  | succ n=>
  obtain ⟨x1,x2,x3,x4⟩:=hx
  rw [stM,Dw hs.vn h.fit hr (by omega)]
  by_cases hN2:N≤S.hist.length
  · rw [if_pos hN2];exact .mk (.rfl' h)
  rw [if_neg hN2]
  have k:=I9 (id:=x.n) h hr hn (by omega)
  have hl:(JC s rest S x.n).hist.length=S.hist.length+1:=ko
  have ho:(JC s rest S x.n).out.length+1≤(JC s rest S x.n).hist.length:=by rw [hl];exact Nat.succ_le_succ h.ol
  generalize JC s rest S x.n=E at k hl ho
  refine kG.imp (Q:=fun r=>Nw s N E r.2) ?_ fun r h=>k.trans h
  have hE:=k.gd
  show kG (if x.c=1 then _ else _) _
  have ihs:∀ (rest:List sJ),(∀ g ∈ rest,Fit s g)→rest.length≤19→∀ S' x n,n≤10→E.hist.length≤S'.hist.length→DN s N S'→CF n x→kG (stM (jJ fv s) s N fu rest S' x) (fun r=>Nw s N S' r.2):=
    fun rest hr hn S' x n h10 hl' hG hX=>RA hs hN fu rest S' x n hr hn hG hX h10 (by omega)
  have hcall:∀ {k:Int→Sg→Option (Pn (Option Int) × Sg)},(∀ v h o,Cl s N E.hist E.out h o→kG (k v ⟨E.a,h,o⟩) (fun r=>Nw s N E r.2))→kG (CZ (stM (jJ fv s) s N fu) s rest fu E x k) (fun r=>Nw s N E r.2):=fun hk=>
    Rk hs hE hr x2 (by omega) (fun h18=>ihs (E.a :: rest) (fun g hg=>by
      rcases List.mem_cons.1 hg with rfl | hg
      · exact hE.fit
      · exact hr g hg) (by rw [List.length_cons];omega)) hk
  have hls:∀ (l:List jD) (S':Sg),E.hist.length≤S'.hist.length→DN s N S'→(∀ y ∈ l,CF n y)→kG (Gy (stM (jJ fv s) s N fu rest) S' l) (fun r=>Nw s N S' r.2):=
    SA (M:=E.hist.length) (n:=n) fun S' x=>ihs rest hr hn S' x n (by omega)
  have hev:∀ ws,∀ y ∈ x.a,Yes (CG fu ws y):=fun ws y hy=>O4 fu 5000 ws y (x2.2 y hy) (by omega)
  have hwd:∀ ws,∀ y ∈ x.d,Yes (SH (CG fu ws) ws y):=fun ws y hy=>Yh fun z hz=>O4 fu 5000 ws z (zm.mono (n:=4999) ((x1 y hy).2 z hz) (by decide)) (by omega)
  refine .ite (fun _=>?_) fun _=>.ite (fun _=>?_) fun _=>.ite (fun _=>?_) fun _=>.ite (fun _=>?_) fun _=>.ite (fun _=>?_) fun _=>.ite (fun _=>?_) fun _=>.ite (fun _=>?_) fun _=>.ite (fun _=>?_) fun _=>.ite (fun _=>?_) fun _=>.ite (fun _=>?_) fun _=>?_
  · cases hi:ix? E.a.ws x.g with
    | none=>exact .mk (.rfl' hE)
    | some l=>
      obtain ⟨q,hq,hql⟩:=U2 hi
      exact .mk ⟨⟨hE.hl,hE.ol,by
        rw [show x.g.toNat=q from by omega]
        exact Fit.put (st:=E.a.st) hE.fit hql (List.length_replicate ..),hE.ev⟩,List.prefix_rfl,List.prefix_rfl⟩
  · exact PK (hwd _) (fun p=>.rfl' hE) fun q=>LG (hev _) (fun p=>.rfl' hE) fun v=>.mk ⟨⟨hE.hl,hE.ol,Fit.word (st:=E.a.st) hE.fit,hE.ev⟩,List.prefix_rfl,List.prefix_rfl⟩
  · refine hcall fun v h' o hC=>?_
    have hc:Nw s N E ⟨E.a,h',o⟩:=⟨⟨hC.hl,hC.ol,hE.fit,hC.ev⟩,hC.hp,hC.op⟩
    exact .ite (fun _=>.mk hc) fun _=>PK (hwd _) (fun p=>hc) fun q=>.mk ⟨⟨hC.hl,hC.ol,Fit.word (st:=E.a.st) hE.fit,hC.ev⟩,hC.hp,hC.op⟩
  · refine LG (hev _) (fun p=>.rfl' hE) fun v=>hls _ _ (Nat.le_refl _) hE fun y hy=>?_
    split at hy
    · exact x3 y hy
    · exact x4 y hy
  · refine WA (M:=E.hist.length) hs hr hn (fun S=>?_) (fun S' hM hG=>hls _ _ hM hG x3) fu E (Nat.le_refl _) hE (by omega)
    cases hA:x.a with
    | nil=>exact .mk trivial
    | cons y l=>exact hev _ y (by rw [hA];exact .head _)
  · exact .ite (fun _=>hcall fun v h' o hC=>.mk ⟨⟨hC.hl,hC.ol,hE.fit,hC.ev⟩,hC.hp,hC.op⟩) fun _=>LG (hev _) (fun p=>.rfl' hE) fun v=>.mk (.rfl' hE)
  · exact LG (hev _) (fun p=>.rfl' hE) fun v=>.mk (.rfl' hE)
  · refine .bd (hls _ _ (Nat.le_refl _) hE x3) fun r hr1=>?_
    obtain ⟨p,S1⟩:=r
    cases p with
    | Eu v=>
      dsimp only
      cases hi:ix? S1.a.ws x.g with
      | none=>exact .mk hr1
      | some row=>
        obtain ⟨q,hq,hql⟩:=U2 hi
        cases row with
        | nil=>exact .mk hr1
        | cons z row=>
         have hk2:Nw s N S1 { S1 with a:={ S1.a with ws:=S1.a.ws.set x.g.toNat (v :: row) } }:=⟨⟨hr1.gd.hl,hr1.gd.ol,by
          rw [show x.g.toNat=q from by omega]
          exact Fit.put (st:=S1.a.st) hr1.gd.fit hql rfl,hr1.gd.ev⟩,List.prefix_rfl,List.prefix_rfl⟩
         exact (hls x.h { S1 with a:={ S1.a with ws:=S1.a.ws.set x.g.toNat (v :: row) } } hr1.hp.length_le hk2.gd x4).imp fun r h=>(hr1.trans hk2).trans h
    | _=>exact .mk hr1
  · refine LG (hev _) (fun p=>.rfl' hE) fun v=>.bd (.app (by have:=hE.hl;simp only [List.length_cons,List.length_nil];omega)) fun o ho'=>?_
    subst ho'
    exact .mk ⟨⟨hE.hl,by dsimp only;rw [ko];omega,hE.fit,hE.ev⟩,List.prefix_rfl,List.prefix_append _ _⟩
  · exact .mk (.rfl' hE)
  · exact .mk (.rfl' hE)
end
end Go.Proofs.Ytfglbdkfnphjgaa
namespace Go.Fw
theorem kG.of' {α:Type} {x:Option α} {P:α→Prop} {v:α} (h:kG x P) (e:x=some v):P v:=by
 obtain ⟨u,h1,h2⟩:=h
 rw [e] at h1
 cases h1
 exact h2
end Go.Fw
set_option linter.unusedVariables false
set_option linter.unusedSimpArgs false
namespace Go.Proofs.Ytfglbdkfnphjgaa
open Go.RowKit Go.Fw
def Rl {β:Type} (r1 r2:Pn β × Sg):Prop:=r1=r2 ∨ (r1.1=.err 13∧r1.2.hist <+: r2.2.hist∧r1.2.out <+: r2.2.out)
theorem Rl.rfl' {β:Type} (r:Pn β × Sg):Rl r r:=.inl rfl
section
variable {s:jO} {N:Nat}
end
end Go.Proofs.Ytfglbdkfnphjgaa
set_option linter.unusedVariables false
set_option linter.unusedSimpArgs false
namespace Go.Proofs.Ytfglbdkfnphjgaa
open Go.RowKit Go.Fw
def VO (R:List kV) (v:jA):Prop:=(v.c=1∧v.a=1) ∨ (v.c=2∧∃ r,ix R v.d=some r∧v.a=r.a.length) ∨ (v.c=3∧0 < v.a)
def Vr (V V':List jA):Prop:=∀ (i:Nat) (v:jA),V[i]?=some v→∃ v',V'[i]?=some v'∧v'.c=v.c∧v'.d=v.d∧v'.a=v.a∧v'.e=v.e
theorem Vr.rfl' {V:List jA}:Vr V V:=fun i v h=>⟨v,h,rfl,rfl,rfl,rfl⟩
theorem Vr.trans {V V1 V2:List jA} (h:Vr V V1) (k:Vr V1 V2):Vr V V2:=fun i v hv=>by
 obtain ⟨v1,h1,a1,a2,a3,a4⟩:=h i v hv
 obtain ⟨v2,h2,b1,b2,b3,b4⟩:=k i v1 h1
 exact ⟨v2,h2,b1.trans a1,b2.trans a2,b3.trans a3,b4.trans a4⟩
theorem NH {V V':List jA} (h:Vr V V') {i:Int} {v:jA} (hv:ix V i=some v):∃ v',ix V' i=some v'∧v'.c=v.c∧v'.d=v.d∧v'.a=v.a∧v'.e=v.e:=by
 obtain ⟨k,rfl,hk⟩:=kJ hv
 obtain ⟨v',h1,h2⟩:=h k v hk
 exact ⟨v',by unfold Go.Fw.ix;rw [if_neg (by omega),Int.toNat_natCast,h1],h2⟩
inductive RX (V:List jA):jB→Prop
 | mk {e:jB} (h:e.e=1 ∨ e.e=2 ∨ e.e=3→∃ v,ix V e.g=some v∧v.c=e.e∧(e.e=2→0≤e.d∧e.d < v.a)) (k:∀ y ∈ e.a,RX V y):RX V e
theorem RX.mono {V V':List jA} (hv:Vr V V') {e:jB} (h:RX V e):RX V' e:=by
 induction h with
 | mk h k ih=>
  refine .mk (fun z=>?_) ih
  obtain ⟨v,h1,h2,h3⟩:=h z
  obtain ⟨v',a1,a2,a3,a4,a5⟩:=NH hv h1
  exact ⟨v',a1,a2.trans h2,fun z=>by rw [a4];exact h3 z⟩
inductive SW (K:List kK) (V:List jA) (Ps:List Nat) (f:Int):List jD→Nat→Nat→Prop
 | nil {a:Nat}:SW K V Ps f [] a a
 | cons {x:jD} {l:List jD} {a c d b:Nat} (id:x.n=a) (kd:K[a]?=some ⟨f,x.c,x.f⟩) (tg:∀ y ∈ x.d,RX V y) (ar:∀ y ∈ x.a,RX V y) (de:x.c=1→∃ v,ix V x.g=some v)
  (tr:x.c=8→∃ v,ix V x.g=some v∧v.c=1∧v.e=(c:Int)) (ca:x.j≠be→ix Ps x.i=some x.a.length) (ct:x.c=3→∀ y ∈ x.d,y.e=1)
  (bo:SW K V Ps f x.e (a+1) c) (el:SW K V Ps f x.h c d) (nx:SW K V Ps f l d b):SW K V Ps f (x :: l) a b
theorem SW.mono {K K':List kK} {V V':List jA} {Ps:List Nat} {f:Int} (hk:K <+: K') (hv:Vr V V') {l:List jD} {a b:Nat} (h:SW K V Ps f l a b):SW K' V' Ps f l a b:=by
 induction h with
 | nil=>exact .nil
 | cons id kd tg ar de tr ca ct _ _ _ ih1 ih2 ih3=>
  obtain ⟨t,rfl⟩:=hk
  refine .cons id (by rw [List.getElem?_append_left (kI kd)];exact kd) (fun y hy=>(tg y hy).mono hv) (fun y hy=>(ar y hy).mono hv) (fun z=>?_) (fun z=>?_) ca ct ih1 ih2 ih3
  · obtain ⟨v,h1⟩:=de z
    obtain ⟨v',h2,_⟩:=NH hv h1
    exact ⟨v',h2⟩
  · obtain ⟨v,h1,h3,h4⟩:=tr z
    obtain ⟨v',h2,a1,a2,a3,a4⟩:=NH hv h1
    exact ⟨v',h2,a1.trans h3,a4.trans h4⟩
theorem SW.le {K:List kK} {V:List jA} {Ps:List Nat} {f:Int} {l:List jD} {a b:Nat} (h:SW K V Ps f l a b):a≤b:=by
 induction h with
 | nil=>exact Nat.le_refl _
 | cons _ _ _ _ _ _ _ _ _ _ _ h1 h2 h3=>omega
theorem SW.app {K:List kK} {V:List jA} {Ps:List Nat} {f:Int} {l m:List jD} {a b c:Nat} (h:SW K V Ps f l a b) (k:SW K V Ps f m b c):SW K V Ps f (l ++ m) a c:=by
 induction h with
 | nil=>exact k
 | cons id kd tg ar de tr ca ct bo el _ _ _ ih=>exact .cons id kd tg ar de tr ca ct bo el (ih k)
structure Up (S:fV) (V:List jA) (S':fV) (V':List jA):Prop where
 e:S.e=0
 f:S'.f=S.f
 pg:S'.a.a=S.a.a
 k:S.a.b <+: S'.a.b
 v:ix S'.a.c S.f=some V'
 vs:∀ i:Nat,(i:Int)≠S.f→S'.a.c[i]?=S.a.c[i]?
 vl:S'.a.c.length=S.a.c.length
 vr:Vr V V'
 vo:∀ x ∈ V',VO S.a.a.a x
structure Wd (S:fV) (V:List jA):Prop where
 v:ix S.a.c S.f=some V
 vo:∀ x ∈ V,VO S.a.a.a x
theorem Up.wd {S S':fV} {V V':List jA} (h:Up S V S' V'):Wd S' V':=⟨by rw [h.f];exact h.v,by rw [h.pg];exact h.vo⟩
theorem Up.rfl' {S:fV} {V:List jA} (h:Wd S V) (e:S.e=0):Up S V S V:=⟨e,rfl,rfl,List.prefix_rfl,h.v,fun _ _=>rfl,rfl,.rfl',h.vo⟩
theorem Up.trans {S S1 S2:fV} {V V1 V2:List jA} (h:Up S V S1 V1) (k:Up S1 V1 S2 V2):Up S V S2 V2:=
 ⟨h.e,k.f.trans h.f,k.pg.trans h.pg,h.k.trans k.k,by rw [← h.f];exact k.v,fun i hi=>(k.vs i (by rw [h.f];exact hi)).trans (h.vs i hi),k.vl.trans h.vl,h.vr.trans k.vr,by rw [← h.pg];exact k.vo⟩
structure Hz (S S':fV):Prop where
 out:S'.a=S.a
 f:S'.f=S.f
 op:S'.b=S.b
 e:S'.e=0→S.e=0
theorem Hz.rfl' {S:fV}:Hz S S:=⟨rfl,rfl,rfl,id⟩
theorem Hz.trans {S S1 S2:fV} (h:Hz S S1) (k:Hz S1 S2):Hz S S2:=⟨k.out.trans h.out,k.f.trans h.f,k.op.trans h.op,fun z=>h.e (k.e z)⟩
theorem Hz.up {S S':fV} {V:List jA} (k:Hz S S') (h:Wd S V) (e:S'.e=0):Up S V S' V:=⟨k.e e,k.f,by rw [k.out],by rw [k.out];exact List.prefix_rfl,by rw [k.out];exact h.v,fun i _=>by rw [k.out],by rw [k.out],.rfl',h.vo⟩
theorem Hz.wd {S S':fV} {V:List jA} (k:Hz S S') (h:Wd S V):Wd S' V:=⟨by rw [k.out,k.f];exact h.v,by rw [k.out];exact h.vo⟩
theorem zo {fu:Nat} {S S':fV} {ln e:Int} (he:e≠0) (h:lY fu S ln e=some S'):Hz S S'∧S'.e≠0:=by
 unfold lY at h
 rcases jS h with ⟨c,h⟩|⟨c,h⟩
 · cases h;exact ⟨⟨rfl,rfl,rfl,fun z=>absurd z he⟩,he⟩
 · cases h;exact ⟨.rfl',c⟩
section
variable {fu:Nat} {f:fV→jB→Int→Option (jB × fV)} {g:fV→List jB→Int→Option (List jB × fV)}
def Xe (f:fV→jB→Int→Option (jB × fV)):Prop:=∀ S x ln x' S' V,f S x ln=some (x',S')→Wd S V→Hz S S'∧x'.e=x.e∧(S'.e=0→RX V x')
def Zg (g:fV→List jB→Int→Option (List jB × fV)):Prop:=∀ S l ln l' S' V,g S l ln=some (l',S')→Wd S V→Hz S S'∧l'.map jB.e=l.map jB.e∧(S'.e=0→∀ y ∈ l',RX V y)
theorem VE {x:jB} {b:Nat}:∀ (l:List ByteArray) (k:Nat) (a:Int) (n:Int),nL fu g f x l k a=some (.go n)→k+l.length≤b→a < b→n < b
 | [],_,a,n,h,_,ha=>by cases h;exact ha
 | u :: r,k,a,n,h,hk,ha=>by
  rw [List.length_cons] at hk
  rw [nL] at h
  rcases jS h with ⟨_,h⟩|⟨_,h⟩
  · exact VE r _ _ n h (by omega) (by omega)
  · exact VE r _ _ n h (by omega) ha
theorem YJ {S:fV} {x:jB} {ln:Int} {V:List jA} {d c:Int} {a1:List kV} {a2 a3 a4:Int} {a5:List lI} {a6:List (List jA)} {a7:List kK} {a8:List Int} (hw:Wd S V)
  (h:oh fu g f S x ln=some (.go (d,c,a1,a2,a3,a4,a5,a6,a7,a8))):Hz S ⟨⟨⟨a1,a5⟩,a6,a7⟩,a2,a8,a3,a4⟩∧(a4=0→x.e=1 ∨ x.e=2 ∨ x.e=3→∃ v,ix V c=some v∧v.c=x.e∧(x.e=2→0≤d∧d < v.a)):=by
 unfold oh at h
 obtain ⟨v,hv,h⟩:=bs h
 cases v with
 | out o=>cases h
 | go b=>
  have hb:b=true ↔ (x.e=1 ∨ x.e=2 ∨ x.e=3):=by
    unfold rQ at hv
    rcases jS hv with ⟨h1,hv⟩|⟨h1,hv⟩
    · cases hv;simp [h1]
    · rcases jS hv with ⟨h2,hv⟩|⟨h2,hv⟩
      · cases hv;simp [h2]
      · cases hv;simp [h1,h2]
  replace h:=gi h
  rcases jS h with ⟨h1,h⟩|⟨h1,h⟩
  · have hop:=hb.1 h1
    obtain ⟨⟨c',i⟩,_,h⟩:=bs h
    replace h:=pi h
    rcases jS h with ⟨_,h⟩|⟨_,h⟩
    · obtain ⟨j,_,h⟩:=bs h;cases h
    · obtain ⟨t,ht,h⟩:=bs h
      rw [hw.v] at ht
      cases ht
      obtain ⟨m,hm,h⟩:=bs h
      rcases jS h with ⟨_,h⟩|⟨hk,h⟩
      · obtain ⟨k,_,h⟩:=bs h;cases h
      · have hk:m.c=x.e:=by
          have e1:wr (1+x.e)=1+x.e:=lQ (by omega) (by omega)
          rw [e1,lQ (by omega) (by omega)] at hk
          have:=Decidable.not_not.1 hk
          omega
        rcases jS h with ⟨h2,h⟩|⟨h2,h⟩
        · obtain ⟨u,hu,h⟩:=bs h
          obtain ⟨v,hv2,h⟩:=bs h
          cases v with
          | out o=>cases h
          | go d'=>
           replace h:=gi h
           have hlt:=VE (b:=u.a.length) _ 0 _ _ hv2 (by omega) (by omega)
           rcases jS h with ⟨_,h⟩|⟨h3,h⟩
           · obtain ⟨a,ha,h⟩:=bs h
             cases h
             obtain ⟨k1,k2⟩:=zo (by decide) ha
             exact ⟨k1,fun z=>absurd z k2⟩
           · cases h
             refine ⟨.rfl',fun _ _=>⟨m,hm,hk,fun _=>⟨by omega,?_⟩⟩⟩
             obtain ⟨q,rfl,hq⟩:=kJ hm
             rcases hw.vo m (List.mem_of_getElem? hq) with ⟨h5,_⟩|⟨_,r,h5,h6⟩|⟨h5,_⟩
             · omega
             · rw [hu] at h5;cases h5;rw [h6];exact hlt
             · omega
        · cases h
          exact ⟨.rfl',fun _ _=>⟨m,hm,hk,fun z=>absurd z h2⟩⟩
  · cases h
    exact ⟨.rfl',fun _ z=>absurd (hb.2 z) h1⟩
theorem Wj {S:fV} {x:jB} {ln:Int} {V:List jA} {x':jB} {S':fV} (h:oh fu g f S x ln=some (.out (x',S'))):Hz S S'∧x'=x∧S'.e≠0:=by
 unfold oh at h
 obtain ⟨v,hv,h⟩:=bs h
 cases v with
 | out o=>
  unfold rQ at hv
  rcases jS hv with ⟨_,hv⟩|⟨_,hv⟩
  · cases hv
  · rcases jS hv with ⟨_,hv⟩|⟨_,hv⟩ <;> cases hv
 | go b=>
  replace h:=gi h
  rcases jS h with ⟨_,h⟩|⟨_,h⟩
  · obtain ⟨⟨c,i⟩,_,h⟩:=bs h
    replace h:=pi h
    rcases jS h with ⟨_,h⟩|⟨_,h⟩
    · obtain ⟨j,hj,h⟩:=bs h
      cases h
      have k:=zo (by decide) hj
      exact ⟨k.1,rfl,k.2⟩
    · obtain ⟨t,_,h⟩:=bs h
      obtain ⟨m,_,h⟩:=bs h
      rcases jS h with ⟨_,h⟩|⟨_,h⟩
      · obtain ⟨k,hk,h⟩:=bs h
        cases h
        have k:=zo (by decide) hk
        exact ⟨k.1,rfl,k.2⟩
      · rcases jS h with ⟨_,h⟩|⟨_,h⟩
        · obtain ⟨u,_,h⟩:=bs h
          obtain ⟨v,hv,h⟩:=bs h
          cases v with
          | out o=>exact (R3 _ _ _ _ hv).elim
          | go d=>
           replace h:=gi h
           rcases jS h with ⟨_,h⟩|⟨_,h⟩
           · obtain ⟨a,_,h⟩:=bs h
             cases h
           · cases h
        · cases h
  · cases h
theorem UZ (hg:Zg g):Xe (sK fu g f):=by
 intro S x ln x' S' V h hw
 unfold sK at h
 rcases jS h with ⟨c,h⟩|⟨_,h⟩
 · cases h;exact ⟨.rfl',rfl,fun z=>absurd z c⟩
 · obtain ⟨v,hv,h⟩:=bs h
   cases v with
   | out o=>
    cases h
    obtain ⟨k1,rfl,k2⟩:=Wj (V:=V) hv
    exact ⟨k1,rfl,fun z=>absurd z k2⟩
   | go s=>
    obtain ⟨a1,a2,a3,a4,a5,a6,a7,a8,a9,a10⟩:=s
    replace h:=gi h
    simp only [pl] at h
    obtain ⟨⟨l',S1⟩,h1,h⟩:=bs h
    rw [pl] at h
    cases h
    obtain ⟨k1,k2⟩:=YJ hw hv
    obtain ⟨k3,k4,k5⟩:=hg _ _ _ _ _ V h1 (k1.wd hw)
    exact ⟨k1.trans k3,rfl,fun z=>.mk (k2 (k3.e z)) (k5 z)⟩
theorem FT (hf:Xe f) {ln:Int} {V:List jA} {S0:fV} (hw:Wd S0 V):∀ (l:List jB) (k:Nat) (out:List jB) (S:fV) (v:Ld (List jB × List kV × Int × Int × Int × List lI × List (List jA) × List kK × List Int) (List jB × fV)),Hz S0 S→
  nK fu g f ln l k out S.a.a.a S.f S.c S.e S.a.a.b S.a.c S.a.b S.b=some v→(S.e=0→∀ y ∈ out,RX V y)→∃ o a1 a2 a3 a4 a5 a6 a7 a8,v=.go (o,a1,a2,a3,a4,a5,a6,a7,a8)∧Hz S0 ⟨⟨⟨a1,a5⟩,a6,a7⟩,a2,a8,a3,a4⟩∧o.map jB.e=out.map jB.e ++ l.map jB.e∧(a4=0→∀ y ∈ o,RX V y)
 | [],_,out,S,v,hS,h,ho=>by cases h;exact ⟨_,_,_,_,_,_,_,_,_,rfl,hS,by rw [List.map_nil,List.append_nil],ho⟩
 | u :: r,k,out,S,v,hS,h,ho=>by
  rw [nK] at h
  obtain ⟨⟨x,S1⟩,h1,h⟩:=bs h
  rw [pl] at h
  obtain ⟨w,hw',h⟩:=bs h
  obtain ⟨_,rfl⟩:=vJ hw'
  obtain ⟨k1,k2,k3⟩:=hf _ _ _ _ _ V h1 (hS.wd hw)
  obtain ⟨o,a1,a2,a3,a4,a5,a6,a7,a8,e,h2,h3,h4⟩:=FT hf hw r _ _ S1 v (hS.trans k1) h (fun z=>nP (ho (k1.e z)) (k3 z))
  exact ⟨o,a1,a2,a3,a4,a5,a6,a7,a8,e,h2,by rw [h3,List.map_append,List.append_assoc,List.map_cons,List.map_cons,k2];rfl,h4⟩
theorem Rx (hf:Xe f):Zg (qZ fu g f):=by
 intro S l ln l' S' V h hw
 unfold qZ at h
 obtain ⟨v,hv,h⟩:=bs h
 obtain ⟨o,a1,a2,a3,a4,a5,a6,a7,a8,rfl,h2,h3,h4⟩:=FT hf hw l _ _ S v .rfl' hv (fun _ y hy=>by cases hy)
 replace h:=gi h
 simp only [pl] at h
 cases h
 exact ⟨h2,h3,h4⟩
end
theorem I7:∀ fu:Nat,Xe (xJ fu)∧Zg (rE fu)
 | 0=>⟨fun _ _ _ _ _ _ h=>(by cases h),fun _ _ _ _ _ _ h=>(by cases h)⟩
 | fu+1=>⟨UZ (I7 fu).2,Rx (I7 fu).1⟩
end Go.Proofs.Ytfglbdkfnphjgaa
