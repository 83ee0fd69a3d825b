/- The interpreter's mirror answers for enough fuel; its events grow, and show what fits. -/
import Derived.Test.YtfglbdkfnphjgaaZ18
import Derived.Test.YtfglbdkfnphjgaaZ6
set_option linter.unusedVariables false
set_option linter.unusedSimpArgs false
namespace Go.Proofs.Ytfglbdkfnphjgaa
open Go.RowKit Go.Fw
theorem Zc {α:Type} {l:List α} {i:Int} {x:α} (h:ix? l i=some x):∃ k:Nat,i=(k:Int)∧l[k]?=some x:=by
 unfold ix? at h
 split at h
 · cases h
 · exact ⟨i.toNat,by omega,h⟩
def GV (s:jK) (e:kV):Prop:=∃ gs:List tZ,e.a=gs.map (Ho s)∧gs.length≤20∧∀ g ∈ gs,Fit s g
structure Od (s:jK) (N:Nat) (S:Sg):Prop where
 hl:S.hist.length≤N
 ol:S.out.length≤S.hist.length
 fit:Fit s S.a
 ev:∀ e ∈ S.hist,GV s e
structure Nw (s:jK) (N:Nat) (S S':Sg):Prop where
 gd:Od s N S'
 hp:S.hist <+: S'.hist
 op:S.out <+: S'.out
theorem Nw.rfl' {s:jK} {N:Nat} {S:Sg} (h:Od s N S):Nw s N S S:=⟨h,List.prefix_rfl,List.prefix_rfl⟩
theorem Nw.trans {s:jK} {N:Nat} {S S1 S2:Sg} (h:Nw s N S S1) (k:Nw s N S1 S2):Nw s N S S2:=⟨k.gd,h.hp.trans k.hp,h.op.trans k.op⟩
theorem Ka {ev:jA→Option (Pn Int)} {l:List jA} {S:Sg} {β:Type} {k:Int→Option (Pn β × Sg)} {P:Pn β × Sg→Prop} (h:∀ y ∈ l,Yes (ev y)) (hp:∀ p,P (p,S)) (hk:∀ n,kD (k n) P):kD (one ev l S k) P:=by
 unfold one
 cases l with
 | nil=>exact .mk (hp _)
 | cons x l=>
  refine .bd (h x (.head _)) fun p _=>?_
  cases p with
  | ok n=>exact hk n
  | _=>exact .mk (hp _)
theorem Pf {ev:jA→Option (Pn Int)} {ws:List (List Int)} {l:List jA} {S:Sg} {β:Type} {k:Nat × Nat→Option (Pn β × Sg)} {P:Pn β × Sg→Prop} (h:∀ y ∈ l,Yes (Q0 ev ws y)) (hp:∀ p,P (p,S)) (hk:∀ n,kD (k n) P):kD (Oo ev ws l S k) P:=by
 unfold Oo
 cases l with
 | nil=>exact .mk (hp _)
 | cons x l=>
  refine .bd (h x (.head _)) fun p _=>?_
  cases p with
  | ok n=>exact hk n
  | _=>exact .mk (hp _)
theorem Qh:∀ (l:List jV) (acc:List (List Int)),acc.length+l.length≤1000000000→kD (Fq l acc) (fun p=>∀ ws,p=.ok ws→ws.map List.length=acc.map List.length ++ l.map (fun x=>x.a.toNat)∧∀ x ∈ l,0≤x.a∧x.a≤8)
 | [],acc,_=>.mk fun ws h=>by cases h;exact ⟨by rw [List.map_nil,List.append_nil],fun x hx=>by cases hx⟩
 | v :: l,acc,hn=>by
  rw [List.length_cons] at hn
  rw [Fq]
  refine .ite (fun _=>.mk fun ws h=>by cases h) fun c=>.bd (.app (by simp only [List.length_cons,List.length_nil];omega)) fun r hr=>?_
  subst hr
  refine (Qh l _ (by rw [kI];omega)).imp fun p hp ws hw=>?_
  obtain ⟨h1,h2⟩:=hp ws hw
  refine ⟨by rw [h1,List.map_append,List.append_assoc];simp,fun x hx=>?_⟩
  rcases List.mem_cons.1 hx with rfl | hx
  · omega
  · exact h2 x hx
theorem Np:∀ (l:List Int) (i:Nat) (ws ws':List (List Int)),IC l i ws=.ok ws'→ws'.map List.length=ws.map List.length
 | [],_,ws,ws',h=>by cases h;rfl
 | v :: l,i,ws,ws',h=>by
  rw [IC] at h
  cases hw:ws[i]? with
  | none=>rw [hw] at h;cases h
  | some row=>
   rw [hw] at h
   cases row with
   | nil=>cases h
   | cons z row=>
    rw [Np l _ _ ws' h,List.map_set]
    exact set_self (by rw [List.getElem?_map,hw];rfl)
section
variable {s:jK} {N:Nat}
theorem Wi {sm:Sm} {M n:Nat} (hS:∀ S x,M≤S.hist.length→Od s N S→G9 n x→kD (sm S x) (fun r=>Nw s N S r.2)):∀ (l:List jO) (S:Sg),M≤S.hist.length→Od s N S→(∀ y ∈ l,G9 n y)→kD (JF sm S l) (fun r=>Nw s N S r.2)
 | [],S,_,h,_=>.mk (.rfl' h)
 | x :: l,S,hM,h,hl=>by
  rw [JF]
  refine .bd (hS S x hM h (hl x (.head _))) fun r hr=>?_
  obtain ⟨p,S1⟩:=r
  have k:=Wi hS l S1 (Nat.le_trans hM hr.hp.length_le) hr.gd (fun y hy=>hl y (.tail _ hy))
  cases p with
  | ok o=>
   cases o with
   | none=>exact k.imp fun r h=>hr.trans h
   | some v=>exact .mk hr
  | _=>exact .mk hr
structure Cl (s:jK) (N:Nat) (hist:List kV) (out:List Int) (h:List kV) (o:List Int):Prop where
 hl:h.length≤N
 ol:o.length≤h.length
 ev:∀ e ∈ h,GV s e
 hp:hist <+: h
 op:out <+: o
theorem Qs (hs:CI s) {sm:List tZ→Sm} {stk:List tZ} {f:Int} {args:List Int} {hist:List kV} {out:List Int} (h1:hist.length≤N) (h2:out.length≤hist.length) (h3:∀ e ∈ hist,GV s e)
  (hS:stk.length≤19→∀ S x n,n≤10→hist.length≤S.hist.length→Od s N S→G9 n x→kD (sm stk S x) (fun r=>Nw s N S r.2)):kD (D9 sm s stk f args hist out) (fun r=>Cl s N hist out r.2.1 r.2.2):=by
 have hC:Cl s N hist out hist out:=⟨h1,h2,h3,List.prefix_rfl,List.prefix_rfl⟩
 unfold D9
 refine .ite (fun _=>.mk hC) fun c=>?_
 cases hV:ix? s.b f with
 | none=>exact .mk hC
 | some vars=>
 obtain ⟨k,rfl,hk⟩:=Zc hV
 have h24:=hs.vn vars (List.mem_of_getElem? hk)
 refine .bd (Qh vars [] (by simp only [List.length_nil];omega)) fun p hp=>?_
 cases p with
 | ok ws=>
  obtain ⟨h4,h5⟩:=hp ws rfl
  cases hA:IC args 0 ws with
  | ok ws'=>
   simp only [hA]
   cases hF:ix? s.a.b (k:Int) with
   | none=>exact .mk hC
   | some fn=>
    obtain ⟨k2,_,hk2⟩:=Zc hF
    have hfit:Fit s ⟨(k:Int),0,ws'⟩:=⟨Int.natCast_nonneg k,vars,by dsimp only;rw [Int.toNat_natCast];exact hk,by dsimp only;rw [Np _ _ _ _ hA,h4];rfl,h5⟩
    refine .bd (Wi (M:=hist.length) (n:=10) (fun S x=>hS (by omega) S x 10 (Nat.le_refl _)) fn.d ⟨⟨(k:Int),0,ws'⟩,hist,out⟩ (Nat.le_refl _) ⟨h1,h2,hfit,h3⟩ (hs.fx fn (List.mem_of_getElem? hk2))) fun r hr=>?_
    exact .mk ⟨hr.gd.hl,hr.gd.ol,hr.gd.ev,hr.hp,hr.op⟩
  | _=>simp only [hA];exact .mk hC
 | _=>exact .mk hC
theorem Py {rest:List tZ} {S:Sg} {id:Int} (h:Od s N S) (hr:∀ g ∈ rest,Fit s g) (hn:rest.length≤19) (hN:S.hist.length < N):Nw s N S (SA s rest S id):=by
 have hf:Fit s ⟨S.a.f,id,S.a.ws⟩:=h.fit
 refine ⟨⟨by unfold SA;rw [kI];omega,by unfold SA;rw [kI];exact Nat.le_succ_of_le h.ol,hf,om h.ev ⟨_,rfl,by rw [List.length_cons];omega,fun g hg=>?_⟩⟩,List.prefix_append _ _,List.prefix_rfl⟩
 rcases List.mem_cons.1 hg with rfl | hg
 · exact hf
 · exact hr g hg
theorem XV (hs:CI s) {rest:List tZ} (hr:∀ g ∈ rest,Fit s g) (hn:rest.length≤19) {fv:Nat} {id:Int} {M:Nat} {cond:Sg→Option (Pn Int)} {body:Sg→Option (Pn (Option Int) × Sg)} (hc:∀ S,Yes (cond S)) (hb:∀ S,M≤S.hist.length→Od s N S→kD (body S) (fun r=>Nw s N S r.2)) :
  ∀ (n:Nat) (S:Sg),M≤S.hist.length→Od s N S→N - S.hist.length+1≤n→kD (WT cond body (fun S=>event (jM fv s) N rest S id) n S) (fun r=>Nw s N S r.2)
 | 0,S,_,_,h=>by omega
 | n+1,S,hM,h,hn'=>by
  rw [WT]
  refine .bd (hc S) fun p _=>?_
  cases p with
  | ok v=>
   refine .ite (fun _=>.mk (.rfl' h)) fun _=>.bd (hb S hM h) fun r hr1=>?_
   obtain ⟨p,S1⟩:=r
   cases p with
   | ok o=>
    cases o with
    | none=>
     have hl:=hr1.hp.length_le
     dsimp only at hl hr1 ⊢
     rw [KU hs.vn hr1.gd.fit hr (by omega)]
     by_cases hN:N≤S1.hist.length
     · rw [if_pos hN];exact .mk hr1
     · rw [if_neg hN]
       have k:=Py (id:=id) hr1.gd hr hn (by omega)
       refine (XV hs hr hn hc hb n _ (Nat.le_trans hM (Nat.le_trans hl k.hp.length_le)) k.gd (by unfold SA;rw [kI];omega)).imp fun r h=>(hr1.trans k).trans h
    | some v=>exact .mk hr1
   | _=>exact .mk hr1
  | _=>exact .mk (.rfl' h)
theorem RB (hs:CI s) {sm:List tZ→Sm} {rest:List tZ} {fu:Nat} {S:Sg} {x:jO} {k:Int→Sg→Option (Pn (Option Int) × Sg)} (h:Od s N S) (hr:∀ g ∈ rest,Fit s g) (hA:x.a.length≤5000∧∀ y ∈ x.a,zn 5000 y) (hf:5000≤fu)
  (hS:rest.length≤18→∀ S' x n,n≤10→S.hist.length≤S'.hist.length→Od s N S'→G9 n x→kD (sm (S.a :: rest) S' x) (fun r=>Nw s N S' r.2)) (hk:∀ v h o,Cl s N S.hist S.out h o→kD (k v ⟨S.a,h,o⟩) (fun r=>Nw s N S r.2)) :
  kD (F5 sm s rest fu S x k) (fun r=>Nw s N S r.2):=by
 unfold F5
 refine .bd (Tn x.a [] (fun y hy=>Si fu 5000 _ y (hA.2 y hy) hf) (by simp only [List.length_nil];omega)) fun p _=>?_
 cases p with
 | ok l=>
  refine .bd (Qs hs h.hl h.ol h.ev (fun h19=>hS (by rw [List.length_cons] at h19;omega))) fun r hr=>?_
  obtain ⟨p,h',o⟩:=r
  have hc:Nw s N S ⟨S.a,h',o⟩:=⟨⟨hr.hl,hr.ol,h.fit,hr.ev⟩,hr.hp,hr.op⟩
  cases p with
  | ok v=>exact hk v h' o hr
  | _=>exact .mk hc
 | _=>exact .mk (.rfl' h)
theorem YD (hs:CI s) (hN:N≤5000) {fv:Nat}:∀ (fu:Nat) (rest:List tZ) (S:Sg) (x:jO) (n:Nat),(∀ g ∈ rest,Fit s g)→rest.length≤19→Od s N S→G9 n x→n≤10→5001+(N - S.hist.length)≤fu→
  kD (stM (jM fv s) s N fu rest S x) (fun r=>Nw s N S r.2)
 | 0,_,_,_,_,_,_,_,_,_,h=>by omega
 | fu+1,rest,S,x,n,hr,hn,h,hx,hn10,hf=>by
  cases n with
  | zero=>exact hx.elim
  | succ n=>
  obtain ⟨x1,x2,x3,x4⟩:=hx
  rw [stM,KU hs.vn h.fit hr (by omega)]
  by_cases hN2:N≤S.hist.length
  · rw [if_pos hN2];exact .mk (.rfl' h)
  rw [if_neg hN2]
  have k:=Py (id:=x.n) h hr hn (by omega)
  have hl:(SA s rest S x.n).hist.length=S.hist.length+1:=kI
  have ho:(SA s rest S x.n).out.length+1≤(SA s rest S x.n).hist.length:=by rw [hl];exact Nat.succ_le_succ h.ol
  generalize SA s rest S x.n=E at k hl ho
  refine kD.imp (Q:=fun r=>Nw s N E r.2) ?_ fun r h=>k.trans h
  have hE:=k.gd
  show kD (if x.e=1 then _ else _) _
  have ihs:∀ (rest:List tZ),(∀ g ∈ rest,Fit s g)→rest.length≤19→∀ S' x n,n≤10→E.hist.length≤S'.hist.length→Od s N S'→G9 n x→kD (stM (jM fv s) s N fu rest S' x) (fun r=>Nw s N S' r.2):=
    fun rest hr hn S' x n h10 hl' hG hX=>YD hs hN fu rest S' x n hr hn hG hX h10 (by omega)
  have hcall:∀ {k:Int→Sg→Option (Pn (Option Int) × Sg)},(∀ v h o,Cl s N E.hist E.out h o→kD (k v ⟨E.a,h,o⟩) (fun r=>Nw s N E r.2))→kD (F5 (stM (jM fv s) s N fu) s rest fu E x k) (fun r=>Nw s N E r.2):=fun hk=>
    RB hs hE hr x2 (by omega) (fun h18=>ihs (E.a :: rest) (fun g hg=>by
      rcases List.mem_cons.1 hg with rfl | hg
      · exact hE.fit
      · exact hr g hg) (by rw [List.length_cons];omega)) hk
  have hls:∀ (l:List jO) (S':Sg),E.hist.length≤S'.hist.length→Od s N S'→(∀ y ∈ l,G9 n y)→kD (JF (stM (jM fv s) s N fu rest) S' l) (fun r=>Nw s N S' r.2):=
    Wi (M:=E.hist.length) (n:=n) fun S' x=>ihs rest hr hn S' x n (by omega)
  have hev:∀ ws,∀ y ∈ x.a,Yes (CX fu ws y):=fun ws y hy=>Si fu 5000 ws y (x2.2 y hy) (by omega)
  have hwd:∀ ws,∀ y ∈ x.c,Yes (Q0 (CX fu ws) ws y):=fun ws y hy=>Xo fun z hz=>Si fu 5000 ws z (zn.mono (n:=4999) ((x1 y hy).2 z hz) (by decide)) (by omega)
  refine .ite (fun _=>?_) fun _=>.ite (fun _=>?_) fun _=>.ite (fun _=>?_) fun _=>.ite (fun _=>?_) fun _=>.ite (fun _=>?_) fun _=>.ite (fun _=>?_) fun _=>.ite (fun _=>?_) fun _=>.ite (fun _=>?_) fun _=>.ite (fun _=>?_) fun _=>.ite (fun _=>?_) fun _=>?_
  · cases hi:ix? E.a.ws x.g with
    | none=>exact .mk (.rfl' hE)
    | some l=>
      obtain ⟨q,hq,hql⟩:=Zc hi
      exact .mk ⟨⟨hE.hl,hE.ol,by
        rw [show x.g.toNat=q from by omega]
        exact Fit.put (st:=E.a.st) hE.fit hql (List.length_replicate ..),hE.ev⟩,List.prefix_rfl,List.prefix_rfl⟩
  · exact Pf (hwd _) (fun p=>.rfl' hE) fun q=>Ka (hev _) (fun p=>.rfl' hE) fun v=>.mk ⟨⟨hE.hl,hE.ol,Fit.word (st:=E.a.st) hE.fit,hE.ev⟩,List.prefix_rfl,List.prefix_rfl⟩
  · refine hcall fun v h' o hC=>?_
    have hc:Nw s N E ⟨E.a,h',o⟩:=⟨⟨hC.hl,hC.ol,hE.fit,hC.ev⟩,hC.hp,hC.op⟩
    exact .ite (fun _=>.mk hc) fun _=>Pf (hwd _) (fun p=>hc) fun q=>.mk ⟨⟨hC.hl,hC.ol,Fit.word (st:=E.a.st) hE.fit,hC.ev⟩,hC.hp,hC.op⟩
  · refine Ka (hev _) (fun p=>.rfl' hE) fun v=>hls _ _ (Nat.le_refl _) hE fun y hy=>?_
    split at hy
    · exact x3 y hy
    · exact x4 y hy
  · refine XV (M:=E.hist.length) hs hr hn (fun S=>?_) (fun S' hM hG=>hls _ _ hM hG x3) fu E (Nat.le_refl _) hE (by omega)
    cases hA:x.a with
    | nil=>exact .mk trivial
    | cons y l=>exact hev _ y (by rw [hA];exact .head _)
  · exact .ite (fun _=>hcall fun v h' o hC=>.mk ⟨⟨hC.hl,hC.ol,hE.fit,hC.ev⟩,hC.hp,hC.op⟩) fun _=>Ka (hev _) (fun p=>.rfl' hE) fun v=>.mk (.rfl' hE)
  · exact Ka (hev _) (fun p=>.rfl' hE) fun v=>.mk (.rfl' hE)
  · refine .bd (hls _ _ (Nat.le_refl _) hE x3) fun r hr1=>?_
    obtain ⟨p,S1⟩:=r
    cases p with
    | Es v=>
      dsimp only
      cases hi:ix? S1.a.ws x.g with
      | none=>exact .mk hr1
      | some row=>
        obtain ⟨q,hq,hql⟩:=Zc hi
        cases row with
        | nil=>exact .mk hr1
        | cons z row=>
         have hk2:Nw s N S1 { S1 with a:={ S1.a with ws:=S1.a.ws.set x.g.toNat (v :: row) } }:=⟨⟨hr1.gd.hl,hr1.gd.ol,by
          rw [show x.g.toNat=q from by omega]
          exact Fit.put (st:=S1.a.st) hr1.gd.fit hql rfl,hr1.gd.ev⟩,List.prefix_rfl,List.prefix_rfl⟩
         exact (hls x.h { S1 with a:={ S1.a with ws:=S1.a.ws.set x.g.toNat (v :: row) } } hr1.hp.length_le hk2.gd x4).imp fun r h=>(hr1.trans hk2).trans h
    | _=>exact .mk hr1
  · refine Ka (hev _) (fun p=>.rfl' hE) fun v=>.bd (.app (by have:=hE.hl;simp only [List.length_cons,List.length_nil];omega)) fun o ho'=>?_
    subst ho'
    exact .mk ⟨⟨hE.hl,by dsimp only;rw [kI];omega,hE.fit,hE.ev⟩,List.prefix_rfl,List.prefix_append _ _⟩
  · exact .mk (.rfl' hE)
  · exact .mk (.rfl' hE)
end
end Go.Proofs.Ytfglbdkfnphjgaa
set_option linter.unusedVariables false
namespace Go.Proofs.Ytfglbdkfnphjgaa
open Go.RowKit Go.Fw
structure Ao where
 b:Nat
 A:Option Addr
 c:Nat
 R:List Nat
def FQ (w:World):List Nat→List (List Int)→Prop
 | [],[]=>True
 | r :: R,l :: m=>mI w r 3 (l.map V).toArray∧FQ w R m
 | _,_=>False
def FJ:List Nat→List (List Int)→List Value
 | r :: R,l :: m=>.slice (some ⟨r,0,none⟩) l.length l.length :: FJ R m
 | _,_=>[]
theorem FQ.len {w:World}:∀ {R:List Nat} {m:List (List Int)},FQ w R m→R.length=m.length
 | [],[],_=>rfl
 | _ :: _,_ :: _,h=>congrArg (·+1) (FQ.len h.2)
 | [],_ :: _,h=>h.elim
 | _ :: _,[],h=>h.elim
theorem FQ.get {w:World}:∀ {R:List Nat} {m:List (List Int)} {k:Nat} {l:List Int},FQ w R m→m[k]?=some l→∃ r,R[k]?=some r∧mI w r 3 (l.map V).toArray
 | r :: _,_ :: _,0,l,h,hx=>by simp only [List.getElem?_cons_zero,Option.some.injEq] at hx;subst hx;exact ⟨r,rfl,h.1⟩
 | _ :: _,_ :: _,k+1,l,h,hx=>FQ.get (k:=k) h.2 (by simpa using hx)
 | [],[],_,_,_,hx=>by simp at hx
 | [],_ :: _,_,_,h,_=>h.elim
 | _ :: _,[],_,_,h,_=>h.elim
theorem FQ.mem {w:World}:∀ {R:List Nat} {m:List (List Int)} {r:Nat},FQ w R m→r ∈ R→r < w.heap.size
 | _ :: _,_ :: _,r,h,hr=>by
  rcases List.mem_cons.1 hr with rfl | hr
  · exact h.1.lt
  · exact FQ.mem h.2 hr
 | [],[],_,_,hr=>by cases hr
 | [],_ :: _,_,h,_=>h.elim
 | _ :: _,[],_,h,_=>h.elim
theorem FQ.st {w w':World}:∀ {R:List Nat} {m:List (List Int)},FQ w R m→(∀ b ∈ R,w'.heap[b]?=w.heap[b]?)→FQ w' R m
 | _ :: _,_ :: _,h,k=>⟨by have:=h.1;unfold mI at this ⊢;rw [k _ (List.mem_cons_self ..)];exact this,FQ.st h.2 fun b hb=>k b (List.mem_cons_of_mem _ hb)⟩
 | [],[],_,_=>trivial
 | [],_ :: _,h,_=>h.elim
 | _ :: _,[],h,_=>h.elim
theorem ES:∀ {R:List Nat} {m:List (List Int)} {k r:Nat} {l:List Int},R[k]?=some r→m[k]?=some l→(FJ R m)[k]?=some (.slice (some ⟨r,0,none⟩) l.length l.length)
 | _ :: _,_ :: _,0,_,_,h,k=>by simp only [List.getElem?_cons_zero,Option.some.injEq] at h k;subst h k;rfl
 | _ :: _,_ :: _,k+1,_,_,h,hk=>ES (k:=k) (by simpa using h) (by simpa using hk)
 | [],_,_,_,_,h,_=>by simp at h
 | _,[],_,_,_,_,h=>by simp at h
def It.act (x:Ao) (g:tZ):It where
 F k:=k=x.b ∨ rowOf x.A=some k ∨ k ∈ x.R
 p w:=mI w x.b 120 #[V g.f,V g.st,.slice x.A g.ws.length x.c]∧FQ w x.R g.ws∧Go.Fw.Own w 0 22 1 x.A g.ws.length x.c (FJ x.R g.ws)∧x.b ∉ x.R∧rowOf x.A≠some x.b∧(∀ r ∈ x.R,rowOf x.A≠some r)∧x.R.Nodup∧∀ l ∈ g.ws,l.length≤8
 bd w h k hk:=by
  obtain ⟨h1,h2,h3,_⟩:=h
  rcases hk with rfl | hk | hk
  · exact h1.lt
  · exact (h3.row k hk).2
  · exact h2.mem hk
 st w w' h k hs:=by
  obtain ⟨h1,h2,h3,h4⟩:=h
  refine ⟨?_,h2.st fun b hb=>k b (.inr (.inr hb)),Go.Fw.Own.same h3 fun b hb=>k b (.inr (.inl hb)),h4⟩
  unfold mI at h1 ⊢;rw [k _ (.inl rfl)];exact h1
section
variable {w:World} {x:Ao} {g:tZ} {k:Nat} {l:List Int}
theorem It.zf (h:(It.act x g).p w):mI w x.b 120 #[V g.f,V g.st,.slice x.A g.ws.length x.c]:=h.1
theorem EG {w:World} {base:Nat} {e:TypeId} {n c k:Nat} {A:Option Addr} {xs:List Value} {v:Value} (h:Go.Fw.Own w base e 1 A n c xs) (hv:xs[k]?=some v):A=some ⟨nN A,oU A,none⟩∧w.cell? ⟨nN A,oU A+k,none⟩=some v∧oU A=0:=by
 rcases h.blk with ⟨_,_,_,h4⟩|⟨q,cur,h1,_,h3,_,_,_,h7⟩
 · subst h4;simp at hv
 · subst h1
   refine ⟨rfl,?_,rfl⟩
   show w.cell? ⟨q,0+k,none⟩=_
   rw [Nat.zero_add]
   refine h3.cell ?_
   have:cur.toList[k]?=some v:=by rw [← h7,List.getElem?_take] at hv;split at hv;exact hv;cases hv
   simpa using this
theorem It.zU (h:(It.act x g).p w) (hk:g.ws[k]?=some l):∃ r,x.R[k]?=some r∧mI w r 3 (l.map V).toArray∧x.A=some ⟨nN x.A,oU x.A,none⟩∧w.cell? ⟨nN x.A,oU x.A+k,none⟩=some (.slice (some ⟨r,0,none⟩) l.length l.length):=by
 obtain ⟨r,h1,h2⟩:=h.2.1.get hk
 have h3:=EG h.2.2.1 (ES h1 hk)
 exact ⟨r,h1,h2,h3.1,h3.2.1⟩
end
end Go.Proofs.Ytfglbdkfnphjgaa
set_option linter.unusedVariables false
set_option maxRecDepth 4000
set_option maxHeartbeats 12800000
namespace Go.Proofs.Ytfglbdkfnphjgaa
open Go.RowKit Go.Fw
theorem R8:∃ D,Try.prog.underlying 90=some D∧(match D with | .interface _=>false | _=>true)=true:=⟨_,Try.underlying90,rfl⟩
theorem OQ:∃ D,Try.prog.underlying 91=some D∧(match D with | .interface _=>false | _=>true)=true:=⟨_,Try.underlying91,rfl⟩
def Pb {α:Type}:Pn α→List PanicEntry→Prop
 | .ok _,_=>False
 | .Es v,c=>Yn (.iface 90 (V v)) c
 | .err e,c=>Yn (.iface 91 (V e)) c
 | .rt,c=>∃ u,Yn (.iface Try.prog.rt.boundsError u) c
theorem Ez:jC Try.prog 121:=⟨_,Try.func121,by kernel_rfl,by kernel_rfl⟩
theorem Oc {op x y:Int} {w:World}:Calls Try.prog 122 #[V op,V x,V y] w (RP (fun v w'=>∃ n,RZ op x y=.ok n∧v=V n∧w'=w) (fun c w'=>Pb (RZ op x y) c∧w'=w)):=by
 refine vU Try.func122 rfl ?_
 refine lM [(0,V op),(1,V x),(2,V y)] ⟨rfl,rfl,rfl,trivial⟩ fun av=>?_
 refine go ?_
 unfold RZ
 refine qy rfl (fun h=>?_) (fun h=>?_)
 · refine go ?_
   exact kU (jB rfl (lq rfl) ⟨_,by rw [if_pos h],rfl,rfl⟩)
 rw [if_neg h]
 refine go ?_
 refine qy rfl (fun h=>?_) (fun h=>?_)
 · refine go ?_
   exact kU (jB rfl (lq rfl) ⟨_,by rw [if_pos h],rfl,rfl⟩)
 rw [if_neg h]
 refine go ?_
 refine qy rfl (fun h=>?_) (fun h=>?_)
 · refine go ?_
   exact kU (jB rfl (lq rfl) ⟨_,by rw [if_pos h],rfl,rfl⟩)
 rw [if_neg h]
 refine go ?_
 refine nT (fun f w'=>w'=w∧Has f [(0,V op),(1,V x),(2,V y),(7,V op),(23,.bool (decide (op=9 ∨ op=10)))]) (fun J hJ=>?_) ?_
 · refine qy rfl (fun h=>?_) (fun h=>?_)
   · refine go ?_
     exact hJ _ _ ⟨rfl,rfl,rfl,rfl,rfl,congrArg Value.bool (decide_eq_decide.2 ⟨.inl,fun _=>h⟩),trivial⟩
   · refine go ?_
     exact hJ _ _ ⟨rfl,rfl,rfl,rfl,rfl,congrArg Value.bool (decide_eq_decide.2 ⟨.inr,fun z=>z.resolve_left h⟩),trivial⟩
 rintro f w1 ⟨rfl,hf⟩
 obtain ⟨av,rfl⟩:=fV _ _ hf
 clear hf
 refine go ?_
 refine qy rfl (fun hd=>?_) (fun hd=>?_)
 · refine go ?_
   refine qy rfl (fun hy=>?_) (fun hy=>?_)
   · refine go ?_
     refine jS (Iy R8 rfl) ?_
     refine Ad rfl ?_
     refine ⟨?_,rfl⟩
     rcases hd with hd | hd
     · rw [if_pos hd,if_pos hy];exact xH _
     · rw [if_neg (by omega),if_pos hd,if_pos hy];exact xH _
   refine go ?_
   refine qy rfl (fun h=>?_) (fun h=>?_)
   · refine go ?_
     refine jS (TA rfl rfl hy) ?_
     refine go ?_
     exact kU (jB rfl (lq rfl) ⟨_,by rw [if_pos h,if_neg hy],rfl,rfl⟩)
   refine go ?_
   refine jS (PZ rfl rfl hy) ?_
   refine go ?_
   exact kU (jB rfl (lq rfl) ⟨_,by rw [if_neg h,if_pos (hd.resolve_left h),if_neg hy],rfl,rfl⟩)
 rw [if_neg fun z=>hd (.inl z),if_neg fun z=>hd (.inr z)]
 refine go ?_
 refine qy rfl (fun h=>?_) (fun h=>?_)
 · refine go ?_
   exact kU (jB rfl (lq rfl) ⟨_,by rw [if_pos h],rfl,rfl⟩)
 rw [if_neg h]
 refine go ?_
 refine qy rfl (fun h=>?_) (fun h=>?_)
 · refine go ?_
   exact kU (jB rfl (lq rfl) ⟨_,by rw [if_pos h],rfl,rfl⟩)
 rw [if_neg h]
 refine go ?_
 refine qy rfl (fun h=>?_) (fun h=>?_)
 · refine go ?_
   exact kU (jB rfl (lq rfl) ⟨_,by rw [if_pos h],rfl,rfl⟩)
 rw [if_neg h]
 refine go ?_
 refine qy rfl (fun h=>?_) (fun h=>?_)
 · refine go ?_
   refine Dp (qg Ez rfl) Bf ?_
   rintro _ w2 ⟨rfl,rfl⟩
   refine go ?_
   exact kU (jB rfl (lq rfl) ⟨_,by rw [if_pos h],rfl,rfl⟩)
 rw [if_neg h]
 refine go ?_
 refine qy rfl (fun h=>?_) (fun h=>?_)
 · refine go ?_
   refine Dp (qg Ez rfl) Bf ?_
   rintro _ w2 ⟨rfl,rfl⟩
   refine go ?_
   exact kU (jB rfl (lq rfl) ⟨_,by rw [if_pos h],rfl,rfl⟩)
 rw [if_neg h]
 refine go ?_
 refine qy rfl (fun h=>?_) (fun h=>?_)
 · refine go ?_
   refine Dp (qg Ez rfl) Bf ?_
   rintro _ w2 ⟨rfl,rfl⟩
   refine go ?_
   exact kU (jB rfl (lq rfl) ⟨_,by rw [if_pos h],rfl,rfl⟩)
 rw [if_neg h]
 refine go ?_
 refine qy rfl (fun h=>?_) (fun h=>?_)
 · refine go ?_
   refine Dp (qg Ez rfl) Bf ?_
   rintro _ w2 ⟨rfl,rfl⟩
   refine go ?_
   exact kU (jB rfl (lq rfl) ⟨_,by rw [if_pos h],rfl,rfl⟩)
 rw [if_neg h]
 refine go ?_
 refine jS (Iy OQ rfl) ?_
 exact Ad rfl ⟨xH _,rfl⟩
end Go.Proofs.Ytfglbdkfnphjgaa
set_option linter.unusedVariables false
set_option maxRecDepth 4000
set_option maxHeartbeats 12800000
namespace Go.Proofs.Ytfglbdkfnphjgaa
open Go.RowKit Go.Fw
abbrev cE (e:jA) (a:Option Addr) (c:Nat):List Value:=[V e.e,V e.c,V e.g,T e.b,T e.d,.slice a e.a.length c]
section
variable {N:Fz} {ops:Array Oper} {K:KK} {rest:List Oper} {f:Fr} {w w0:World} {d1 d2:Nat} {ty ty2:TypeId} {pos pos2:String} {af af2:Array Edge} {y z:Operand} {Z G:Nat→Prop} {L:List It} {D:List Da}
theorem Tx (e:Bx w0 w Z G L D) (j:Nat) {a:Option Addr} {c:Nat} {l:List jA} {k:Nat} {i:Int} {x:jA} (hj:D[j]?=some (.l a c l)) (hk:l[k]?=some x) (h1:ev f y=.slice a l.length c) (h2:ev f z=V i) (hi:i=(k:Int))
  (h:∀ a2 c2,Bx w0 w Z G L (.l a2 c2 x.a :: D)→kM Try.prog N ops K rest (upd (upd f d1 (.pointer (some ⟨nN a,oU a+k * 6,none⟩))) d2 (.agg (cE x a2 c2).toArray)) w) :
  kM Try.prog N ops K (⟨some d1,.indexAddr 109 y z,ty,pos,af,none⟩ :: ⟨some d2,.load 138 (.tmp d1),ty2,pos2,af2,none⟩ :: rest) f w:=by
 obtain ⟨cs,hr,e2⟩:=e.nm j hj hk
 obtain ⟨a2,c2,rfl,hd⟩:=jA.out hr
 have e3:=e2.kr (d:=.l a2 c2 x.a) hd
 refine jS (kW Try.underlying109 jT h1 h2 hi (e.dl j hj) hk) ?_
 refine jS (mR (cE x a2 c2) Try.underlying138 rfl jT rfl (by show upd f d1 _ d1=_;unfold upd;rw [Nat.beq_refl];rfl) (e3.dc 1 rfl)) ?_
 exact h a2 c2 (e3.KT fun d hd=>by
  rcases List.mem_cons.1 hd with rfl | hd
  · exact List.mem_cons_self ..
  · exact List.mem_cons_of_mem _ (List.mem_cons_of_mem _ hd))
theorem Ai {t:TypeId} {d:Option Nat} {a:Option Addr} {n c:Nat} {i:Int} {t2:TypeId} (ht:Try.prog.underlying t=some (.slice t2)) (h1:ev f y=.slice a n c) (h2:ev f z=V i) (hi:¬ (0≤i∧i < n))
  (h:∀ u w',w'=w ∨ w'=w.drew→K.p f [⟨.iface Try.prog.rt.boundsError u,false,false⟩] w') :
  kM Try.prog N ops K (⟨d,.indexAddr t y z,ty,pos,af,none⟩ :: rest) f w:=by
 obtain ⟨w',v,hr,hw⟩:=MX (P:=Try.prog) (w:=w) (d:=d) (ty:=ty) (pos:=pos) (af:=af) (g:=none) ht h1 h2 hi
 exact TJ hr (h v w' hw)
end
theorem Px:jC Try.prog 101:=⟨_,Try.func101,by kernel_rfl,by kernel_rfl⟩
theorem Bn:jC Try.prog 102:=⟨_,Try.func102,by kernel_rfl,by kernel_rfl⟩
theorem VO:jC Try.prog 122:=⟨_,Try.func122,by kernel_rfl,by kernel_rfl⟩
def Zt {α:Type} (p:Pn α) (w:World) (ch:List PanicEntry) (w':World):Prop:=Pb p ch∧Ext w w'
def XL (evf:List (List Int)→jA→Option (Pn Int)):Prop:=∀ {w:World} {A:Nat→Prop} {rb:Nat} {x:Ao} {g:tZ} {e:jA} {a:Option Addr} {c:Nat} {p:Pn Int},Pre w A [] [.l a c e.a]→(It.act x g).p w→evf g.ws e=some p→
 Calls Try.prog 102 #[Pt rb,Pt x.b,.agg (cE e a c).toArray] w (RP (fun v w'=>∃ n,p=.ok n∧v=V n∧Ext w w') (Zt p w))
def ZK (evf:List (List Int)→jA→Option (Pn Int)):Prop:=∀ {w:World} {A:Nat→Prop} {rb:Nat} {x:Ao} {g:tZ} {e:jA} {a:Option Addr} {c:Nat} {p:Pn (Nat × Nat)},Pre w A [] [.l a c e.a]→(It.act x g).p w→Q0 (evf g.ws) g.ws e=some p→
 Calls Try.prog 101 #[Pt rb,Pt x.b,.agg (cE e a c).toArray] w (RP (fun v w'=>∃ k j r l,p=.ok (k,j)∧x.R[k]?=some r∧g.ws[k]?=some l∧j < l.length∧v=.pointer (some ⟨r,j,none⟩)∧Ext w w') (Zt p w))
theorem yu {x:Ao} {g:tZ} {w w':World} (h:(It.act x g).p w) (e:Ext w w'):(It.act x g).p w':=(It.act x g).st w w' h (fun b hb=>e.block b ((It.act x g).bd w h b hb)) e.size
theorem Pb.up {α β:Type} {p:Pn α} {ch:List PanicEntry} (h:Pb p ch):Pb (p.up:Pn β) ch:=by
 cases p with
 | ok a=>exact h.elim
 | _=>exact h
theorem Bh {w w1 w':World} (h:Ext w w1) (k:w'=w1 ∨ w'=w1.drew):Ext w w':=by
 rcases k with rfl | rfl
 · exact h
 · exact h.drew
theorem Qk {ef:List (List Int)→jA→Option (Pn Int)} (hE:XL ef) (hW:ZK ef) {fu:Nat} (hf:∀ ws e,ef ws e=CX fu ws e):XL (CX (fu+1)):=by
 intro w A rb x g e a c p hP ha hm
 have b:=hP.bx
 clear hP
 refine vU Try.func102 rfl ?_
 refine lM [(0,Pt rb),(1,Pt x.b),(2,.agg (cE e a c).toArray)] ⟨rfl,rfl,rfl,trivial⟩ fun av=>?_
 refine go ?_
 refine sV b (yY rfl) fun w1 b1 b=>?_
 refine goB b ?_
 rw [CX] at hm
 refine qy rfl (fun h=>?_) (fun h=>?_)
 · rw [if_pos h] at hm
   refine goB b ?_
   exact kU (jB rfl (lq rfl) ⟨_,(sm hm).symm,rfl,(b.tl).ex⟩)
 rw [if_neg h] at hm
 refine goB b ?_
 refine nT (fun f w'=>w'=w1∧Has f [(0,Pt rb),(1,Pt x.b),(5,Pt b1),(10,V e.e),(15,.bool (decide (e.e=1 ∨ e.e=2 ∨ e.e=3)))]) (fun J hJ=>?_) ?_
 · refine qy rfl (fun h=>?_) (fun h=>?_)
   · refine go ?_
     exact hJ _ _ ⟨rfl,rfl,rfl,rfl,rfl,congrArg Value.bool (decide_eq_decide.2 ⟨.inl,fun _=>h⟩),trivial⟩
   refine go ?_
   refine qy rfl (fun h2=>?_) (fun h2=>?_)
   · refine go ?_
     exact hJ _ _ ⟨rfl,rfl,rfl,rfl,rfl,congrArg Value.bool (decide_eq_decide.2 ⟨fun z=>.inr (.inl z),fun _=>h2⟩),trivial⟩
   refine go ?_
   exact hJ _ _ ⟨rfl,rfl,rfl,rfl,rfl,congrArg Value.bool (decide_eq_decide.2 ⟨fun z=>.inr (.inr z),fun z=>(z.resolve_left h).resolve_left h2⟩),trivial⟩
 rintro f w' ⟨rfl,hf'⟩
 obtain ⟨av,rfl⟩:=fV _ _ hf'
 clear hf'
 have hx:Ext w w':=(b.tl).ex
 refine go ?_
 refine qy rfl (fun h=>?_) (fun h=>?_)
 · rw [if_pos h] at hm
   obtain ⟨q,h1,hm⟩:=bs hm
   refine goB b ?_
   refine jS (ng (cE e a c) mU jT rfl (b.bk 0 rfl)) ?_
   refine IB (qg Px rfl) (hW (b.pr [] [0] [0] rfl) (yu ha hx) (by rw [← h1];congr 1;exact funext fun e=>hf ..)) (fun ch w2 hp=>?_) ?_
   · obtain ⟨hp,hx2⟩:=hp
     cases q with
     | ok r=>exact hp.elim
     | _=>obtain rfl:=sm hm;exact ⟨hp,hx.trans hx2⟩
   rintro _ w2 ⟨k,j,r,l,rfl,hr,hl,hj,rfl,hx2⟩
   obtain ⟨r',hr',hb,_⟩:=It.zU (yu (yu ha hx) hx2) hl
   rw [hr] at hr'
   obtain rfl:=Option.some.inj hr'
   refine go ?_
   refine Ue rfl hb (v:=V (Us g.ws (k,j))) ?_ ?_
   · show (l.map V).toArray[j]?=_
     simp only [List.getElem?_toArray,List.getElem?_map,Us]
     rw [List.getElem?_eq_getElem hj]
     simp [List.getD_eq_getElem?_getD,hl,hj]
   refine go ?_
   exact kU (jB rfl (lq rfl) ⟨_,(sm hm).symm,rfl,hx.trans hx2⟩)
 rw [if_neg h] at hm
 refine goB b ?_
 refine qy rfl (fun h=>?_) (fun h=>?_)
 · rw [if_pos h] at hm
   refine goB b ?_
   cases hA:e.a with
   | nil=>
     rw [hA] at hm
     exact Ai Try.underlying109 rfl rfl (by rw [hA];simp) fun u w2 hw=>by obtain rfl:=sm hm;exact ⟨⟨u,xH _⟩,Bh hx hw⟩
   | cons y l=>
     rw [hA] at hm
     obtain ⟨q,h1,hm⟩:=bs hm
     refine Tx b 0 rfl (show e.a[0]?=some y by rw [hA];rfl) rfl rfl rfl fun a2 c2 b=>?_
     refine goB b ?_
     refine IB (qg Bn rfl) (hE (b.pr [] [0] [0] rfl) (yu ha hx) (by rw [hf];exact h1)) (fun ch w2 hp=>?_) ?_
     · obtain ⟨hp,hx2⟩:=hp
       cases q with
       | ok r=>exact hp.elim
       | _=>obtain rfl:=sm hm;exact ⟨hp,hx.trans hx2⟩
     rintro _ w2 ⟨n,rfl,rfl,hx2⟩
     refine go ?_
     exact kU (jB rfl (lq rfl) ⟨_,(sm hm).symm,rfl,hx.trans hx2⟩)
 rw [if_neg h] at hm
 refine goB b ?_
 refine qy rfl (fun h=>?_) (fun h=>?_)
 · rw [if_pos h] at hm
   refine goB b ?_
   cases hA:e.a with
   | nil=>
     rw [hA] at hm
     exact Ai Try.underlying109 rfl rfl (by rw [hA];simp) fun u w2 hw=>by obtain rfl:=sm hm;exact ⟨⟨u,xH _⟩,Bh hx hw⟩
   | cons y l=>
     rw [hA] at hm
     obtain ⟨q,h1,hm⟩:=bs hm
     refine Tx b 0 rfl (show e.a[0]?=some y by rw [hA];rfl) rfl rfl rfl fun a2 c2 b=>?_
     refine goB b ?_
     refine IB (qg Bn rfl) (hE (b.pr [] [0] [0] rfl) (yu ha hx) (by rw [hf];exact h1)) (fun ch w2 hp=>?_) ?_
     · obtain ⟨hp,hx2⟩:=hp
       cases q with
       | ok r=>exact hp.elim
       | _=>obtain rfl:=sm hm;exact ⟨hp,hx.trans hx2⟩
     rintro _ w2 ⟨n,rfl,rfl,hx2⟩
     refine go ?_
     refine Dp (qg Ez rfl) Bf ?_
     rintro _ w3 ⟨rfl,rfl⟩
     refine go ?_
     exact kU (jB rfl (lq rfl) ⟨_,(sm hm).symm,rfl,hx.trans hx2⟩)
 rw [if_neg h] at hm
 refine goB b ?_
 cases hA:e.a with
 | nil=>
   rw [hA] at hm
   exact Ai Try.underlying109 rfl rfl (by rw [hA];simp) fun u w2 hw=>by obtain rfl:=sm hm;exact ⟨⟨u,xH _⟩,Bh hx hw⟩
 | cons y l=>
   rw [hA] at hm
   obtain ⟨q,h1,hm⟩:=bs hm
   refine Tx b 0 rfl (show e.a[0]?=some y by rw [hA];rfl) rfl rfl rfl fun a2 c2 b=>?_
   refine goB b ?_
   refine IB (qg Bn rfl) (hE (b.pr [] [0] [0] rfl) (yu ha hx) (by rw [hf];exact h1)) (fun ch w2 hp=>?_) ?_
   · obtain ⟨hp,hx2⟩:=hp
     cases q with
     | ok r=>exact hp.elim
     | _=>obtain rfl:=sm hm;exact ⟨hp,hx.trans hx2⟩
   rintro _ w2 ⟨n,rfl,rfl,hx2⟩
   replace b:=b.ext hx2
   replace hx:=hx.trans hx2
   refine goB b ?_
   cases l with
   | nil=>exact Ai Try.underlying109 rfl rfl (by rw [hA];simp) fun u w2 hw=>by obtain rfl:=sm hm;exact ⟨⟨u,xH _⟩,Bh hx hw⟩
   | cons z l=>
     obtain ⟨q,h1,hm⟩:=bs hm
     refine Tx b 1 rfl (show e.a[1]?=some z by rw [hA];rfl) rfl rfl rfl fun a3 c3 b=>?_
     refine goB b ?_
     refine IB (qg Bn rfl) (hE (b.pr [] [0] [0] rfl) (yu ha hx) (by rw [hf];exact h1)) (fun ch w2 hp=>?_) ?_
     · obtain ⟨hp,hx2⟩:=hp
       cases q with
       | ok r=>exact hp.elim
       | _=>obtain rfl:=sm hm;exact ⟨hp,hx.trans hx2⟩
     rintro _ w3 ⟨m,rfl,rfl,hx3⟩
     replace b:=b.ext hx3
     replace hx:=hx.trans hx3
     obtain rfl:=sm hm
     refine goB b ?_
     refine IB (qg VO rfl) Oc (fun ch w2 hp=>?_) ?_
     · obtain ⟨hp,rfl⟩:=hp
       exact ⟨hp,hx⟩
     rintro _ w4 ⟨r,hr,rfl,rfl⟩
     refine go ?_
     exact kU (jB rfl (lq rfl) ⟨_,hr,rfl,hx⟩)
theorem ZC {N:Fz} {ops:Array Oper} {K:KK} {rest:List Oper} {f:Fr} {w:World} {d1 d2:Nat} {ty ty2:TypeId} {pos pos2:String} {af af2:Array Edge} {y z:Operand} {x:Ao} {g:tZ} {k:Nat} {l:List Int} {i:Int}
  (ha:(It.act x g).p w) (hk:g.ws[k]?=some l) (h1:ev f y=.slice x.A g.ws.length x.c) (h2:ev f z=V i) (hi:i=(k:Int))
  (h:∀ r,x.R[k]?=some r→mI w r 3 (l.map V).toArray→kM Try.prog N ops K rest (upd (upd f d1 (.pointer (some ⟨nN x.A,oU x.A+k * 1,none⟩))) d2 (.slice (some ⟨r,0,none⟩) l.length l.length)) w) :
  kM Try.prog N ops K (⟨some d1,.indexAddr 118 y z,ty,pos,af,none⟩ :: ⟨some d2,.load 22 (.tmp d1),ty2,pos2,af2,none⟩ :: rest) f w:=by
 obtain ⟨r,h3,h4,h5,h6⟩:=It.zU ha hk
 rw [h5] at h1
 refine jS (xIdx k Try.underlying118 Aj h1 h2 hi (kT hk)) ?_
 refine jS (jP (a:=⟨nN x.A,oU x.A+k * 1,none⟩) Try.underlying22 rfl (by show upd f d1 _ d1=_;unfold upd;rw [Nat.beq_refl];rfl) (by rw [Nat.mul_one];exact h6)) ?_
 exact h r h3 h4
section
variable {P:Program} {N:Fz} {ops:Array Oper} {f:Fr} {w w0:World} {Z G:Nat→Prop} {L:List It} {D:List Da}
theorem Pm {Q:Post} {i:Nat} (h:Bx w0 w Z G L D) (E:World→Prop) (hE:E w.drew) (hm:P.follows .mixedOrders=true)
  (k:Bx w0 w.drew Z G L D∧E w.drew→rH P N ops (fun u=>Bx w0 u Z G L D∧E u) (fun _=>True) [] ⟨Q.n,Q.p⟩ ops.size (Array.replicate ops.size false) f w.drew):WP P N (.region i ops true) Q f w:=
 uY _ _ [] hm (k ⟨h.drew,hE⟩)
theorem KF {ρ:Operand→Value} {d:Option Nat} {ty:TypeId} {pos:String} {af:Array Edge} {g:Option (Nat × Bool)} {t e:TypeId} {x y:Operand} {A:Option Addr} {n c:Nat} {i:Int} {z:Value} {s by_:Nat} (j:Nat) (h5:A=some ⟨nN A,oU A,none⟩) (ht:P.underlying t=some (.slice e)) (he:TI P e z s by_) (hx:ρ x=.slice A n c)
  (hy:ρ y=V i) (hi:i=(j:Int)) (hj:j < n):Yl P ρ (.indexAddr t x y) d ty pos af g w (.pointer (some ⟨nN A,oU A+j * s,none⟩)):=by
 rw [h5] at hx
 exact xIdx j ht he hx hy hi hj
end
theorem JV {N:Fz} {ops:Array Oper} {S1 S:World→Prop} {T':List Nat} {K:KK} {f:Fr} {w:World} {n':Nat} {L:Array Bool} {i:Nat} {d:Option Nat} {t t2:TypeId} {y z:Operand} {ty:TypeId} {pos:String} {af:Array Edge} {a:Option Addr} {n c:Nat} {iv:Int}
  (hi:ops[i]?=some ⟨d,.indexAddr t y z,ty,pos,af,none⟩) (ht:Try.prog.underlying t=some (.slice t2)) (h1:ev f y=.slice a n c) (h2:ev f z=V iv) (hn:¬ (0≤iv∧iv < n))
  (h:∀ u w',w'=w ∨ w'=w.drew→∀ f,K.p f [⟨.iface Try.prog.rt.boundsError u,false,false⟩] w'):Au Try.prog N ops S1 S T' K n' L f w i:=by
 obtain ⟨w',v,hr,hw⟩:=MX (P:=Try.prog) (w:=w) (d:=d) (ty:=ty) (pos:=pos) (af:=af) (g:=none) ht h1 h2 hn
 exact Ug hi rfl hr (h v w' hw)
theorem FY {x:Ao} {g:tZ} {w:World} {k r:Nat} {l:List Int} (h:(It.act x g).p w) (hr:x.R[k]?=some r) (hk:g.ws[k]?=some l):w.cell? ⟨nN x.A,oU x.A+k * 1,none⟩=some (.slice (some ⟨r,0,none⟩) l.length l.length):=by
 obtain ⟨r',h1,_,_,h4⟩:=It.zU h hk
 rw [hr] at h1
 rw [Nat.mul_one,Option.some.inj h1]
 exact h4
theorem V9 {α:Type} {l:List α} {i:Int} {x:α} (h:ix? l i=some x):∃ k:Nat,i=(k:Int)∧l[k]?=some x:=by
 unfold ix? at h
 split at h
 · cases h
 · exact ⟨i.toNat,by omega,h⟩
theorem Ak {α:Type} {l:List α} {i:Int} (h:ix? l i=none):¬ (0≤i∧i < l.length):=by
 unfold ix? at h
 split at h
 · omega
 · have:=List.getElem?_eq_none_iff.1 h;omega
theorem Nn {ef:List (List Int)→jA→Option (Pn Int)} (hE:XL ef):ZK ef:=by
 intro w A rb x g e a c p hP ha hm
 have b:=hP.bx
 clear hP
 refine vU Try.func101 rfl ?_
 refine lM [(0,Pt rb),(1,Pt x.b),(2,.agg (cE e a c).toArray)] ⟨rfl,rfl,rfl,trivial⟩ fun av=>?_
 refine go ?_
 refine sV b (yY rfl) fun w1 b1 b=>?_
 refine jS (Me rfl) ?_
 refine goB b ?_
 have hx:Ext w w1:=(b.tl).ex
 refine Pm b (It.act x g).p (yu ha hx.drew) (by kernel_rfl) fun m=>?_
 replace b:=m.1
 replace hx:=hx.drew
 replace ha:=m.2
 refine pF 0 r (vQ r) m (pF 1 r (xn r) m (pF 2 r (CO r) m (uF 3 r (fun h=>Nb r (It.zf h.2) r) m (pF 4 r (Q7 r) m (uF 5 r (fun h=>JE r (h.1.bk 0 r) r) m ?_)))))
 unfold Q0 at hm
 cases hl:ix? g.ws e.g with
 | none=>
   rw [hl] at hm
   obtain rfl:=sm hm
   exact hO 6 (JV r Try.underlying118 r r (Ak hl) fun v w' hw _=>⟨⟨v,xH _⟩,Bh hx hw⟩)
 | some l=>
 rw [hl] at hm
 obtain ⟨k,hk,hl⟩:=V9 hl
 obtain ⟨r0,hr,hB,h5,_⟩:=It.zU ha hl
 refine pF 6 r (KF k h5 Try.underlying118 Aj r r hk (kT hl)) m (uF 7 r (fun h=>jP (a:=⟨nN x.A,oU x.A+k * 1,none⟩) Try.underlying22 r r (FY h.2 hr hl)) m (pF 8 r (mG r) m (hD ?_)))
 refine goB b ?_
 dsimp only at hm
 refine qy rfl (fun h=>?_) (fun h=>?_)
 · rw [if_pos h] at hm
   obtain rfl:=sm hm
   refine goB b ?_
   by_cases hn:0≤e.c∧e.c < l.length
   · rw [if_pos hn]
     obtain ⟨j,hj⟩:∃ j:Nat,e.c=(j:Int):=⟨e.c.toNat,by omega⟩
     refine jS (xIdx j Try.underlying22 mP rfl rfl hj (by omega)) ?_
     refine go ?_
     exact kU (jB rfl (lq (v:=.pointer (some ⟨r0,0+j * 1,none⟩)) rfl) ⟨k,j,r0,l,by rw [hk,hj];rfl,hr,hl,by omega,by rw [Nat.zero_add,Nat.mul_one],hx⟩)
   · rw [if_neg hn]
     exact Ai Try.underlying22 rfl rfl hn fun u w2 hw=>⟨⟨u,xH _⟩,Bh hx hw⟩
 rw [if_neg h] at hm
 refine goB b ?_
 refine qy rfl (fun h=>?_) (fun h=>?_)
 · rw [if_pos h] at hm
   refine goB b ?_
   cases hA:e.a with
   | nil=>
     rw [hA] at hm
     exact Ai Try.underlying109 rfl rfl (by rw [hA];simp) fun u w2 hw=>by obtain rfl:=sm hm;exact ⟨⟨u,xH _⟩,Bh hx hw⟩
   | cons y l2=>
     rw [hA] at hm
     obtain ⟨q,h1,hm⟩:=bs hm
     refine Tx b 0 rfl (show e.a[0]?=some y by rw [hA];rfl) rfl rfl rfl fun a2 c2 b=>?_
     refine goB b ?_
     refine IB (qg Bn rfl) (hE (b.pr [] [0] [0] rfl) ha h1) (fun ch w2 hp=>?_) ?_
     · obtain ⟨hp,hx2⟩:=hp
       cases q with
       | ok r=>exact hp.elim
       | _=>obtain rfl:=sm hm;exact ⟨hp,hx.trans hx2⟩
     rintro _ w2 ⟨n,rfl,rfl,hx2⟩
     replace hx:=hx.trans hx2
     replace b:=b.ext hx2
     obtain rfl:=sm hm
     refine go ?_
     by_cases hn:n < 0
     · rw [decide_eq_true hn]
       refine go ?_
       refine jS (Iy R8 rfl) ?_
       exact Ad rfl ⟨by rw [if_pos (.inl hn)];exact xH _,hx⟩
     rw [decide_eq_false hn]
     refine goB b ?_
     refine qy rfl (fun h=>?_) (fun h=>?_)
     · refine go ?_
       refine jS (Iy R8 rfl) ?_
       exact Ad rfl ⟨by rw [if_pos (.inr h)];exact xH _,hx⟩
     obtain ⟨j,rfl⟩:∃ j:Nat,n=(j:Int):=⟨n.toNat,by omega⟩
     refine go ?_
     refine jS (xIdx j Try.underlying22 mP rfl rfl rfl (by omega)) ?_
     refine go ?_
     exact kU (jB rfl (lq (v:=.pointer (some ⟨r0,0+j * 1,none⟩)) rfl) ⟨k,j,r0,l,by rw [if_neg (by omega),hk];rfl,hr,hl,by omega,by rw [Nat.zero_add,Nat.mul_one],hx⟩)
 rw [if_neg h] at hm
 obtain rfl:=sm hm
 refine goB b ?_
 cases l with
 | nil=>exact Ai Try.underlying22 rfl rfl (by simp) fun u w2 hw=>⟨⟨u,xH _⟩,Bh hx hw⟩
 | cons y l=>
   refine jS (xIdx 0 Try.underlying22 mP rfl rfl rfl (by simp)) ?_
   refine go ?_
   exact kU (jB rfl (lq (v:=.pointer (some ⟨r0,0+0 * 1,none⟩)) rfl) ⟨k,0,r0,_,by rw [if_neg (by simp),hk];rfl,hr,hl,by simp,by rw [Nat.zero_add,Nat.mul_one],hx⟩)
end Go.Proofs.Ytfglbdkfnphjgaa
set_option linter.unusedVariables false
set_option maxRecDepth 4000
set_option maxHeartbeats 12800000
namespace Go.Proofs.Ytfglbdkfnphjgaa
open Go.RowKit Go.Fw
theorem WM {t:Nat} (h:t < 9223372036854775807):wr ((t:Int)+1)=((t+1:Nat):Int):=by
 unfold wr;rw [QN (by omega) (by omega)];omega
def CVs (evf:List (List Int)→jA→Option (Pn Int)):Prop:=∀ {w:World} {A:Nat→Prop} {rb:Nat} {x:Ao} {g:tZ} {es:List jA} {a:Option Addr} {c:Nat} {p:Pn (List Int)},Pre w A [] [.l a c es]→(It.act x g).p w→Jh (evf g.ws) es []=some p→
 Calls Try.prog 103 #[Pt rb,Pt x.b,.slice a es.length c] w (RP (fun v w'=>∃ ns A1 c1,p=.ok ns∧v=.slice A1 ns.length c1∧Bx w w' A (lS []) [] [.l A1 c1 ns]) (Zt p w))
theorem Oh {ef:List (List Int)→jA→Option (Pn Int)} (hE:XL ef):CVs ef:=by
 intro w A rb x g es a c p hP ha hm
 have b:=hP.bx
 clear hP
 refine vU Try.func103 rfl ?_
 refine lM [(0,Pt rb),(1,Pt x.b),(2,.slice a es.length c)] ⟨rfl,rfl,rfl,trivial⟩ fun av=>?_
 have hbd:=(b.dl 0 rfl).bd
 replace b:=b.Bv Int 3
 refine goB b ?_
 refine kE (fun aw f w'=>∃ (t:Nat) (acc:List Int) (a1:Option Addr) (c1:Nat) (cs:List (List Value)),aw=es.length - t∧t≤es.length∧
     Has f [(0,Pt rb),(1,Pt x.b),(7,.slice a1 acc.length c1),(10,.slice a es.length c),(11,V (es.length:Int)),(12,V (t:Int))]∧
     Bx w w' A (lS []) [.own w.heap.size a1 c1 3 (Rp.sz Int) cs] [.els cs acc,.l a c es]∧Ext w w'∧Jh (ef g.ws) (es.drop t) acc=some p)
   es.length ⟨0,[],none,0,[],rfl,Nat.zero_le _,⟨rfl,rfl,rfl,rfl,rfl,rfl,trivial⟩,b,Ext.refl w,hm⟩ ?_
 clear b hm
 rintro aw f w1 ⟨t,acc,a1,c1,cs,rfl,ht,hf,b,hx,hm⟩ J hJ
 obtain ⟨av,rfl⟩:=fV _ _ hf
 clear hf
 refine goB b ?_
 refine qy rfl (fun h=>?_) (fun h=>?_)
 · obtain ⟨y,hy⟩:=lY (l:=es) (k:=t) (by omega)
   rw [lK hy,Jh] at hm
   obtain ⟨q,h1,hm⟩:=bs hm
   refine goB b ?_
   refine Tx b 1 rfl hy rfl rfl rfl fun a2 c2 b=>?_
   refine sV b (jU jT) fun w2 b9 b=>?_
   refine kZ (nU b 0 (cE y a2 c2) rfl jT rfl rfl) fun w3 b=>?_
   refine goB b ?_
   refine jS (ng (cE y a2 c2) mU jT rfl (b.bk 0 rfl)) ?_
   have hx3:Ext w w3:=b.ex
   refine IB (qg Bn rfl) (hE (b.pr [] [0,1] [0] rfl) (yu ha hx3) h1) (fun ch w2 hp=>?_) ?_
   · obtain ⟨hp,hx2⟩:=hp
     cases q with
     | ok r=>exact hp.elim
     | _=>obtain rfl:=sm hm;exact ⟨hp,hx3.trans hx2⟩
   rintro _ w4 ⟨n,rfl,rfl,hx2⟩
   replace b:=b.ext hx2
   replace hx3:=hx3.trans hx2
   obtain ⟨acc2,h2,hm⟩:=bs hm
   refine nM (jN b [[V n]] ([n]:List Int) (zF rfl) rfl rfl (by decide) ⟨rfl,trivial⟩) ?_
   rintro _ w5 ⟨b5,rfl,b⟩
   refine nM (kL b 2 2 rfl rfl sH mP rfl (by decide) (by decide) (Nat.le_refl _) rfl rfl (b.zN 0 0 rfl rfl) h2) ?_
   rintro _ w6 ⟨a4,c4,cs4,rfl,b⟩
   refine goB b ?_
   refine hJ (es.length - (t+1)) _ _ (by omega) ⟨t+1,acc2,a4,c4,cs4,rfl,by omega,⟨rfl,rfl,rfl,rfl,rfl,congrArg V (WM (by omega)),trivial⟩,b.ad [2] [2,3],b.ex,hm⟩
 · have:t=es.length:=by omega
   subst this
   rw [lu,Jh] at hm
   obtain rfl:=sm hm
   refine goB b ?_
   refine ug ?_
   refine goB b ?_
   refine kU (jB rfl (lq rfl) ⟨acc,a1,c1,rfl,rfl,?_⟩)
   exact (b.OB 0 0 rfl rfl).ad [] [0]
theorem Ie:∀ fu,XL (CX fu)
 | 0=>by intro _ _ h;cases h
 | fu+1=>Qk (Ie fu) (Nn (Ie fu)) fun _ _=>rfl
theorem Xp (fu:Nat):ZK (CX fu):=Nn (Ie fu)
theorem Xa (fu:Nat):CVs (CX fu):=Oh (Ie fu)
theorem OJ:jC Try.prog 103:=⟨_,Try.func103,by kernel_rfl,by kernel_rfl⟩
end Go.Proofs.Ytfglbdkfnphjgaa
set_option linter.unusedVariables false
set_option maxRecDepth 4000
set_option maxHeartbeats 12800000
namespace Go.Proofs.Ytfglbdkfnphjgaa
open Go.RowKit Go.Fw
structure SF where
 a1:Option Addr
 c1:Nat
 a2:Option Addr
 c2:Nat
 a3:Option Addr
 c3:Nat
 a4:Option Addr
 c4:Nat
abbrev Qj (s:SF) (x:jK):List Value:=[.slice s.a1 x.a.a.length s.c1,.slice s.a2 x.a.b.length s.c2,.slice s.a3 x.b.length s.c3,.slice s.a4 x.c.length s.c4]
abbrev ZJ (s:SF) (x:jK):List Da:=[.l s.a1 s.c1 x.a.a,.l s.a2 s.c2 x.a.b,.l s.a3 s.c3 x.b,.l s.a4 s.c4 x.c]
section
variable {ρ:Operand→Value} {w:World} {d:Option Nat} {ty:TypeId} {pos:String} {af:Array Edge} {g:Option (Nat × Bool)} {x y z:Operand} {n m:Int} {A B:Option Addr} {k c k2 c2:Nat}
theorem Pv (h:ρ x=Vi n) (h2:ρ y=Vi m):Yl Try.prog ρ (.build 53 #[(0,x),(1,y)]) d ty pos af g w (.agg #[Vi n,Vi m,sn]):=by
 have e:(Instr.build 53 #[(0,Vi n),(1,Vi m)]).run Try.prog w=.ok (.agg #[Vi n,Vi m,sn]) w:=by kernel_rfl
 simp [Yl,execOp,h,h2,e]
theorem Mj (h:ρ x=Vi n) (h2:ρ y=.slice A k c) (h3:ρ z=.slice B k2 c2):Yl Try.prog ρ (.build 57 #[(0,x),(1,y),(2,z)]) d ty pos af g w (.agg #[Vi n,.slice A k c,.slice B k2 c2]):=by
 have e:(Instr.build 57 #[(0,Vi n),(1,.slice A k c),(2,.slice B k2 c2)]).run Try.prog w=.ok (.agg #[Vi n,.slice A k c,.slice B k2 c2]) w:=by kernel_rfl
 simp [Yl,execOp,h,h2,h3,e]
end
theorem aMk (z:Value) {P:Program} {w0 w:World} {Z G:Nat→Prop} {L:List It} {D:List Da} (hL:Bx w0 w Z G L D) {ρ:Operand→Value} {d:Option Nat} {ty:TypeId} {pos:String} {af:Array Edge} {g:Option (Nat × Bool)} {t e:TypeId} {x y:Operand} {by_:Nat} {k:Int} (n:Nat) (ht:P.underlying t=some (.slice e)) (hi:TI P e z 1 by_) (hz:z.cells=#[z]) (hx:ρ x=V k) (hy:ρ y=V k) (hk:k=(n:Int))
   (hb:n * by_≤140737488355328) (hm:n≤9223372036854775807):To P ρ ⟨d,.makeSlice t x y,ty,pos,af,g⟩ w fun v w'=>∃ b,w0.heap.size≤b∧v=.slice (some ⟨b,0,none⟩) n n∧Bx w0 w' Z G (.box b e (Array.replicate n z) :: L) D:=by
 subst hk
 obtain ⟨i,hi1,hi2,hi3,hi4⟩:=hi
 subst hi4
 have hr:=run_make (P:=P) w t e i z ht hi1 hi2 .i64 .i64 n n (by omega) (Int.le_refl _) (by
   have:((i.bytes * n:Nat):Int)≤281474976710656:=by rw [Nat.mul_comm];omega
   rwa [Int.natCast_mul] at this) (by omega)
 simp only [Int.toNat_natCast] at hr
 have hcs:madeCells z.cells (n * i.size)=Array.replicate n z:=by
   rw [hi3,Nat.mul_one,hz]
   apply Array.ext <;> simp [madeCells,Nat.mod_one]
 refine ⟨.slice (some ⟨w.heap.size,0,none⟩) n n,w.alloc (.cells (madeCells z.cells (n * i.size)) e),?_,w.heap.size,hL.qW.size,rfl,?_⟩
 · simp only [execOp,hx,hy,Sem.run_bind,hr]
   rfl
 · rw [hcs]
   exact hL.new (Nat.le_refl _) (mI.new w e _) ((Ext.refl w).alloc _)
theorem P5 {ρ:Operand→Value} {w:World} {d:Option Nat} {ty:TypeId} {pos:String} {af:Array Edge} {g:Option (Nat × Bool)} {n:Int} {A B:Option Addr} {k c k2 c2:Nat} {x:Operand} (h:ρ x=.agg #[Vi n,.slice A k c,.slice B k2 c2]) :
  (execOp ρ ⟨d,.buildSlice 51 1 #[(0,x)],ty,pos,af,g⟩).run Try.prog w=.ok (.value (.slice (some ⟨w.heap.size,0,none⟩) 1 1)) (w.alloc (.cells #[Vi n,.slice A k c,.slice B k2 c2] 57)):=by
 have e:(Instr.buildSlice 51 1 #[(0,.agg #[Vi n,.slice A k c,.slice B k2 c2])]).run Try.prog w=.ok (.slice (some ⟨w.heap.size,0,none⟩) 1 1) (w.alloc (.cells #[Vi n,.slice A k c,.slice B k2 c2] 57)):=by kernel_rfl
 simp [execOp,h,e]
def QL (i n:Nat):List Value:=List.replicate i (.bool true) ++ List.replicate (n - i) (.bool false)
theorem Zk (n:Nat):Array.replicate n (Value.bool false)=(QL 0 n).toArray:=by simp [QL]
theorem Zn (n:Nat):QL n n=List.replicate n (.bool true):=by simp [QL]
theorem ZH {i n:Nat} (h:i < n):((QL i n).toArray.toList.take (0+i * 1) ++ [Value.bool true] ++ (QL i n).toArray.toList.drop (0+i * 1+[Value.bool true].length)).toArray=(QL (i+1) n).toArray:=by
 congr 1
 have e:n - i=(n - (i+1))+1:=by omega
 rw [Nat.zero_add,Nat.mul_one,List.length_singleton]
 simp only [QL]
 rw [e,List.replicate_succ,List.take_left' (by simp),List.replicate_succ' (n:=i)]
 simp [List.drop_append]
theorem mI.ex {w w':World} {b:Nat} {t:TypeId} {cs:Array Value} (h:mI w b t cs) (e:Ext w w'):mI w' b t cs:=mI.ext h e
theorem Pz {w:World} {b:Nat} {l:List Int} (h:mI w b 3 (l.map V).toArray) (hl:l.length≤8):kK (·=b) w (some ⟨b,0,none⟩) l.length l:=by
 refine ⟨Nat.le_refl _,by simp only [maxLen];omega,fun _=>⟨rfl,rfl,h.lt,fun i x hx=>⟨[V x],fun j v hv=>?_,rfl⟩⟩⟩
 cases j with
 | zero=>
  injection hv with hv
  subst hv
  show w.cell? ⟨b,0+i * 1+0,none⟩=_
  rw [Nat.zero_add,Nat.mul_one,Nat.add_zero]
  exact h.cell (by simp [hx])
 | succ j=>simp at hv
theorem M9 {F F':Nat→Prop} {w w':World}:∀ {cs:List (List Value)} {l:List Int},vK F w cs l→vK F' w' cs l
 | [],[],_=>trivial
 | _ :: _,_ :: _,h=>⟨h.1,M9 h.2⟩
 | [],_ :: _,h=>h.elim
 | _ :: _,[],h=>h.elim
theorem Bx.mkR {w0 w w':World} {Z Z' G:Nat→Prop} {L:List It} {D:List Da} {a:Option Addr} {c:Nat} {cs:List (List Value)} {l:List Int} (h:Bx w0 w Z G L D) (k:Bx w w' Z' (lS []) [.own w.heap.size a c 3 (Rp.sz Int) cs] [.els cs l]):Bx w0 w' Z G (.own w0.heap.size a c 3 (Rp.sz Int) cs :: L) (.els cs l :: D):=by
 have ho:=k.bo 0 rfl
 have h1:=h.push (it:=.own w.heap.size a c 3 (Rp.sz Int) cs) k.ex (k.at 0 rfl) (fun b hb=>(ho.row b hb).1)
 exact (h1.rb 0 w0.heap.size rfl h.qW.size).kr (d:=.els cs l) (M9 (k.de 0 rfl))
theorem Bx.Zg {w0 w:World} {Z G:Nat→Prop} {L:List It} {D:List Da} {b n:Nat} (h:Bx w0 w Z G (.box b 4 (List.replicate n (Value.bool true)).toArray :: L) D) (hb:w0.heap.size≤b) (hn:n≤8):Bx w0 w Z G L (.l (some ⟨b,0,none⟩) n (List.replicate n true) :: D):=by
 have hB:mI w b 4 (List.replicate n (Value.bool true)).toArray:=h.bk 0 rfl
 refine (h.tl).kr (d:=.l (some ⟨b,0,none⟩) n (List.replicate n true)) ⟨by simp,by simp only [maxLen];omega,fun h0=>⟨rfl,⟨fun hl=>?_,fun it hi hc=>(List.pairwise_cons.1 h.pw).1 it hi b rfl hc⟩,hB.lt,fun i x hx=>⟨[.bool x],fun j v hv=>?_,rfl⟩⟩⟩
 · exact absurd hl (by show ¬ b < _;omega)
 · cases j with
   | zero=>
    injection hv with hv
    subst hv
    show w.cell? ⟨b,0+i * 1+0,none⟩=_
    rw [Nat.zero_add,Nat.mul_one,Nat.add_zero]
    have hx':=hx
    rw [List.getElem?_replicate] at hx'
    split at hx'
    · injection hx' with hx'
      subst hx'
      exact hB.cell (by simp [*])
    · cases hx'
   | succ j=>simp at hv
theorem PV {fu:Nat} {w:World} {A:Nat→Prop} {rb:Nat} {x:Ao} {g:tZ} {s:SF} {src:jK} {tl:List Value} {fr:pK} (hP:Pre w A [] (ZJ s src)) (hr:mI w rb 89 (Qj s src ++ tl).toArray) (ha:(It.act x g).p w)
   (hm:WX (jM fu src) g=some fr):Calls Try.prog 120 #[Pt rb,Pt x.b] w (qQ fun v w'=>∃ A1 c1,v=.agg #[V fr.k,V fr.a,.slice A1 fr.b.length c1]∧Bx w w' A (lS []) [] [.l A1 c1 fr.b]):=by
 have b:=hP.bx
 clear hP
 unfold WX at hm
 obtain ⟨vs,hv,hm⟩:=bs hm
 refine cf Try.func120 rfl ?_
 refine lM [(0,Pt rb),(1,Pt x.b)] ⟨rfl,rfl,trivial⟩ fun av=>?_
 have hE:∀ u,Ext w u→mI u rb 89 (Qj s src ++ tl).toArray∧(It.act x g).p u:=fun u e=>⟨mI.ext hr e,yu ha e⟩
 refine go ?_
 refine sV b (jU Ba) fun w1 b4 b=>?_
 refine go ?_
 refine Pm b (fun u=>mI u rb 89 (Qj s src ++ tl).toArray∧(It.act x g).p u) (hE _ b.ex.drew) (by kernel_rfl) fun m=>?_
 replace b:=m.1
 refine pF 0 r (vQ r) m (pF 1 r (xn r) m (pF 2 r (MV r) m (uF 3 r (fun h=>JE r (It.zf h.2.2) r) m (pF 4 r (vQ r) m (pF 5 r (xn r) m (pF 6 r (Nf r) m (uF 7 r (fun h=>JE r (It.zf h.2.2) r) m (pF 8 r (Pv r r) m ?_))))))))
 refine hO 9 (oo r r (nD b (jU Ba)) ?_)
 rintro _ w2 ⟨b5,rfl,b⟩
 refine ⟨sF ⟨b.tl,hE _ b.ex⟩,hO 10 (os r r (nU b 0 [V g.f,V g.st,sn] r Ba r r) fun w3 b=>⟨sF ⟨b.tl,hE _ b.ex⟩,hD ?_⟩)⟩
 refine goB b ?_
 refine Pm b (fun u=>mI u rb 89 (Qj s src ++ tl).toArray∧(It.act x g).p u) (hE _ b.ex.drew) (by kernel_rfl) fun m=>?_
 replace b:=m.1
 refine pF 0 r (vQ r) m (pF 1 r (xn r) m (pF 2 r (VH r) m (uF 3 r (fun h=>ng (Qj s src) CK vR r h.2.1) m (pF 4 r (vQ r) m (pF 5 r (xn r) m (pF 6 r (MV r) m (uF 7 r (fun h=>JE r (It.zf h.2.2) r) m (pF 8 r (vQ r) m (pF 9 r (xn r) m (pF 10 r (Nf r) m (uF 11 r (fun h=>JE r (It.zf h.2.2) r) m (pF 14 r (mi r) m ?_))))))))))))
 have hsz:=b.qW.size
 refine hO 12 (oc r r (ec Xf r) (Cb fu (b.pr [] [0,1] [0,1,2,3] r) hv) ?_)
 rintro _ w4 ⟨A1,c1,cs1,rfl,hK⟩
 replace b:=b.cn [] [0,1] hK
 refine ⟨sF ⟨(b.tl).dp [1,2,3,4],hE _ b.ex⟩,pF 13 r (lF Try.underlying22 r) ⟨(b.tl).dp [1,2,3,4],hE _ b.ex⟩ (hD ?_)⟩
 have hbd:=(b.de 0 rfl).len
 replace b:=b.rb 0 w.heap.size rfl hsz
 replace b:=b.fz 0 0 rfl rfl
 have hbd:=(b.dl 0 rfl).bd
 obtain ⟨sv,hsv,hm⟩:=bs hm
 obtain rfl:=sm hm
 clear m
 replace b:=b.Bv rP 57
 refine goB b ?_
 refine kE (fun aw f w'=>∃ (t:Nat) (acc:List rP) (a1:Option Addr) (c2:Nat) (cs:List (List Value)),aw=vs.length - t∧t≤vs.length∧
     Has f [(0,Pt rb),(1,Pt x.b),(4,Pt b4),(5,Pt b5),(32,.slice A1 vs.length c1),(33,V (vs.length:Int)),(34,V (t:Int))]∧
     Bx w w' A (lS []) [.own w.heap.size a1 c2 57 (Rp.sz rP) cs,.box b5 53 #[V g.f,V g.st,.slice a1 acc.length c2],.box b4 53 #[V 0,V 0,sn]] [.els cs acc,.l A1 c1 vs]∧QH g.ws (vs.drop t) acc=some sv)
   vs.length ⟨0,[],none,0,[],rfl,Nat.zero_le _,⟨rfl,rfl,rfl,rfl,rfl,rfl,rfl,trivial⟩,b.dp [0,1],hsv⟩ ?_
 clear b hsv
 rintro aw f w1 ⟨t,acc,a1,c2,cs,rfl,ht,hf,b,hm⟩ J hJ
 obtain ⟨av,rfl⟩:=fV _ _ hf
 clear hf
 refine goB b ?_
 refine qy rfl (fun h=>?_) (fun h=>?_)
 · obtain ⟨v,hv'⟩:=lY (l:=vs) (k:=t) (by omega)
   rw [lK hv',QH] at hm
   obtain ⟨row,h1,hm⟩:=bs hm
   obtain ⟨k,hk,hrow⟩:=V9 h1
   obtain ⟨acc2,h2,hm⟩:=bs hm
   have h8:row.length≤8:=(hE _ b.ex).2.2.2.2.2.2.2.2 row (List.mem_of_getElem? hrow)
   refine goB b ?_
   refine jS (kW sH mP rfl rfl rfl (b.dl 1 rfl) hv') (jS (jP Try.underlying3 rfl rfl ((uK (ds:=[V v]) (b.dl 1 rfl) hv' (fun _ h=>h)) 0 _ rfl)) ?_)
   refine goB b ?_
   refine Fj rfl (It.zf (hE _ b.ex).2) rfl ?_
   refine goB b ?_
   refine ZC (hE _ b.ex).2 hrow rfl rfl hk fun r0 hr0 hB=>?_
   refine Dp (qg WG rfl) (Jc fu (h:=row) (j:=(·=r0)) (i:=row) ⟨fun _ h=>(by cases h),fun _ h=>(by cases h),List.Pairwise.nil,fun d hd=>?_⟩ ?_) ?_
   · rcases List.mem_singleton.1 hd with rfl
     exact Pz hB h8
   · unfold Bd app
     rw [if_pos (by simp;omega)]
     rfl
   rintro _ w2 ⟨a5,c5,cs5,rfl,hK⟩
   replace b:=Bx.mkR b hK
   replace b:=b.fz 0 0 rfl rfl
   refine goB b ?_
   refine nM (aMk (.bool false) b row.length Try.underlying55 LA rfl rfl rfl rfl (by omega) (by omega)) ?_
   rintro _ w3 ⟨b9,hb9,rfl,b⟩
   rw [Zk] at b
   refine goB b ?_
   refine kE (fun aw f w'=>∃ i:Nat,aw=row.length - i∧i≤row.length∧Has f [(0,Pt rb),(1,Pt x.b),(4,Pt b4),(5,Pt b5),(7,V v),(8,.slice a5 row.length c5),(9,.slice (some ⟨b9,0,none⟩) row.length row.length),(32,.slice A1 vs.length c1),(33,V (vs.length:Int)),(34,V (t:Int)),(50,V (row.length:Int)),(51,V (i:Int))]∧
     Bx w w' A (lS []) [.box b9 4 (QL i row.length).toArray,.own w.heap.size a1 c2 57 (Rp.sz rP) cs,.box b5 53 #[V g.f,V g.st,.slice a1 acc.length c2],.box b4 53 #[V 0,V 0,sn]] [.l a5 c5 row,.els cs acc,.l A1 c1 vs]) row.length
     ⟨0,rfl,Nat.zero_le _,⟨rfl,rfl,rfl,rfl,rfl,rfl,rfl,rfl,rfl,rfl,rfl,rfl,trivial⟩,b⟩ ?_
   clear b
   rintro aw f w4 ⟨i,rfl,hi,hf,b⟩ J3 hJ3
   obtain ⟨av,rfl⟩:=fV _ _ hf
   clear hf
   refine goB b ?_
   refine qy rfl (fun hlt=>?_) (fun hlt=>?_)
   · refine goB b ?_
     refine jS (xIdx i Try.underlying55 LA rfl rfl rfl (by omega)) ?_
     refine kZ (tb b 0 [.bool true] rfl LA rfl rfl rfl rfl (by simp [QL];omega) (ZH (by omega))) ?_
     intro w5 b
     dsimp only [List.set] at b
     refine goB b ?_
     exact hJ3 (row.length - (i+1)) _ _ (by omega) ⟨i+1,rfl,by omega,⟨rfl,rfl,rfl,rfl,rfl,rfl,rfl,rfl,rfl,rfl,rfl,congrArg V (WM (by omega)),trivial⟩,b⟩
   · obtain rfl:i=row.length:=by omega
     refine goB b ?_
     refine ug ?_
     rw [Zn] at b
     replace b:=Bx.Zg b hb9 h8
     refine goB b ?_
     refine jS (Mj rfl rfl rfl) ?_
     refine nM (jN b [[V v,.slice (some ⟨b9,0,none⟩) row.length row.length,.slice a5 row.length c5]] ([⟨v,List.replicate row.length true,row⟩]:List rP) (P5 rfl) rfl rfl (by decide) ⟨rP.inn ⟨_,_,_,_,by rw [List.length_replicate],b.dl 0 rfl,b.dl 1 rfl⟩,trivial⟩) ?_
     rintro _ w5 ⟨b6,rfl,b⟩
     refine nM (kL b 1 3 rfl rfl Try.underlying51 Gf rfl (by decide) (by decide) (Nat.le_refl _) rfl rfl (b.zN 0 0 rfl rfl) h2) ?_
     rintro _ w6 ⟨a7,c7,cs7,rfl,b⟩
     refine goB b ?_
     refine kZ (t_n b 2 [.slice a7 acc2.length c7] rfl VQ rfl rfl) fun w7 b=>?_
     refine goB b ?_
     exact hJ (vs.length - (t+1)) _ _ (by omega) ⟨t+1,acc2,a7,c7,cs7,rfl,by omega,⟨rfl,rfl,rfl,rfl,rfl,rfl,congrArg V (WM (by omega)),trivial⟩,b.ad [1,2,3] [3,4],hm⟩
 · obtain rfl:t=vs.length:=by omega
   rw [lu,QH] at hm
   obtain rfl:=sm hm
   refine goB b ?_
   refine ug ?_
   refine goB b ?_
   refine jS (ng [V g.f,V g.st,.slice a1 acc.length c2] U0 Ba rfl (b.bk 1 rfl)) ?_
   refine kZ (nU b 2 [V g.f,V g.st,.slice a1 acc.length c2] rfl Ba rfl rfl) fun w2 b=>?_
   refine goB b ?_
   exact kU (jB rfl (tV rfl Try.underlying53 rfl Ba rfl (b.bk 2 rfl)) ⟨a1,c2,rfl,(b.OB 0 0 rfl rfl).ad [] [0]⟩)
end Go.Proofs.Ytfglbdkfnphjgaa
