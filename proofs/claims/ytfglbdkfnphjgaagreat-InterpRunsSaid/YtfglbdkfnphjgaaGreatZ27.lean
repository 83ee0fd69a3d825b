/- A checked source runs without run-time panics and without errors of form: statements, calls, runs. -/
import Derived.Test.YtfglbdkfnphjgaaGreatZ26
import Derived.Test.YtfglbdkfnphjgaaGreatZ4
import Derived.Test.YtfglbdkfnphjgaaGreatZ17
import Derived.Test.YtfglbdkfnphjgaaGreatZ23
import Derived.Test.YtfglbdkfnphjgaaGreatZ18
set_option linter.unusedVariables false
set_option linter.unusedSimpArgs false
namespace Go.Proofs.YtfglbdkfnphjgaaGreat
open Go.RowKit Go.Fw Go.Proofs.Tryz
theorem Uc:∀ (l:List Int)(i:Nat)(ws:List (List Int)),(∀ j,j < l.length→∃ row,ws[i+j]?=some row∧row≠[])→∃ ws',Dv l i ws=.ok ws'∧ws'.map List.length=ws.map List.length
 | [],i,ws,_=>⟨ws,rfl,rfl⟩
 | v :: l,i,ws,h=>by
  obtain ⟨row,h1,h2⟩:=h 0 (by simp);rw [Nat.add_zero] at h1;rw [Dv,h1];cases row with
  | nil=>exact absurd rfl h2
  | cons z row=>
   obtain ⟨ws',h3,h4⟩:=Uc l (i+1) (ws.set i (v :: row)) (fun j hj=>by
    obtain ⟨r,h5,h6⟩:=h (j+1) (by simp;omega);refine ⟨r,?_,h6⟩;rw [DZ (by omega),show i+1+j=i+(j+1) by omega];exact h5)
   refine ⟨ws',h3,?_⟩;rw [h4,List.map_set];exact set_self (by rw [BR,h1];rfl)
theorem Li {vis:Int->Int->Option (List Int)}{st:Nat}{rest:List qx}{S S1:Sg}{id:Int}{q:Pn Unit}(h:event vis st rest S id=some (q,S1)):S1.a.ws=S.a.ws/\(q=.err 13\/q=.ok ()):=by
 unfold event at h;rcases jB h with ⟨_,h⟩|⟨_,h⟩
 · cases h;exact ⟨rfl,.inl rfl⟩
 · obtain ⟨fs,_,h⟩:=bs h;cases h;exact ⟨rfl,.inr rfl⟩
theorem Qy {α:Type}{l:List α}(h:l.length≠0):∃ x r,l=x :: r:=by
 cases l with
 | nil=>exact absurd rfl h
 | cons x r=>exact ⟨x,r,rfl⟩
structure CW (s:jL):Prop where
 sw:YW s
 w8:∀ V ∈ s.c,∀ v ∈ V,0<=v.a/\v.a<=8
 fx:∀ f ∈ s.a.b,FX f
def Wk (V:List jy)(r:Pn (Option Int) × Sg):Prop:=Gp r.1/\Ft V r.2.a.ws
section
variable {s:jL}{V:List jy}{k:Int}{n:Nat}
def Ws (s:jL)(sm:Sm)(V:List jy)(k:Int)(n:Nat):Prop:=∀ S x r a b,SW s.b V (zB s.a.b) k [x] a b->Ie n x->Ft V S.a.ws->sm S x=some r->Wk V r
theorem Qc {sm:Sm}(hS:Ws s sm V k n):∀ {l:List jI}{a b:Nat}{S:Sg}{r:Pn (Option Int) × Sg},SW s.b V (zB s.a.b) k l a b→(∀ y ∈ l,Ie n y)→Ft V S.a.ws→EJ sm S l=some r→Wk V r
 | [],_,_,S,r,_,_,hf,h=>by cases h;exact ⟨lF,hf⟩
 | x :: l,a,b,S,r,hw,hx,hf,h=>by
  rw [EJ] at h;obtain ⟨⟨q,S1⟩,h1,h⟩:=bs h;obtain ⟨c,d,hw1⟩:=Ms hw x (.head _);have k1:=hS S x _ _ _ hw1 (hx x (.head _)) hf h1;cases hw with
  | cons _ _ _ _ _ _ _ _ _ _ nx=>
   cases q with
   | ok o=>cases o with
    | none=>exact Qc hS nx (fun y hy=>hx y (.tail _ hy)) k1.2 h
    | some v=>cases h;exact k1
   | _=>cases h;exact k1
theorem N7 {fu m:Nat}(hC:Cx s V){l:List jA}{S S':Sg}{K:Int->Option (Pn (Option Int) × Sg)}{r:Pn (Option Int) × Sg}(hf:Ft V S.a.ws)(hx:∀ y ∈ l,RX V y)(hk:∀ y ∈ l,zm m y)(hl:l.length≠0)(hS:Ft V S'.a.ws)(h:one (xD fu S.a.ws) l S' K=some r)(hK:∀ v,K v=some r->Wk V r):Wk V r:=by
 obtain ⟨x,t,rfl⟩:=Qy hl;unfold one at h;obtain ⟨q,hq,h⟩:=bs h;have:=Tp hC fu m hf (hx x (.head _)) (hk x (.head _)) hq;cases q with
 | ok v=>exact hK v h
 | uP t=>cases h;exact ⟨lF,hS⟩
 | err e=>exact this.elim
 | rt=>exact this.elim
theorem Vj {fu m:Nat}(hC:Cx s V){l:List jA}{S S':Sg}{K:Nat × Nat->Option (Pn (Option Int) × Sg)}{r:Pn (Option Int) × Sg}(hf:Ft V S.a.ws)(hx:∀ y ∈ l,RX V y)(hk:∀ y ∈ l,zm (m+1) y)(ho:∀ y ∈ l,y.e=1\/y.e=2\/y.e=3)(hl:l.length≠0)(hS:Ft V S'.a.ws)(h:Kh (xD fu S.a.ws) S.a.ws l S' K=some r)(hK:∀ v,K v=some r->Wk V r):Wk V r:=by
 obtain ⟨x,t,rfl⟩:=Qy hl;unfold Kh at h;obtain ⟨q,hq,h⟩:=bs h;have hxx:=hx x (.head _);have hkx:=hk x (.head _);have:=abg hC hf hxx hkx.1.2 (ho x (.head _)) (fun y hy p hp=>Tp hC fu m hf (by cases hxx with | mk _ k=>exact k y hy) (hkx.2 y hy) hp) hq;cases q with
 | ok v=>exact hK v h
 | uP t=>cases h;exact ⟨lF,hS⟩
 | err e=>exact this.elim
 | rt=>exact this.elim
theorem UC (hs:CW s){sm:List qx->Sm}(hS:∀ (stk:List qx) (V:List jy) (k:Int) (n:Nat),Cx s V->Ws s (sm stk) V k n){stk:List qx}{f:Int}{args:List Int}{hist h:List kC}{out o:List Int}{p:Pn Int}(hf:ix (zB s.a.b) f=some args.length)(hc:AB sm s stk f args hist out=some (p,h,o)):Gp p:=by
 unfold AB at hc;rcases jB hc with ⟨_,hc⟩|⟨_,hc⟩
 · cases hc;exact .inl rfl
 obtain ⟨q,rfl,hq⟩:=kN hf;unfold zB at hq;rw [BR] at hq;cases hfn:s.a.b[q]? with
 | none=>rw [hfn] at hq;cases hq
 | some fn=>
 rw [hfn] at hq;have hpl:fn.a.length=args.length:=vK hq;obtain ⟨V,hV,hvo,⟨a,b,hsw⟩,hpar,_⟩:=hs.sw.2.1 q fn hfn;have h8:=hs.w8 V (wC hV);have e1:ix? s.c (q:Int)=some V:=by unfold ix?;rw [jR (by omega),AY];exact hV
 have e2:ix? s.a.b (q:Int)=some fn:=by unfold ix?;rw [jR (by omega),AY];exact hfn
 rw [e1] at hc;obtain ⟨r,hr,hc⟩:=bs hc;have hi:∀ (l:List jy)(acc:List (List Int))(r:Pn (List (List Int))),(∀ v ∈ l,0<=v.a/\v.a<=8)->BP l acc=some r->∃ ws,r=.ok ws/\ws.map List.length=acc.map List.length ++ l.map (fun x=>x.a.toNat):=by
   intro l
   induction l with
   | nil=>intro acc r _ h;cases h;exact ⟨acc,rfl,by simp⟩
   | cons v l ih=>
    intro acc r hl h;have:=hl v (.head _);rw [BP,jR (by omega)] at h;obtain ⟨acc2,ha,h⟩:=bs h;obtain ⟨_,rfl⟩:=qG ha;obtain ⟨ws,h1,h2⟩:=ih _ _ (fun x hx=>hl x (.tail _ hx)) h;exact ⟨ws,h1,by rw [h2];simp⟩
 obtain ⟨ws0,rfl,hw0⟩:=hi V [] r h8 hr;have hw0:Ft V ws0:=by rw [List.map_nil,Gg] at hw0;exact hw0
 obtain ⟨ws1,ha,hl⟩:=Uc args 0 ws0 fun j hj=>by
   obtain ⟨v,hv,hk1⟩:=hpar j (by omega);obtain ⟨k,l,hk,_,_,hwk,hln⟩:=hw0.row (i:=(j:Int)) (v:=v) (by rw [xP];exact hv);obtain rfl:j=k:=by omega
   refine ⟨l,by rw [Bh];exact hwk,fun z=>?_⟩;rw [z,uR] at hln;rcases hvo v (wC hv) with ⟨_,h⟩|⟨h,_⟩|⟨h,_⟩ <;> omega
 dsimp only at hc;rw [ha,e2] at hc;dsimp only at hc;obtain ⟨⟨p2,S2⟩,h2,hc⟩:=bs hc;have hk:=Qc (hS stk V q 10 ⟨hvo,h8⟩) hsw (hs.fx fn (wC hfn)) (S:=⟨⟨(q:Int),0,ws1⟩,hist,out⟩) (show Ft V ws1 from hl.trans hw0) h2;have hc:=(sK (vK hc)).1;cases p2 with
 | ok v=>subst hc;trivial
 | uP t=>subst hc;trivial
 | err e=>subst hc;exact hk.1
 | rt=>exact hk.1.elim
theorem RN (hs:CW s){sm:List qx->Sm}(hS:∀ (stk:List qx) (V:List jy) (k:Int) (n:Nat),Cx s V->Ws s (sm stk) V k n){rest:List qx}{fu m:Nat}(hC:Cx s V){S:Sg}{x:jI}{K:Int->Sg->Option (Pn (Option Int) × Sg)}{r:Pn (Option Int) × Sg}(hf:Ft V S.a.ws)(hx:∀ y ∈ x.a,RX V y)(hk:∀ y ∈ x.a,zm m y)(ca:ix (zB s.a.b) x.i=some x.a.length)(h:ED sm s rest fu S x K=some r)(hK:∀ v h o,K v ⟨S.a,h,o⟩=some r->Wk V r):Wk V r:=by
 obtain ⟨p,S'⟩:=r;obtain ⟨q,hq,h⟩:=GA h;obtain ⟨h1,h2⟩:=XC hC hf hx hk hq;rcases h with ⟨l,q2,h2',o2,rfl,hc,h⟩|⟨hn,rfl,rfl⟩
 · have hl:=h2 l rfl;rw [uR,Bh] at hl;have hg:=UC hs hS (by rw [hl];exact ca) hc;rcases h with ⟨v,rfl,h⟩|⟨hn,rfl,rfl⟩
   · exact hK v _ _ h
   · exact ⟨hg.up hn,hf⟩
 · exact ⟨h1.gp hn,hf⟩
theorem aaJ (hC:Cx s V){fu m:Nat}{l:List jA}(hx:∀ y ∈ l,RX V y)(hk:∀ y ∈ l,zm m y)(hl:l.length≠0){vis:Int->Int->Option (List Int)}{st:Nat}{rest:List qx}{id:Int}{body:Sg->Option (Pn (Option Int) × Sg)}(hb:∀ S r,Ft V S.a.ws->body S=some r->Wk V r) :
  ∀ (c:Nat){S:Sg}{r:Pn (Option Int) × Sg},Ft V S.a.ws->VP (fun S=>U1 (xD fu S.a.ws) l) body (fun S=>event vis st rest S id) c S=some r->Wk V r
 | 0,_,_,_,h=>by cases h
 | c+1,S,r,hf,h=>by
  rw [VP] at h;obtain ⟨q,hq,h⟩:=bs h;obtain ⟨x,t,rfl⟩:=Qy hl;have:=Tp hC fu m hf (hx x (.head _)) (hk x (.head _)) hq;cases q with
  | ok v=>
   rcases jB h with ⟨_,h⟩|⟨_,h⟩
   · cases h;exact ⟨lF,hf⟩
   obtain ⟨⟨q,S1⟩,h1,h⟩:=bs h;have k1:=hb S _ hf h1;cases q with
   | ok o=>cases o with
     | none=>
      obtain ⟨⟨q,S2⟩,h2,h⟩:=bs h;obtain ⟨h3,h4⟩:=Li h2;have hf2:Ft V S2.a.ws:=by rw [h3];exact k1.2
      rcases h4 with rfl | rfl
      · cases h;exact ⟨.inr rfl,hf2⟩
      · exact aaJ hC hx hk hl hb c hf2 h
     | some v=>cases h;exact k1
   | _=>cases h;exact k1
  | uP t=>cases h;exact ⟨lF,hf⟩
  | err e=>exact this.elim
  | rt=>exact this.elim
theorem acC (hs:CW s){vis:Int→Int→Option (List Int)}{st:Nat}:∀ (fu:Nat)(rest:List qx)(V:List jy)(k:Int)(n:Nat),Cx s V→Ws s (stM vis s st fu rest) V k n
 | 0,_,_,_,_,_=>fun _ _ _ _ _ _ _ _ h=>by cases h
 | fu+1,rest,V,k,0,_=>fun _ _ _ _ _ _ hx _ _=>hx.elim
 | fu+1,rest,V,k,n+1,hC=>fun S x r a b hw hx hf h=>by
  obtain ⟨p,S'⟩:=r;obtain ⟨x1,x2,x3,x4,x5,x6,x7,x8⟩:=hx;cases hw with
  | cons id kd tg ar de tr ca ct bo el nx=>
  rw [stM] at h;obtain ⟨⟨q,E⟩,he,h⟩:=bs h;obtain ⟨e1,e2⟩:=Li he;have hE:Ft V E.a.ws:=by rw [e1];exact hf
  clear he e1 hf nx kd;rcases e2 with rfl | rfl
  · cases h;exact ⟨.inr rfl,hE⟩
  dsimp only at h;have ih:=fun (rest:List qx) (V:List jy) (k:Int) (n:Nat) (hC:Cx s V)=>acC hs (vis:=vis) (st:=st) fu rest V k n hC;rcases jB h with ⟨c1,h⟩|⟨c1,h⟩
  · obtain ⟨v,hv⟩:=de c1;obtain ⟨i,l,hi,_,h1,h2,_⟩:=hE.row hv;rw [h1] at h;cases h;exact ⟨trivial,by dsimp only;rw [hi,Int.toNat_natCast];exact hE.set h2 (by rw [List.length_replicate])⟩
  have tgo:∀ y ∈ x.d,y.e=1\/y.e=2\/y.e=3:=fun y hy=>by have:=(ct y hy).2;omega
  rcases jB h with ⟨c2,h⟩|⟨c2,h⟩
  · have hb:x.j=be:=Classical.byContradiction fun z=>by have:=x8 z;omega
    exact Vj hC hE tg (m:=4999) x1 tgo (x7 c2) hE h fun v h=>N7 hC hE ar x2.2 (x6 hb (by omega) (by omega) (by omega)) hE h fun u h=>by cases h;exact ⟨lF,hE.word⟩
  rcases jB h with ⟨c3,h⟩|⟨c3,h⟩
  · refine RN hs ih hC hE ar x2.2 (ca (x5 c3)) h fun v h' o h=>?_;rcases jB h with ⟨_,h⟩|⟨c,h⟩
    · cases h;exact ⟨lF,hE⟩
    · exact Vj hC (S:=⟨E.a,h',o⟩) (S':=⟨E.a,h',o⟩) hE tg (m:=4999) x1 tgo c hE h fun v h=>by cases h;exact ⟨lF,hE.word⟩
  rcases jB h with ⟨c4,h⟩|⟨c4,h⟩
  · have hb:x.j=be:=Classical.byContradiction fun z=>by have:=x8 z;omega
    refine N7 hC hE ar x2.2 (x6 hb (by omega) (by omega) (by omega)) hE h fun v h=>?_;by_cases hv:v≠0
    · rw [kg hv] at h;exact Qc (ih rest V k n hC) bo x3 hE h
    · rw [jR hv] at h;exact Qc (ih rest V k n hC) el x4 hE h
  rcases jB h with ⟨c5,h⟩|⟨c5,h⟩
  · have hb:x.j=be:=Classical.byContradiction fun z=>by have:=x8 z;omega
    exact aaJ hC ar x2.2 (x6 hb (by omega) (by omega) (by omega)) (fun S r hf h=>Qc (ih rest V k n hC) bo x3 hf h) fu hE h
  rcases jB h with ⟨c6,h⟩|⟨c6,h⟩
  · rcases jB h with ⟨cf,h⟩|⟨cf,h⟩
    · exact RN hs ih hC hE ar x2.2 (ca cf) h fun v h' o h=>by cases h;exact ⟨lF,hE⟩
    · exact N7 hC hE ar x2.2 (x6 (Classical.not_not.1 cf) (by omega) (by omega) (by omega)) hE h fun v h=>by cases h;exact ⟨lF,hE⟩
  have hb:x.j=be:=Classical.byContradiction fun z=>by have:=x8 z;omega
  rcases jB h with ⟨c7,h⟩|⟨c7,h⟩
  · exact N7 hC hE ar x2.2 (x6 hb (by omega) (by omega) (by omega)) hE h fun v h=>by cases h;exact ⟨lF,hE⟩
  rcases jB h with ⟨c8,h⟩|⟨c8,h⟩
  · obtain ⟨⟨q,S1⟩,h1,h⟩:=bs h;have k1:=Qc (ih rest V k n hC) bo x3 hE h1;cases q with
    | uP t=>
      obtain ⟨v,hv,hk1,_⟩:=tr c8;obtain ⟨i,l,hi,hvk,h2,h3,h4⟩:=Ft.row k1.2 hv;dsimp only at h;rw [h2] at h;have:=hC.vo v (wC hvk);cases l with
      | nil=>
       rw [uR] at h4;rcases this with ⟨_,h⟩|⟨h,_⟩|⟨h,_⟩ <;> omega
      | cons z l=>
       refine Qc (ih rest V k n hC) el x4 ?_ h;dsimp only;rw [hi,AY];exact Ft.set k1.2 h3 rfl
    | _=>cases h;exact k1
  rcases jB h with ⟨c9,h⟩|⟨c9,h⟩
  · refine N7 hC hE ar x2.2 (x6 hb (by omega) (by omega) (by omega)) hE h fun v h=>?_;obtain ⟨o,_,h⟩:=bs h;cases h;exact ⟨lF,hE⟩
  rcases jB h with ⟨c10,h⟩|⟨c10,h⟩
  · cases h;exact ⟨lF,hE⟩
  · cases h;exact ⟨lF,hE⟩
theorem adR (hs:CW s):∀ fn ∈ s.a.b,Sn fn:=fun fn hfn=>by obtain ⟨q,hq⟩:=Ik hfn;obtain ⟨V,_,_,⟨a,b,hsw⟩,_,hen⟩:=hs.sw.2.1 q fn hq;refine ⟨fun y hy=>?_,hen⟩;obtain ⟨c,d,k⟩:=Ms hsw y hy;exact ars (hs.fx fn hfn y hy) k
theorem abO (hs:CW s){fu:Nat}{f:Int}{args:List Int}{n:Int}:Snd fu s f args n:=fun fn p h o hfn hl _ _ hc=>by
 obtain ⟨q,rfl,hq⟩:=RA hfn;have hpl:args.length=fn.a.length:=by omega
 exact (UC hs (fun stk V k n hC=>acC hs fu stk V k n hC) (by rw [xP];unfold zB;rw [BR,hq,hpl];rfl) hc).gd
end
set_option maxHeartbeats 12800000
set_option maxRecDepth 4000
noncomputable section
def KC (m:BA->Option jL):Prop:=∀ {k p o}{j:jL},Pre k p [] []->m o=some j-> Calls prog 18 #[T o] k (pU fun v w=>∃ a b c d e f h i,v=.agg #[Z a j.a.a b,Z c j.a.b d,Z e j.c f,Z h j.b i]/\Bx k w p (lH []) [] [.l a b j.a.a,.l c d j.a.b,.l e f j.c,.l h i j.b])
def CX (fu:Nat)(h:BA):Option jL:=(uG fu h).bind fun i=>iA i fun a i=>iA i fun c d=>(sU fu a).bind fun i=>iA i fun b i=>iA i fun e f=>some b
theorem JZ (fu:Nat):KC (CX fu):=by
 intro H Y C I w u;unfold CX at u;have k:=w.bx;clear w;generalize J:lH _=G at k ⊢;refine cf func18 r ?_;refine lG [(0,T C)] ⟨r,y⟩ fun a0=>?_;refine q (g (nW (nD k (jT xL)) ?_));rintro _ K ⟨L,rfl,k⟩;refine n (q (g (s (lI r) ?_)));obtain ⟨⟨t,x,z⟩,D,u⟩:=bs u;replace u:=pi u;replace u:=pi u;refine sc (ec XW r) (Gl fu (k.pr [] [0] [] r) D) ?_;rintro _ M ⟨l,m,o,p,rfl,v⟩;replace k:=k.cl [] [0] r v r;try dsimp only [pick,nth,ca,na] at k
 refine s rR (s (jX r r) (s (jX r r) (s (jX r r) (nW (nD k (jT vG)) ?_))));rintro _ N ⟨Q,rfl,k⟩;refine lD (tb k 0 [Z l t.a m,Z o t.b p] r vG r r r r r (show _=#[Z l t.a m,Z o t.b p] from r)) ?_;intro R k;try dsimp only [List.set] at k
 refine s (xi r) (s (xi r) (n (q (g (s (nA [Z l t.a m,Z o t.b p] DR r vG r r (Cells.part (k.bk 0 r).cells (o2:=0) r)) ?_)))));obtain ⟨⟨a,A,B⟩,F,u⟩:=bs u;replace u:=pi u;replace u:=pi u;refine sc (ec XG r) (FJ fu (k.pr [] [0,1] [0,1] r) F) ?_;rintro _ S ⟨b,c,d,e,f,h,i,j,rfl,v⟩;replace k:=k.cl [] [0,1] r v r;try dsimp only [pick,nth,ca,na] at k
 refine s rR (s (jX r r) (s (jX r r) (s (jX r r) (nW (nD k (jT xL)) ?_))));rintro _ U ⟨W,rfl,k⟩;refine lD (tb k 0 [Z b a.a.a c,Z d a.a.b e,Z f a.c h,Z i a.b j] r xL r r r r r (show _=#[Z b a.a.a c,Z d a.a.b e,Z f a.c h,Z i a.b j] from r)) ?_;intro X k;try dsimp only [List.set] at k
 refine s (xi r) (s (xi r) (n (q (g (s (nA [Z b a.a.a c,Z d a.a.b e,Z f a.c h,Z i a.b j] Du r xL r r (Cells.part (k.bk 0 r).cells (o2:=0) r)) (lD (tb k 2 [Z b a.a.a c,Z d a.a.b e,Z f a.c h,Z i a.b j] r xL r r r r r (show _=#[Z b a.a.a c,Z d a.a.b e,Z f a.c h,Z i a.b j] from r)) ?_))))));intro w8 k;try dsimp only [List.set] at k
 refine n (kH ?_);obtain rfl:=sm u;refine jC r (vC r Du r xL r (k.bk 2 r)) ?_;exact ⟨b,c,d,e,f,h,i,j,r,k.ad [] [0,1,2,3]⟩
def M6 (m:Option Bool):Prop:=∀ {a c b},Pre a c [] []->m=some b-> Calls prog 6 #[] a (pU fun v w=>v=.bool b/\Bx a w c (lH []) [] [])
def Az (fu:Nat):Option Bool:=(CX fu (⟨#[102,117,110,99,32,102,40,97,41,32,123,32,97,32,61,32,97,32,43,32,49,59,32,114,101,116,117,114,110,32,97,59,32,125]⟩:BA)).bind fun c=>(lY fu c 0 ([4]:List Int) 10 0 10).bind fun i=>iA i fun b a=>if a.d=0 then if a.c=5 then if (!a.b)=true then if (b.length:Int)=2 then (ix b 1).bind fun d=>if (d.a.length:Int)=1 then (ix d.a 0).bind fun e=>if (e.c.length:Int)=1 then (ix e.c 0).bind fun f=>(ix f.a 0).bind fun h=>some (decide (h=5)) else some false else some false else some false else some false else some false else some false
theorem F9 (fu:Nat):M6 (Az fu):=by
 intro w0 aD r0 hP b;unfold Az at b;have a:=hP.bx;clear hP;generalize hG:lH _=G at a ⊢;refine cf func6 r ?_;refine lG [] y fun aE=>?_;refine q (g (s (kD r) (n (q (g ?_)))));obtain ⟨ag,h1,b⟩:=bs b;refine sc (ec acA r) (JZ fu (a.pr [] [] [] r) h1) ?_;rintro _ w1 ⟨M,N,Q,R,S,U,W,X,rfl,hK⟩;replace a:=a.cl [] [] r hK r;try dsimp only [pick,nth,ca,na] at a
 refine nW (jO a [[V 4]] ([4]:List Int) (yR r) r r (by decide) ⟨r,y⟩) ?_;rintro _ w2 ⟨b2,rfl,a⟩;replace a:=a.Ob 0 0 r r;try dsimp only [List.eraseIdx] at a
 obtain ⟨⟨ah,c⟩,h4,b⟩:=bs b;replace b:=pi b;refine sc (ec RY r) (sG fu (a.pr [] [] [1,2,3,4,0] r) h4) ?_;rintro _ w4 ⟨Y,a0,f,j,rfl,hK⟩;replace a:=a.cl [] [] r hK r;try dsimp only [pick,nth,ca,na] at a
 refine s rR (s (jX r r) (s (jX r r) (nW (nD a (jT uX)) ?_)));rintro _ w5 ⟨b5,rfl,a⟩;refine s (mh r) (lD (tb a 0 [V c.d,.bool c.b,V c.c,Z f c.a j] r uX r r r r r (show _=#[V c.d,.bool c.b,V c.c,Z f c.a j] from r)) ?_);intro w6 a;try dsimp only [List.set] at a
 refine n (q (g (s (Pg r) (s (DY r (a.bk 0 r) r) (s (kT r r) (s (kV r) ?_))))));rcases iv b with ⟨h7,b⟩|⟨h7,b⟩
 ·rw [um h7];refine kG r (s (Oc r) (kG r (s (l3 r (a.bk 0 r) r) (kG r (s (kT r r) (s (kP r r) (s (kV r) ?_)))))));rcases iv b with ⟨h8,b⟩|⟨h8,b⟩
  ·rw [um h8];refine kG r (s (Rl r) (kG r (s (l4 r (a.bk 0 r) r) (kG r (s (BU r) (s (kP r r) (s (kV r) ?_)))))));rcases iv b with ⟨h9,b⟩|⟨h9,b⟩
   ·rw [h9];refine kG r (s (mK r) (kG r (s (lT GY r) (kG r (s (kT r r) (s (kP r r) (s (kV r) ?_)))))));rcases iv b with ⟨v,b⟩|⟨v,b⟩
    ·rw [um v];refine kG r (s (mK r) ?_);obtain ⟨ab,e,b⟩:=bs b;obtain ⟨an,t,e⟩:=kN e;obtain ⟨ai,a2,a⟩:=a.nm 0 rfl e;obtain ⟨w,x,rfl,z⟩:=kC.out a2;replace a:=a.kF (d:=.l w x ab.a) z;refine kG r (s (kY GY E5 r r t (a.dl 2 r) e) (kG r (s (Et r) (kG r (s (jV D7 r r ((a.dc 1 r) 0 _ r)) (kG r (s (lT D7 r) (kG r (s (kT r r) (s (kP r r) (s (kV r) ?_)))))))))));rcases iv b with ⟨A,b⟩|⟨A,b⟩
     ·rw [um A];refine kG r (s (mK r) (kG r (s (kY GY E5 r r t (a.dl 2 r) e) (kG r (s (Et r) (kG r (s (jV D7 r r ((a.dc 1 r) 0 _ r)) ?_)))))));obtain ⟨ac,m,b⟩:=bs b;obtain ⟨ao,u,m⟩:=kN m;obtain ⟨aj,a3,a⟩:=a.nm 0 rfl m;obtain ⟨B,C,rfl,D⟩:=nK.out a3;replace a:=a.kF (d:=.l B C ac.c) D;refine kG r (s (kY D7 CP r r u (a.dl 2 r) m) (kG r (s (DJ r) (kG r (s (jV FD r r ((a.dc 1 r) 2 _ r)) (kG r (s (lT FD r) (kG r (s (kT r r) (s (kP r r) (s (kV r) ?_)))))))))));rcases iv b with ⟨E,b⟩|⟨E,b⟩
      ·rw [um E];refine kG r (s (mK r) (kG r (s (kY GY E5 r r t (a.dl 4 r) e) (kG r (s (Et r) (kG r (s (jV D7 r r ((a.dc 3 r) 0 _ r)) (kG r (s (kY D7 CP r r u (a.dl 2 r) m) (kG r (s (DJ r) (kG r (s (jV FD r r ((a.dc 1 r) 2 _ r)) ?_)))))))))))));obtain ⟨a4,o,b⟩:=bs b;obtain ⟨ap,a5,o⟩:=kN o;obtain ⟨ak,a6,a⟩:=a.nm 0 rfl o;obtain ⟨F,H,I,J,rfl,K,L⟩:=qO.out a6;replace a:=a.kF (d:=.l F H a4.b) K;replace a:=a.kF (d:=.l I J a4.a) L;refine kG r (s (kY FD HZ r r a5 (a.dl 3 r) o) (kG r (s (Va r) (kG r (s (jV ru r r ((a.dc 2 r) 2 _ r)) ?_)))));obtain ⟨ae,p,b⟩:=bs b;obtain ⟨aq,a7,p⟩:=kN p;refine kG r (s (kY ru ny r r a7 (a.dl 0 r) p) (kG r (s (jV Ir r r ((uo (ds:=[V ae]) (a.dl 0 r) p (fun _ h=>h)) 0 _ r)) (kG r (s (kT r r) (s (kP r r) (s (kD r) (n (kH ?_)))))))));obtain rfl:=sm b;refine jC r (kL r) ?_;exact ⟨r,a.ad [] []⟩
      rw [uO E];refine jM r (jM r (jM r (jM r (jM r (jM r (jM r (jM r (jM r (jM r (jM r (jM r (jM r (s (ko r r) ?_)))))))))))));refine s (kD r) (n (kH ?_));obtain rfl:=sm b;refine jC r (kL r) ?_;exact ⟨r,a.ad [] []⟩
     rw [uO A];refine jM r (jM r (jM r (jM r (jM r (jM r (jM r (jM r (jM r (s (ko r r) (s (kV r) (jM r (jM r (jM r ?_)))))))))))));refine jM r (jM r (jM r (jM r (jM r (jM r (jM r (jM r (jM r (jM r (s (ko r r) (s (kD r) (n (kH ?_)))))))))))));obtain rfl:=sm b;refine jC r (kL r) ?_;exact ⟨r,a.ad [] []⟩
    rw [uO v];refine jM r (jM r (jM r (jM r (jM r (jM r (s (ko r r) (s (kV r) (jM r (jM r (jM r (jM r (jM r (jM r ?_)))))))))))));refine jM r (jM r (jM r (s (ko r r) (s (kV r) (jM r (jM r (jM r (jM r (jM r (jM r (jM r (jM r (jM r ?_)))))))))))));refine jM r (jM r (jM r (jM r (s (ko r r) (s (kD r) (n (kH ?_)))))));obtain rfl:=sm b;refine jC r (kL r) ?_;exact ⟨r,a.ad [] []⟩
   replace h9:=nt h9;rw [h9];refine jM r (jM r (jM r (s (ko r r) (s (kV r) (jM r (jM r (jM r (jM r (jM r (jM r (s (ko r r) (s (kV r) (jM r ?_)))))))))))));refine jM r (jM r (jM r (jM r (jM r (jM r (jM r (jM r (s (ko r r) (s (kV r) (jM r (jM r (jM r (jM r ?_)))))))))))));refine jM r (jM r (jM r (jM r (jM r (jM r (jM r (jM r (jM r (s (ko r r) (s (kD r) (n (kH ?_))))))))))));obtain rfl:=sm b;refine jC r (kL r) ?_;exact ⟨r,a.ad [] []⟩
  rw [uO h8];refine jM r (jM r (jM r (s (ko r r) (s (kV r) (jM r (jM r (jM r (s (ko r r) (s (kV r) (jM r (jM r (jM r (jM r ?_)))))))))))));refine jM r (jM r (s (ko r r) (s (kV r) (jM r (jM r (jM r (jM r (jM r (jM r (jM r (jM r (jM r (s (ko r r) ?_)))))))))))));refine s (kV r) (jM r (jM r (jM r (jM r (jM r (jM r (jM r (jM r (jM r (jM r (jM r (jM r (jM r ?_)))))))))))));refine s (ko r r) (s (kD r) (n (kH ?_)));obtain rfl:=sm b;refine jC r (kL r) ?_;exact ⟨r,a.ad [] []⟩
 rw [uO h7];refine jM r (jM r (jM r (s (ko r r) (s (kV r) (jM r (jM r (jM r (s (ko r r) (s (kV r) (jM r (jM r (jM r (s (ko r r) ?_)))))))))))));refine s (kV r) (jM r (jM r (jM r (jM r (jM r (jM r (s (ko r r) (s (kV r) (jM r (jM r (jM r (jM r (jM r ?_)))))))))))));refine jM r (jM r (jM r (jM r (s (ko r r) (s (kV r) (jM r (jM r (jM r (jM r (jM r (jM r (jM r (jM r ?_)))))))))))));refine jM r (jM r (jM r (jM r (jM r (s (ko r r) (s (kD r) (n (kH ?_))))))));obtain rfl:=sm b;refine jC r (kL r) ?_;exact ⟨r,a.ad [] []⟩
def Gc (m:(List Int)->(List Int)->Int->Int->Int->Int->Option Bool):Prop:=∀ {e t f h i j k o a b c d p},Pre e t [] [.l a b f,.l c d h]->m f h i j k o=some p-> Calls prog 3 #[Z a f b,Z c h d,V i,V j,V k,V o] e (pU fun v w=>v=.bool p/\Bx e w t (lH []) [] [])
def tZ (fu:Nat)(B C:(List Int))(D x z A:Int):Option Bool:=(wR fu B).bind fun F=>iA F fun a v=>if (!v)=true then (Az fu).bind fun w=>some w else (tX fu D (a.a.b.length:Int)).bind fun b=>(ix a.a.b b).bind fun E=>(Bz fu C (E.a.length:Int)).bind fun c=>(xX fu x).bind fun d=>(tX fu z 100).bind fun e=>(tX fu A 20).bind fun f=>(lY fu a b c d e f).bind fun F=>iA F fun h i=>(xX fu x).bind fun j=>(tX fu z 100).bind fun k=>(tX fu A 20).bind fun l=>(AA fu a b c j k l).bind fun F=>iA F fun m o=>(tq fu h m).bind fun p=>if p=true then (rW fu i o).bind fun t=>if t=true then (Az fu).bind fun u=>some u else some false else some false
theorem F5 (fu:Nat):Gc (tZ fu):=by
 intro w0 bO x0 x1 x2 x3 x4 x5 a5 a6 a7 a8 r0 hP A;unfold tZ at A;have a:=hP.bx;clear hP;generalize hG:lH _=G at a ⊢;refine cf func3 r ?_;refine lG [(0,Z a5 x0 a6),(1,Z a7 x1 a8),(2,V x2),(3,V x3),(4,V x4),(5,V x5)] ⟨r,r,r,r,r,r,y⟩ fun bP=>?_;refine q (g (s (kD r) (n (q (g (s (mK r) ?_))))));obtain ⟨⟨x,aY⟩,h1,A⟩:=bs A;replace A:=pi A;refine sc (ec adN r) (JQ fu (a.pr [] [] [0] r) h1) ?_;rintro _ w1 ⟨B,C,D,E,F,H,I,J,rfl,z⟩;replace a:=a.cl [] [] r z r;try dsimp only [pick,nth,ca,na] at a
 refine s rR (s (jX r r) (s (jX r r) (nW (nD a (jT xL)) ?_)));rintro _ w2 ⟨b2,rfl,a⟩;refine lD (tb a 0 [Z B x.a.a C,Z D x.a.b E,Z F x.c H,Z I x.b J] r xL r r r r r (show _=#[Z B x.a.a C,Z D x.a.b E,Z F x.c H,Z I x.b J] from r)) ?_;intro w3 a;try dsimp only [List.set] at a
 refine s (kD r) (n (q (q (g (s (kV r) (s (BU r) (n ?_)))))));rcases iv A with ⟨h4,A⟩|⟨h4,A⟩
 ·refine jN (cb h4) (q (g ?_));obtain ⟨b0,h5,A⟩:=bs A;refine sc (ec aaE r) (F9 fu (a.pr [] [0] [] r) h5) ?_;rintro _ w5 ⟨rfl,z⟩;replace a:=a.cl [] [0] r z r;try dsimp only [pick,nth,ca,na] at a
  refine s (kD r) (n (kH ?_));obtain rfl:=sm A;refine jC r (kL r) ?_;exact ⟨r,a.ad [] []⟩
 refine jK (wS h4) (wk (q (g (s (mi r) (s (Ga r) (s (Bt r) (s (Rb r (a.bk 0 r) r) (s (lT Dw r) ?_))))))));obtain ⟨af,h6,A⟩:=bs A;refine sc (ec DL r) (nX fu (a.pr [] [0] [] r) h6) ?_;rintro _ w6 ⟨rfl,z⟩;replace a:=a.cl [] [0] r z r;try dsimp only [pick,nth,ca,na] at a
 refine s (xi r) (n (q (g (s (mK r) (s (Ga r) (s (Bt r) (s (Rb r (a.bk 0 r) r) (s (mi r) ?_))))))));obtain ⟨e7,Y,A⟩:=bs A;obtain ⟨k7,au,Y⟩:=kN Y;obtain ⟨b9,av,a⟩:=a.nm 1 rfl Y;obtain ⟨ag,ah,ai,aj,rfl,ak,al⟩:=kW.out av;replace a:=a.kF (d:=.l ag ah e7.a) ak;replace a:=a.kF (d:=.l ai aj e7.e) al;refine s (kY Dw oU r r au (a.dl 4 r) Y) (s (Hf r) (s (jV kZ r r ((a.dc 2 r) 2 _ r)) (s (lT kZ r) ?_)));obtain ⟨a4,h9,A⟩:=bs A;refine sc (ec adZ r) (O5 fu (a.pr [] [0] [8] r) h9) ?_;rintro _ w9 ⟨L,M,am,rfl,z⟩;have aw:=a.rM.size;replace a:=a.cl [] [0] r z r;try dsimp only [pick,nth,ca,na] at a
 replace a:=a.reb 0 w0.heap.size r aw;try dsimp only [List.set] at a
 refine s (mh r) (n (q ?_));obtain ⟨ax,an,A⟩:=bs A;obtain ⟨ay,a9,A⟩:=bs A;obtain ⟨az,a0,A⟩:=bs A;obtain ⟨⟨K,b⟩,Q,A⟩:=bs A;replace A:=pi A;refine qR (fun f w=>∃ p t N e h,Has f [(3,V x3),(4,V x4),(5,V x5),(13,Pt b2),(15,V af),(16,Z L a4 M),(17,Z p K t),(18,Pt N)]/\Bx w0 w bO G [.box b2 30 #[Z B x.a.a C,Z D x.a.b E,Z F x.c H,Z I x.b J],.box N 43 #[V b.d,.bool b.b,V b.c,Z e b.a h]] [.l B C x.a.a,.l D E x.a.b,.l F H x.c,.l I J x.b,.l p t K,.l e h b.a,.l L M a4]) (fun Jd hJd=>?_) ?_
 ·refine qA a [1] [] [] (by kernel_rfl) ?_;replace a:=a.drew;have o:=a.ad [1] [];refine uF 0 r (fun hS=>nA [Z B x.a.a C,Z D x.a.b E,Z F x.c H,Z I x.b J] Du r xL r r (Cells.part (hS.bk 0 r).cells (o2:=0) r)) o (pF 1 r (mi r) o (pF 2 r (mK r) o (pF 3 r (mi r) o (pF 5 r (mi r) o (pF 7 r (mi r) o ?_)))));refine mI 4 [13] (by kernel_rfl) (jJ ?_ (jJ ?_ lK))
  ·refine oc r r (ec Rc r) (Bf fu (a.pr [] [0,1] [] r) an) ?_;rintro _ aB ⟨rfl,z⟩;replace a:=a.cl [] [0,1] r z r;try dsimp only [pick,nth,ca,na] at a
   have o:=a.ad [1] [];refine ⟨sF o,?_⟩;refine mI 6 [13] (by kernel_rfl) (jJ ?_ (jJ ?_ lK))
   ·refine oc r r (ec DL r) (nX fu (a.pr [] [0,1] [] r) a9) ?_;rintro _ ao ⟨rfl,z⟩;replace a:=a.cl [] [0,1] r z r;try dsimp only [pick,nth,ca,na] at a
    have o:=a.ad [1] [];refine ⟨sF o,?_⟩;refine mI 8 [13] (by kernel_rfl) (jJ ?_ (jJ ?_ lK))
    ·refine oc r r (ec DL r) (nX fu (a.pr [] [0,1] [] r) a0) ?_;rintro _ aa ⟨rfl,z⟩;replace a:=a.cl [] [0,1] r z r;try dsimp only [pick,nth,ca,na] at a
     have o:=a.ad [1] [];refine ⟨sF o,?_⟩;refine mI 9 [13] (by kernel_rfl) (jJ ?_ (jJ ?_ lK))
     ·replace a:=a.Ob 0 0 r r;try dsimp only [List.eraseIdx] at a
      refine oc r r (ec RY r) (sG fu (a.pr [] [0] [4,5,6,7,0] r) Q) ?_;rintro _ a1 ⟨p,t,e,h,rfl,z⟩;replace a:=a.cl [] [0] r z r;try dsimp only [pick,nth,ca,na] at a
      have o:=a.dp [];refine ⟨sF o,?_⟩;refine pF 10 r rR o (pF 11 r (jX r r) o (pF 12 r (jX r r) o ?_));refine hO 13 (oo r r (nD a (jT uX)) ?_);rintro _ bb ⟨N,rfl,a⟩;have o:=a.ad [1] [];refine ⟨sF o,?_⟩;refine pF 14 r (mh r) o ?_;refine hO 15 (os r r (tb a 0 [V b.d,.bool b.b,V b.c,Z e b.a h] r uX r r r r r (show _=#[V b.d,.bool b.b,V b.c,Z e b.a h] from r)) ?_);intro bc a;try dsimp only [List.set] at a
      have o:=a.ad [1] [];refine ⟨sF o,?_⟩;refine hD ?_;exact hJd _ _ ⟨p,t,N,e,h,⟨r,r,r,r,r,r,r,r,y⟩,a.ad [1,0] [6,7,8,9,0,1,2]⟩
     refine oo r r (nD a (jT uX)) ?_;rintro _ bd ⟨aC,rfl,a⟩;have o:=a.ad [2] [];refine ⟨sF o,?_⟩;replace a:=a.Ob 1 0 r r;try dsimp only [List.eraseIdx] at a
     refine hO 9 (oc r r (ec RY r) (sG fu (a.pr [] [0,1] [4,5,6,7,0] r) Q) ?_);rintro _ a1 ⟨p,t,e,h,rfl,z⟩;replace a:=a.cl [] [0,1] r z r;try dsimp only [pick,nth,ca,na] at a
     have o:=a.ad [1] [];refine ⟨sF o,?_⟩;refine pF 10 r rR o (pF 11 r (jX r r) o (pF 12 r (jX r r) o (pF 14 r (mh r) o ?_)));refine hO 15 (os r r (tb a 0 [V b.d,.bool b.b,V b.c,Z e b.a h] r uX r r r r r (show _=#[V b.d,.bool b.b,V b.c,Z e b.a h] from r)) ?_);intro bg a;try dsimp only [List.set] at a
     have o:=a.ad [1] [];refine ⟨sF o,?_⟩;refine hD ?_;exact hJd _ _ ⟨p,t,aC,e,h,⟨r,r,r,r,r,r,r,r,y⟩,a.ad [1,0] [6,7,8,9,0,1,2]⟩
    refine oo r r (nD a (jT uX)) ?_;rintro _ bh ⟨aD,rfl,a⟩;have o:=a.ad [2] [];refine ⟨sF o,?_⟩;refine hO 8 (oc r r (ec DL r) (nX fu (a.pr [] [0,1,2] [] r) a0) ?_);rintro _ aa ⟨rfl,z⟩;replace a:=a.cl [] [0,1,2] r z r;try dsimp only [pick,nth,ca,na] at a
    have o:=a.ad [2] [];refine ⟨sF o,?_⟩;replace a:=a.Ob 1 0 r r;try dsimp only [List.eraseIdx] at a
    refine hO 9 (oc r r (ec RY r) (sG fu (a.pr [] [0,1] [4,5,6,7,0] r) Q) ?_);rintro _ a1 ⟨p,t,e,h,rfl,z⟩;replace a:=a.cl [] [0,1] r z r;try dsimp only [pick,nth,ca,na] at a
    have o:=a.ad [1] [];refine ⟨sF o,?_⟩;refine pF 10 r rR o (pF 11 r (jX r r) o (pF 12 r (jX r r) o (pF 14 r (mh r) o ?_)));refine hO 15 (os r r (tb a 0 [V b.d,.bool b.b,V b.c,Z e b.a h] r uX r r r r r (show _=#[V b.d,.bool b.b,V b.c,Z e b.a h] from r)) ?_);intro bi a;try dsimp only [List.set] at a
    have o:=a.ad [1] [];refine ⟨sF o,?_⟩;refine hD ?_;exact hJd _ _ ⟨p,t,aD,e,h,⟨r,r,r,r,r,r,r,r,y⟩,a.ad [1,0] [6,7,8,9,0,1,2]⟩
   refine oo r r (nD a (jT uX)) ?_;rintro _ bj ⟨aE,rfl,a⟩;have o:=a.ad [2] [];refine ⟨sF o,?_⟩;refine hO 6 (oc r r (ec DL r) (nX fu (a.pr [] [0,1,2] [] r) a9) ?_);rintro _ ao ⟨rfl,z⟩;replace a:=a.cl [] [0,1,2] r z r;try dsimp only [pick,nth,ca,na] at a
   have o:=a.ad [2] [];refine ⟨sF o,?_⟩;refine hO 8 (oc r r (ec DL r) (nX fu (a.pr [] [0,1,2] [] r) a0) ?_);rintro _ aa ⟨rfl,z⟩;replace a:=a.cl [] [0,1,2] r z r;try dsimp only [pick,nth,ca,na] at a
   have o:=a.ad [2] [];refine ⟨sF o,?_⟩;replace a:=a.Ob 1 0 r r;try dsimp only [List.eraseIdx] at a
   refine hO 9 (oc r r (ec RY r) (sG fu (a.pr [] [0,1] [4,5,6,7,0] r) Q) ?_);rintro _ a1 ⟨p,t,e,h,rfl,z⟩;replace a:=a.cl [] [0,1] r z r;try dsimp only [pick,nth,ca,na] at a
   have o:=a.ad [1] [];refine ⟨sF o,?_⟩;refine pF 10 r rR o (pF 11 r (jX r r) o (pF 12 r (jX r r) o (pF 14 r (mh r) o ?_)));refine hO 15 (os r r (tb a 0 [V b.d,.bool b.b,V b.c,Z e b.a h] r uX r r r r r (show _=#[V b.d,.bool b.b,V b.c,Z e b.a h] from r)) ?_);intro bl a;try dsimp only [List.set] at a
   have o:=a.ad [1] [];refine ⟨sF o,?_⟩;refine hD ?_;exact hJd _ _ ⟨p,t,aE,e,h,⟨r,r,r,r,r,r,r,r,y⟩,a.ad [1,0] [6,7,8,9,0,1,2]⟩
  refine oo r r (nD a (jT uX)) ?_;rintro _ bm ⟨aF,rfl,a⟩;have o:=a.ad [2] [];refine ⟨sF o,?_⟩;refine hO 4 (oc r r (ec Rc r) (Bf fu (a.pr [] [0,1,2] [] r) an) ?_);rintro _ aB ⟨rfl,z⟩;replace a:=a.cl [] [0,1,2] r z r;try dsimp only [pick,nth,ca,na] at a
  have o:=a.ad [2] [];refine ⟨sF o,?_⟩;refine hO 6 (oc r r (ec DL r) (nX fu (a.pr [] [0,1,2] [] r) a9) ?_);rintro _ ao ⟨rfl,z⟩;replace a:=a.cl [] [0,1,2] r z r;try dsimp only [pick,nth,ca,na] at a
  have o:=a.ad [2] [];refine ⟨sF o,?_⟩;refine hO 8 (oc r r (ec DL r) (nX fu (a.pr [] [0,1,2] [] r) a0) ?_);rintro _ aa ⟨rfl,z⟩;replace a:=a.cl [] [0,1,2] r z r;try dsimp only [pick,nth,ca,na] at a
  have o:=a.ad [2] [];refine ⟨sF o,?_⟩;replace a:=a.Ob 1 0 r r;try dsimp only [List.eraseIdx] at a
  refine hO 9 (oc r r (ec RY r) (sG fu (a.pr [] [0,1] [4,5,6,7,0] r) Q) ?_);rintro _ a1 ⟨p,t,e,h,rfl,z⟩;replace a:=a.cl [] [0,1] r z r;try dsimp only [pick,nth,ca,na] at a
  have o:=a.ad [1] [];refine ⟨sF o,?_⟩;refine pF 10 r rR o (pF 11 r (jX r r) o (pF 12 r (jX r r) o (pF 14 r (mh r) o ?_)));refine hO 15 (os r r (tb a 0 [V b.d,.bool b.b,V b.c,Z e b.a h] r uX r r r r r (show _=#[V b.d,.bool b.b,V b.c,Z e b.a h] from r)) ?_);intro bn a;try dsimp only [List.set] at a
  have o:=a.ad [1] [];refine ⟨sF o,?_⟩;refine hD ?_;exact hJd _ _ ⟨p,t,aF,e,h,⟨r,r,r,r,r,r,r,r,y⟩,a.ad [1,0] [6,7,8,9,0,1,2]⟩
 clear a;rintro f w ⟨p,t,N,e,h,hf,a⟩;obtain ⟨bP,rfl⟩:=mZ hf;refine q ?_;obtain ⟨aG,ap,A⟩:=bs A;obtain ⟨aH,ab,A⟩:=bs A;obtain ⟨aI,a2,A⟩:=bs A;obtain ⟨⟨R,c⟩,S,A⟩:=bs A;replace A:=pi A;refine qR (fun f w=>∃ u v U j m,Has f [(17,Z p K t),(18,Pt N),(19,Z u R v),(20,Pt U)]/\Bx w0 w bO G [.box N 43 #[V b.d,.bool b.b,V b.c,Z e b.a h],.box U 43 #[V c.d,.bool c.b,V c.c,Z j c.a m]] [.l p t K,.l e h b.a,.l u v R,.l j m c.a]) (fun Jd hJd=>?_) ?_
 ·refine qA a [0] [] [] (by kernel_rfl) ?_;replace a:=a.drew;have o:=a.ad [0] [];refine uF 0 r (fun hS=>nA [Z B x.a.a C,Z D x.a.b E,Z F x.c H,Z I x.b J] Du r xL r r (Cells.part (hS.bk 0 r).cells (o2:=0) r)) o (pF 1 r (mi r) o (pF 2 r (mK r) o (pF 3 r (mi r) o (pF 5 r (mi r) o (pF 7 r (mi r) o ?_)))));refine mI 4 [13] (by kernel_rfl) (jJ ?_ (jJ ?_ lK))
  ·refine oc r r (ec Rc r) (Bf fu (a.pr [] [0,1] [] r) ap) ?_;rintro _ aJ ⟨rfl,z⟩;replace a:=a.cl [] [0,1] r z r;try dsimp only [pick,nth,ca,na] at a
   have o:=a.ad [0] [];refine ⟨sF o,?_⟩;refine mI 6 [13] (by kernel_rfl) (jJ ?_ (jJ ?_ lK))
   ·refine oc r r (ec DL r) (nX fu (a.pr [] [0,1] [] r) ab) ?_;rintro _ aq ⟨rfl,z⟩;replace a:=a.cl [] [0,1] r z r;try dsimp only [pick,nth,ca,na] at a
    have o:=a.ad [0] [];refine ⟨sF o,?_⟩;refine mI 8 [13] (by kernel_rfl) (jJ ?_ (jJ ?_ lK))
    ·refine oc r r (ec DL r) (nX fu (a.pr [] [0,1] [] r) a2) ?_;rintro _ ac ⟨rfl,z⟩;replace a:=a.cl [] [0,1] r z r;try dsimp only [pick,nth,ca,na] at a
     have o:=a.ad [0] [];refine ⟨sF o,?_⟩;refine mI 9 [13] (by kernel_rfl) (jJ ?_ (jJ ?_ lK))
     ·refine oc r r (ec OV r) (yc fu (a.pr [] [0,1] [0,1,2,3,6] r) S) ?_;rintro _ a3 ⟨u,v,j,m,rfl,z⟩;replace a:=a.cl [] [0,1] r z r;try dsimp only [pick,nth,ca,na] at a
      have o:=a.ad [0] [];refine ⟨sF o,?_⟩;refine pF 10 r rR o (pF 11 r (jX r r) o (pF 12 r (jX r r) o ?_));refine hO 13 (oo r r (nD a (jT uX)) ?_);rintro _ bo ⟨U,rfl,a⟩;have o:=a.ad [1] [];refine ⟨sF o,?_⟩;refine pF 14 r (mh r) o ?_;refine hO 15 (os r r (tb a 0 [V c.d,.bool c.b,V c.c,Z j c.a m] r uX r r r r r (show _=#[V c.d,.bool c.b,V c.c,Z j c.a m] from r)) ?_);intro bp a;try dsimp only [List.set] at a
      have o:=a.ad [1] [];refine ⟨sF o,?_⟩;refine hD ?_;exact hJd _ _ ⟨u,v,U,j,m,⟨r,r,r,r,y⟩,a.ad [2,0] [6,7,0,1]⟩
     refine oo r r (nD a (jT uX)) ?_;rintro _ bq ⟨aK,rfl,a⟩;have o:=a.ad [1] [];refine ⟨sF o,?_⟩;refine hO 9 (oc r r (ec OV r) (yc fu (a.pr [] [0,1,2] [0,1,2,3,6] r) S) ?_);rintro _ a3 ⟨u,v,j,m,rfl,z⟩;replace a:=a.cl [] [0,1,2] r z r;try dsimp only [pick,nth,ca,na] at a
     have o:=a.ad [1] [];refine ⟨sF o,?_⟩;refine pF 10 r rR o (pF 11 r (jX r r) o (pF 12 r (jX r r) o (pF 14 r (mh r) o ?_)));refine hO 15 (os r r (tb a 0 [V c.d,.bool c.b,V c.c,Z j c.a m] r uX r r r r r (show _=#[V c.d,.bool c.b,V c.c,Z j c.a m] from r)) ?_);intro br a;try dsimp only [List.set] at a
     have o:=a.ad [1] [];refine ⟨sF o,?_⟩;refine hD ?_;exact hJd _ _ ⟨u,v,aK,j,m,⟨r,r,r,r,y⟩,a.ad [2,0] [6,7,0,1]⟩
    refine oo r r (nD a (jT uX)) ?_;rintro _ bu ⟨aL,rfl,a⟩;have o:=a.ad [1] [];refine ⟨sF o,?_⟩;refine hO 8 (oc r r (ec DL r) (nX fu (a.pr [] [0,1,2] [] r) a2) ?_);rintro _ ac ⟨rfl,z⟩;replace a:=a.cl [] [0,1,2] r z r;try dsimp only [pick,nth,ca,na] at a
    have o:=a.ad [1] [];refine ⟨sF o,?_⟩;refine hO 9 (oc r r (ec OV r) (yc fu (a.pr [] [0,1,2] [0,1,2,3,6] r) S) ?_);rintro _ a3 ⟨u,v,j,m,rfl,z⟩;replace a:=a.cl [] [0,1,2] r z r;try dsimp only [pick,nth,ca,na] at a
    have o:=a.ad [1] [];refine ⟨sF o,?_⟩;refine pF 10 r rR o (pF 11 r (jX r r) o (pF 12 r (jX r r) o (pF 14 r (mh r) o ?_)));refine hO 15 (os r r (tb a 0 [V c.d,.bool c.b,V c.c,Z j c.a m] r uX r r r r r (show _=#[V c.d,.bool c.b,V c.c,Z j c.a m] from r)) ?_);intro bv a;try dsimp only [List.set] at a
    have o:=a.ad [1] [];refine ⟨sF o,?_⟩;refine hD ?_;exact hJd _ _ ⟨u,v,aL,j,m,⟨r,r,r,r,y⟩,a.ad [2,0] [6,7,0,1]⟩
   refine oo r r (nD a (jT uX)) ?_;rintro _ bw ⟨aM,rfl,a⟩;have o:=a.ad [1] [];refine ⟨sF o,?_⟩;refine hO 6 (oc r r (ec DL r) (nX fu (a.pr [] [0,1,2] [] r) ab) ?_);rintro _ aq ⟨rfl,z⟩;replace a:=a.cl [] [0,1,2] r z r;try dsimp only [pick,nth,ca,na] at a
   have o:=a.ad [1] [];refine ⟨sF o,?_⟩;refine hO 8 (oc r r (ec DL r) (nX fu (a.pr [] [0,1,2] [] r) a2) ?_);rintro _ ac ⟨rfl,z⟩;replace a:=a.cl [] [0,1,2] r z r;try dsimp only [pick,nth,ca,na] at a
   have o:=a.ad [1] [];refine ⟨sF o,?_⟩;refine hO 9 (oc r r (ec OV r) (yc fu (a.pr [] [0,1,2] [0,1,2,3,6] r) S) ?_);rintro _ a3 ⟨u,v,j,m,rfl,z⟩;replace a:=a.cl [] [0,1,2] r z r;try dsimp only [pick,nth,ca,na] at a
   have o:=a.ad [1] [];refine ⟨sF o,?_⟩;refine pF 10 r rR o (pF 11 r (jX r r) o (pF 12 r (jX r r) o (pF 14 r (mh r) o ?_)));refine hO 15 (os r r (tb a 0 [V c.d,.bool c.b,V c.c,Z j c.a m] r uX r r r r r (show _=#[V c.d,.bool c.b,V c.c,Z j c.a m] from r)) ?_);intro bz a;try dsimp only [List.set] at a
   have o:=a.ad [1] [];refine ⟨sF o,?_⟩;refine hD ?_;exact hJd _ _ ⟨u,v,aM,j,m,⟨r,r,r,r,y⟩,a.ad [2,0] [6,7,0,1]⟩
  refine oo r r (nD a (jT uX)) ?_;rintro _ bA ⟨aN,rfl,a⟩;have o:=a.ad [1] [];refine ⟨sF o,?_⟩;refine hO 4 (oc r r (ec Rc r) (Bf fu (a.pr [] [0,1,2] [] r) ap) ?_);rintro _ aJ ⟨rfl,z⟩;replace a:=a.cl [] [0,1,2] r z r;try dsimp only [pick,nth,ca,na] at a
  have o:=a.ad [1] [];refine ⟨sF o,?_⟩;refine hO 6 (oc r r (ec DL r) (nX fu (a.pr [] [0,1,2] [] r) ab) ?_);rintro _ aq ⟨rfl,z⟩;replace a:=a.cl [] [0,1,2] r z r;try dsimp only [pick,nth,ca,na] at a
  have o:=a.ad [1] [];refine ⟨sF o,?_⟩;refine hO 8 (oc r r (ec DL r) (nX fu (a.pr [] [0,1,2] [] r) a2) ?_);rintro _ ac ⟨rfl,z⟩;replace a:=a.cl [] [0,1,2] r z r;try dsimp only [pick,nth,ca,na] at a
  have o:=a.ad [1] [];refine ⟨sF o,?_⟩;refine hO 9 (oc r r (ec OV r) (yc fu (a.pr [] [0,1,2] [0,1,2,3,6] r) S) ?_);rintro _ a3 ⟨u,v,j,m,rfl,z⟩;replace a:=a.cl [] [0,1,2] r z r;try dsimp only [pick,nth,ca,na] at a
  have o:=a.ad [1] [];refine ⟨sF o,?_⟩;refine pF 10 r rR o (pF 11 r (jX r r) o (pF 12 r (jX r r) o (pF 14 r (mh r) o ?_)));refine hO 15 (os r r (tb a 0 [V c.d,.bool c.b,V c.c,Z j c.a m] r uX r r r r r (show _=#[V c.d,.bool c.b,V c.c,Z j c.a m] from r)) ?_);intro bB a;try dsimp only [List.set] at a
  have o:=a.ad [1] [];refine ⟨sF o,?_⟩;refine hD ?_;exact hJd _ _ ⟨u,v,aN,j,m,⟨r,r,r,r,y⟩,a.ad [2,0] [6,7,0,1]⟩
 clear a;rintro f w ⟨u,v,U,j,m,hf,a⟩;obtain ⟨bP,rfl⟩:=mZ hf;refine q (g (s (mK r) (s (mK r) ?_)));obtain ⟨aO,aP,A⟩:=bs A;refine sc (ec abF r) (Ja fu (a.pr [] [0,1] [0,2] r) aP) ?_;rintro _ bC ⟨rfl,z⟩;replace a:=a.cl [] [0,1] r z r;try dsimp only [pick,nth,ca,na] at a
 refine s (kV r) ?_;rcases iv A with ⟨W,A⟩|⟨W,A⟩
 ·rw [W];refine kG r (s (nA [V b.d,.bool b.b,V b.c,Z e b.a h] JK r uX r r (Cells.part (a.bk 0 r).cells (o2:=0) r)) (kG r (s (nA [V c.d,.bool c.b,V c.c,Z j c.a m] JK r uX r r (Cells.part (a.bk 1 r).cells (o2:=0) r)) ?_)));obtain ⟨aQ,aR,A⟩:=bs A;refine kG r ?_;refine sc (ec ab2 r) (Ii fu (a.pr [] [0,1] [1,3] r) aR) ?_;rintro _ bD ⟨rfl,z⟩;replace a:=a.cl [] [0,1] r z r;try dsimp only [pick,nth,ca,na] at a
  refine s (kP r r) (s (kV r) ?_);rcases iv A with ⟨X,A⟩|⟨X,A⟩
  ·rw [X];obtain ⟨aS,aT,A⟩:=bs A;refine kG r ?_;refine sc (ec aaE r) (F9 fu (a.pr [] [0,1] [] r) aT) ?_;rintro _ bE ⟨rfl,z⟩;replace a:=a.cl [] [0,1] r z r;try dsimp only [pick,nth,ca,na] at a
   refine s (kP r r) (s (kD r) (n (kH ?_)));obtain rfl:=sm A;refine jC r (kL r) ?_;exact ⟨r,a.ad [] []⟩
  replace X:=nt X;rw [X];refine jM r (s (ko r r) (s (kD r) (n (kH ?_))));obtain rfl:=sm A;refine jC r (kL r) ?_;exact ⟨r,a.ad [] []⟩
 replace W:=nt W;rw [W];refine jM r (jM r (jM r (s (ko r r) (s (kV r) (jM r (s (ko r r) (s (kD r) (n (kH ?_)))))))));obtain rfl:=sm A;refine jC r (kL r) ?_;exact ⟨r,a.ad [] []⟩
end
theorem ob {α β:Type}{x:α}{f:α->Option β}:(some x).bind f=f x:=rfl
theorem E8 {α:Type}{l:List α}{i:Nat}{x:α}(h:l[i]?=some x):ix l (i:Int)=some x:=by unfold Go.Fw.ix;rw [jR (by omega),AY,h]
theorem wrs {i:Nat}(h:i<=1000000):wr ((i:Int)+1)=((i+1:Nat):Int):=by rw [lM (by omega) (by omega)];omega
section
variable {fu:Nat}
theorem Pq {l:List Int}(hl:l.length≤100000):∀ (n i:Nat),l.length+1≤n+i→i≤l.length→vv fu l l n (i:Int)=some (.go (l.length:Int))
 | 0,_,h,h2=>by omega
 | n+1,i,h,h2=>by
  rw [vv];by_cases c:(i:Int) < l.length
  · obtain ⟨x,hx⟩:=lZ (l:=l) (k:=i) (by omega);rw [kg c,E8 hx,ob,ob,jR (by simp),wrs (by omega)];exact Pq hl n (i+1) (by omega) (by omega)
  · rw [jR c,show i=l.length by omega]
theorem XU {l:List Int}(hl:l.length<=100000)(hf:l.length+1<=fu):zF fu l l=some true:=by unfold zF;rw [jR (by simp),show (0:Int)=((0:Nat):Int) from rfl,Pq hl fu 0 (by omega) (uy _)];rfl
theorem KZ {l:List Bool}(hl:l.length≤100000):∀ (n i:Nat),l.length+1≤n+i→i≤l.length→uj fu l l n (i:Int)=some (.go (l.length:Int))
 | 0,_,h,h2=>by omega
 | n+1,i,h,h2=>by
  rw [uj];by_cases c:(i:Int) < l.length
  · obtain ⟨x,hx⟩:=lZ (l:=l) (k:=i) (by omega);rw [kg c,E8 hx,ob,ob,jR (by simp),wrs (by omega)];exact KZ hl n (i+1) (by omega) (by omega)
  · rw [jR c,show i=l.length by omega]
theorem Zd {l:List Bool}(hl:l.length<=100000)(hf:l.length+1<=fu):AU fu l l=some true:=by unfold AU;rw [jR (by simp),show (0:Int)=((0:Nat):Int) from rfl,KZ hl fu 0 (by omega) (uy _)];rfl
def Zy (f:nK):Prop:=f.c.length<=24/\∀ x ∈ f.c,x.b.length<=8/\x.a.length<=8
def VZ (e:kC):Prop:=e.a.length<=20/\∀ f ∈ e.a,Zy f
theorem JL (hf:100≤fu){f:nK}(hs:Zy f):∀ (n i:Nat),f.c.length+1≤n+i→i≤f.c.length→sD fu f f n (i:Int)=some (.go (f.c.length:Int))
 | 0,_,h,h2=>by omega
 | n+1,i,h,h2=>by
  have:=hs.1;rw [sD];by_cases c:(i:Int) < f.c.length
  · obtain ⟨x,hx⟩:=lZ (l:=f.c) (k:=i) (by omega);have k:=hs.2 x (wC hx);rw [kg c,E8 hx,ob,ob,jR (by simp),Zd (by omega) (by omega),ob,jR (by decide),XU (by omega) (by omega),ob,jR (by decide),wrs (by omega)];exact JL hf hs n (i+1) (by omega) (by omega)
  · rw [jR c,show i=f.c.length by omega]
theorem WT (hf:100<=fu){f:nK}(hs:Zy f):yI fu f f=some true:=by have:=hs.1;unfold yI;rw [jR (by simp),jR (by simp),jR (by simp),show (0:Int)=((0:Nat):Int) from rfl,JL hf hs fu 0 (by omega) (uy _)];rfl
theorem Rh (hf:100≤fu){l:List kC}{b:Nat}{e:kC}(hb:l[b]?=some e)(hs:VZ e):∀ (n i:Nat),e.a.length+1≤n+i→i≤e.a.length→rQ fu l l (b:Int) n (i:Int)=some (.go (e.a.length:Int))
 | 0,_,h,h2=>by omega
 | n+1,i,h,h2=>by
  have:=hs.1;rw [rQ,E8 hb,ob];by_cases c:(i:Int) < e.a.length
  · obtain ⟨x,hx⟩:=lZ (l:=e.a) (k:=i) (by omega);rw [kg c,E8 hx,ob,ob,E8 hx,ob,WT hf (hs.2 x (wC hx)),ob,jR (by decide),wrs (by omega)];exact Rh hf hb hs n (i+1) (by omega) (by omega)
  · rw [jR c,show i=e.a.length by omega]
theorem Q0 (hf:100≤fu){l:List kC}(hl:l.length≤100000)(hs:∀ e ∈ l,VZ e):∀ (n i:Nat),l.length+1≤n+i→i≤l.length→rO fu l l n (i:Int)=some (.go (l.length:Int))
 | 0,_,h,h2=>by omega
 | n+1,i,h,h2=>by
  rw [rO];by_cases c:(i:Int) < l.length
  · obtain ⟨x,hx⟩:=lZ (l:=l) (k:=i) (by omega);have hx2:=hs x (wC hx);have:=hx2.1;rw [kg c,E8 hx,ob,ob,jR (by simp),show (0:Int)=((0:Nat):Int) from rfl,Rh hf hx hx2 fu 0 (by omega) (uy _),wrs (by omega)];exact Q0 hf hl hs n (i+1) (by omega) (by omega)
  · rw [jR c,show i=l.length by omega]
theorem ab6 (hf:100<=fu){l:List kC}(hl:l.length<=100000)(hl2:l.length+1<=fu)(hs:∀ e ∈ l,VZ e):tq fu l l=some true:=by unfold tq;rw [jR (by simp),show (0:Int)=((0:Nat):Int) from rfl,Q0 hf hl hs fu 0 (by omega) (uy _)];rfl
theorem Xx {o:mU}(hl:o.a.length<=100000)(hf:o.a.length+1<=fu):rW fu o o=some true:=by unfold rW;rw [kg rfl,kg rfl,kg rfl,XU hl hf];rfl
end
theorem Fit.row {s:jL}{g:qx}(h:Fit s g){l:List Int}{k:Nat}(hk:g.ws[k]?=some l):l.length<=8:=by
 obtain ⟨_,V,h1,h2,h3⟩:=h;have e:(g.ws.map List.length)[k]?=some l.length:=by rw [BR,hk];rfl
 rw [h2,BR] at e;cases hV:V[k]? with
 | none=>rw [hV] at e;cases e
 | some x=>
  rw [hV] at e;have:=h3 x (wC hV);have:x.a.toNat=l.length:=vK e;omega
theorem QE.sz {s:jL}(hv:∀ V ∈ s.c,V.length<=24){e:kC}(h:QE s e):VZ e:=by obtain ⟨gs,h1,h2,h3⟩:=h;refine ⟨by rw [h1,xR];exact h2,fun f hf=>?_⟩;rw [h1] at hf;obtain ⟨g,hg,rfl⟩:=List.mem_map.1 hf;refine ⟨by unfold frO;rw [xR];exact Po hv,fun x hx=>?_⟩;obtain ⟨v,hv2,rfl⟩:=List.mem_map.1 hx;have hb:=(h3 g hg).vis hv2;obtain ⟨l,hl⟩:=lZ (l:=g.ws) (k:=v.toNat) (by omega);have h8:=(h3 g hg).row hl;unfold shO;rw [Gb,hl];exact ⟨by rw [List.length_replicate];exact h8,h8⟩
def adj:Pn Int→List Int→mU
 | .ok v,o=>⟨0,false,v,o⟩
 | .uP v,o=>⟨0,true,v,o⟩
 | .err e,o=>⟨e,false,0,o⟩
 | .rt,o=>⟨4,false,0,o⟩
theorem UO {s:jL}(hs:CI s){fu:Nat}(hf:10100<=fu){f:Int}{args:List Int}{n:Int}(h0:0<=n)(hn:n<=5000) :∃ h o,(∀ fr mo:Int,0<=fr->0<=mo->mo<=100->lY fu s f args n fr mo=some (window h fr.toNat mo.toNat,o))/\h.length<=n.toNat/\o.a.length<=h.length/\∀ e ∈ h,QE s e:=by
 have bad:(∀ fr mo:Int,0<=fr->0<=mo->mo<=100->lY fu s f args n fr mo=some ([],⟨1,false,0,[]⟩))->∃ h o,(∀ fr mo:Int,0<=fr->0<=mo->mo<=100->lY fu s f args n fr mo=some (window h fr.toNat mo.toNat,o))/\h.length<=n.toNat/\o.a.length<=h.length/\∀ e ∈ h,QE s e:=fun h=>
  ⟨[],⟨1,false,0,[]⟩,fun fr mo h1 h2 h3=>by rw [h fr mo h1 h2 h3];simp [window],uy _,oH _,fun e he=>by cases he⟩
 unfold lY traceM at bad ⊢;cases hF:ix? s.a.b f with
 | none=>rw [hF] at bad;exact bad fun _ _ _ _ _=>rfl
 | some fn=>
  rw [hF] at bad;dsimp only at bad ⊢;by_cases hp:args.length≠fn.a.length
  · exact bad fun fr mo _ _ _=>kg (.inl hp)
  obtain ⟨r,hr,hC⟩:=VI (s:=s) (N:=n.toNat) hs (sm:=stM (jD fu s) s n.toNat fu) (stk:=[]) (f:=f) (args:=args) (hist:=[]) (out:=[]) (uy _) (oH _) (fun e he=>by cases he)
    fun _ S x k h10 _ hG hX=>acF hs (by omega) fu [] S x k (fun g hg=>by cases hg) (uy _) hG hX h10 (by omega)
  obtain ⟨p,h,o⟩:=r;refine ⟨h,adj p o,fun fr mo h1 h2 h3=>?_,hC.hl,?_,hC.ev⟩
  · rw [jR (by omega),hr];cases p <;> rfl
  · cases p <;> exact hC.ol
theorem TY:Az 10100=some true:=by kernel_rfl
theorem Vy {fu:Nat}{n:Int}:kS (xX fu n) (fun v=>0<=v/\v<=400):=by unfold xX;exact .bd (NZ (by omega) (by omega)) fun v hv=>.mk ⟨hv.1,by omega⟩
theorem Wp {fu:Nat}{s:jL}(hs:CW s){f:Int}{args:List Int}{n fr mo:Int}:AA fu s f args n fr mo=lY fu s f args n fr mo:=by unfold AA;rw [kg ⟨adR hs,abO hs⟩]
theorem WR {h:List kC}{a m:Nat}:(window h a m).length<=h.length:=by unfold window;rw [yM,Er];omega
theorem Wo {h:List kC}{a m:Nat}{e:kC}(he:e ∈ window h a m):e ∈ h:=by unfold window at he;exact List.mem_of_mem_drop (List.mem_of_mem_take he)
theorem QC {s:jL}(hs:CI s){f:Int}{args:List Int}{n fr mo:Int}:∃ h o,lY 10100 s f args n fr mo=some (h,o)/\tq 10100 h h=some true/\rW 10100 o o=some true:=by
 have bad:lY 10100 s f args n fr mo=some ([],⟨1,false,0,[]⟩)->∃ h o,lY 10100 s f args n fr mo=some (h,o)/\tq 10100 h h=some true/\rW 10100 o o=some true:=fun h=>
   ⟨_,_,h,ab6 (by decide) (by decide) (by decide) (fun e he=>by cases he),Xx (by decide) (by decide)⟩
 by_cases hc:0<=n/\n<=5000/\0<=fr/\0<=mo/\mo<=100
 · obtain ⟨h,o,h1,h2,h3,h4⟩:=UO hs (oH 10100) (f:=f) (args:=args) hc.1 hc.2.1;refine ⟨_,_,h1 fr mo hc.2.2.1 hc.2.2.2.1 hc.2.2.2.2,?_,Xx (by omega) (by omega)⟩;have hw:=WR (h:=h) (a:=fr.toNat) (m:=mo.toNat);exact ab6 (by decide) (by omega) (by omega) fun e he=>(h4 e (Wo he)).sz hs.vn
 · refine bad ?_;unfold lY traceM;cases hF:ix? s.a.b f with
   | none=>rfl
   | some fn=>dsimp only;rw [if_pos (by omega)]
end Go.Proofs.YtfglbdkfnphjgaaGreat
