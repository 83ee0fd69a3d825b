/- A checked source runs without run-time panics and without errors of form: statements, calls, runs. -/
import Derived.Test.YtfglbdkfnphjgaaGreatZ26
import Derived.Test.YtfglbdkfnphjgaaGreatZ4
import Derived.Test.YtfglbdkfnphjgaaGreatZ17
import Derived.Test.YtfglbdkfnphjgaaGreatZ23
import Derived.Test.YtfglbdkfnphjgaaGreatZ18
import Derived.WalkKit
import Derived.ProofKit
import Derived.OpenShut
import Derived.ChangeOld
import Derived.SizedLaws
import Derived.Lib.SmallJoins
import Derived.Deep.Slices
import Derived.Deep.Fields
set_option linter.unusedVariables false
set_option linter.unusedSimpArgs false
namespace Go.Proofs.YtfglbdkfnphjgaaGreat
open Go.RowKit Go.Fw Go.Proofs.Tryz
theorem R8:∀ (l:List Int) (i:Nat) (ws:List (List Int)),(∀ j,j < l.length→∃ row,ws[i+j]?=some row∧row≠[])→∃ ws',Cg l i ws=.ok ws'∧ws'.map List.length=ws.map List.length
 | [],i,ws,_=>⟨ws,rfl,rfl⟩
 | v :: l,i,ws,h=>by
  obtain ⟨row,h1,h2⟩:=h 0 (by simp);rw [Nat.add_zero] at h1;rw [Cg,h1];cases row with
  | nil=>exact absurd rfl h2
  | cons z row=>
   obtain ⟨ws',h3,h4⟩:=R8 l (i+1) (ws.set i (v :: row)) (fun j hj=>by
    obtain ⟨r,h5,h6⟩:=h (j+1) (by simp;omega);refine ⟨r,?_,h6⟩;rw [List.getElem?_set_ne (by omega),show i+1+j=i+(j+1) by omega];exact h5)
   refine ⟨ws',h3,?_⟩;rw [h4,List.map_set];exact set_self (by rw [List.getElem?_map,h1];rfl)
theorem JK {vis:Int->Int->Option (List Int)} {st:Nat} {rest:List pQ} {S S1:Sg} {id:Int} {q:Pn Unit} (h:event vis st rest S id=some (q,S1)):S1.a.ws=S.a.ws/\(q=.err 13\/q=.ok ()):=by
 unfold event at h;rcases jC h with ⟨_,h⟩|⟨_,h⟩
 · cases h;exact ⟨rfl,.inl rfl⟩
 · obtain ⟨fs,_,h⟩:=bs h;cases h;exact ⟨rfl,.inr rfl⟩
theorem Oq {α:Type} {l:List α} (h:l.length≠0):∃ x r,l=x :: r:=by
 cases l with
 | nil=>exact absurd rfl h
 | cons x r=>exact ⟨x,r,rfl⟩
structure CW (s:jL):Prop where
 sw:Xd s
 w8:∀ V ∈ s.c,∀ v ∈ V,0<=v.a/\v.a<=8
 fx:∀ f ∈ s.a.b,FX f
def Wk (V:List jy) (r:Pn (Option Int) × Sg):Prop:=Gp r.1/\Ft V r.2.a.ws
section
variable {s:jL} {V:List jy} {k:Int} {n:Nat}
def Ws (s:jL) (sm:Sm) (V:List jy) (k:Int) (n:Nat):Prop:=∀ S x r a b,SW s.b V (yN s.a.b) k [x] a b->Ga n x->Ft V S.a.ws->sm S x=some r->Wk V r
theorem Ov {sm:Sm} (hS:Ws s sm V k n):∀ {l:List jI} {a b:Nat} {S:Sg} {r:Pn (Option Int) × Sg},SW s.b V (yN s.a.b) k l a b→(∀ y ∈ l,Ga n y)→Ft V S.a.ws→Dp sm S l=some r→Wk V r
 | [],_,_,S,r,_,_,hf,h=>by cases h;exact ⟨trivial,hf⟩
 | x :: l,a,b,S,r,hw,hx,hf,h=>by
  rw [Dp] at h;obtain ⟨⟨q,S1⟩,h1,h⟩:=bs h;obtain ⟨c,d,hw1⟩:=KF hw x (.head _);have k1:=hS S x _ _ _ hw1 (hx x (.head _)) hf h1;cases hw with
  | cons _ _ _ _ _ _ _ _ _ _ nx=>
   cases q with
   | ok o=>cases o with
    | none=>exact Ov hS nx (fun y hy=>hx y (.tail _ hy)) k1.2 h
    | some v=>cases h;exact k1
   | _=>cases h;exact k1
theorem M4 {fu m:Nat} (hC:Cx s V) {l:List jA} {S S':Sg} {K:Int->Option (Pn (Option Int) × Sg)} {r:Pn (Option Int) × Sg} (hf:Ft V S.a.ws) (hx:∀ y ∈ l,RX V y) (hk:∀ y ∈ l,yx m y) (hl:l.length≠0) (hS:Ft V S'.a.ws) (h:one (wu fu S.a.ws) l S' K=some r) (hK:∀ v,K v=some r->Wk V r):Wk V r:=by
 obtain ⟨x,t,rfl⟩:=Oq hl;unfold one at h;obtain ⟨q,hq,h⟩:=bs h;have:=Tc hC fu m hf (hx x (.head _)) (hk x (.head _)) hq;cases q with
 | ok v=>exact hK v h
 | tV t=>cases h;exact ⟨trivial,hS⟩
 | err e=>exact this.elim
 | rt=>exact this.elim
theorem RV {fu m:Nat} (hC:Cx s V) {l:List jA} {S S':Sg} {K:Nat × Nat->Option (Pn (Option Int) × Sg)} {r:Pn (Option Int) × Sg} (hf:Ft V S.a.ws) (hx:∀ y ∈ l,RX V y) (hk:∀ y ∈ l,yx (m+1) y) (ho:∀ y ∈ l,y.e=1\/y.e=2\/y.e=3) (hl:l.length≠0) (hS:Ft V S'.a.ws) (h:I6 (wu fu S.a.ws) S.a.ws l S' K=some r) (hK:∀ v,K v=some r->Wk V r):Wk V r:=by
 obtain ⟨x,t,rfl⟩:=Oq hl;unfold I6 at h;obtain ⟨q,hq,h⟩:=bs h;have hxx:=hx x (.head _);have hkx:=hk x (.head _);have:=Zu hC hf hxx hkx.1.2 (ho x (.head _)) (fun y hy p hp=>Tc hC fu m hf (by cases hxx with | mk _ k=>exact k y hy) (hkx.2 y hy) hp) hq;cases q with
 | ok v=>exact hK v h
 | tV t=>cases h;exact ⟨trivial,hS⟩
 | err e=>exact this.elim
 | rt=>exact this.elim
theorem Ri (hs:CW s) {sm:List pQ->Sm} (hS:∀ (stk:List pQ) (V:List jy) (k:Int) (n:Nat),Cx s V->Ws s (sm stk) V k n) {stk:List pQ} {f:Int} {args:List Int} {hist h:List ko} {out o:List Int} {p:Pn Int} (hf:ix (yN s.a.b) f=some args.length) (hc:zC sm s stk f args hist out=some (p,h,o)):Gp p:=by
 unfold zC at hc;rcases jC hc with ⟨_,hc⟩|⟨_,hc⟩
 · cases hc;exact .inl rfl
 obtain ⟨q,rfl,hq⟩:=kK hf;unfold yN at hq;rw [List.getElem?_map] at hq;cases hfn:s.a.b[q]? with
 | none=>rw [hfn] at hq;cases hq
 | some fn=>
 rw [hfn] at hq;have hpl:fn.a.length=args.length:=Option.some.inj hq;obtain ⟨V,hV,hvo,⟨a,b,hsw⟩,hpar,_⟩:=hs.sw.2.1 q fn hfn;have h8:=hs.w8 V (List.mem_of_getElem? hV);have e1:ix? s.c (q:Int)=some V:=by unfold ix?;rw [if_neg (by omega),Int.toNat_natCast];exact hV
 have e2:ix? s.a.b (q:Int)=some fn:=by unfold ix?;rw [if_neg (by omega),Int.toNat_natCast];exact hfn
 rw [e1] at hc;obtain ⟨r,hr,hc⟩:=bs hc;have hi:∀ (l:List jy) (acc:List (List Int)) (r:Pn (List (List Int))),(∀ v ∈ l,0<=v.a/\v.a<=8)->Au l acc=some r->∃ ws,r=.ok ws/\ws.map List.length=acc.map List.length ++ l.map (fun x=>x.a.toNat):=by
   intro l
   induction l with
   | nil=>intro acc r _ h;cases h;exact ⟨acc,rfl,by simp⟩
   | cons v l ih=>
    intro acc r hl h;have:=hl v (.head _);rw [Au,if_neg (by omega)] at h;obtain ⟨acc2,ha,h⟩:=bs h;obtain ⟨_,rfl⟩:=sK ha;obtain ⟨ws,h1,h2⟩:=ih _ _ (fun x hx=>hl x (.tail _ hx)) h;exact ⟨ws,h1,by rw [h2];simp⟩
 obtain ⟨ws0,rfl,hw0⟩:=hi V [] r h8 hr;have hw0:Ft V ws0:=by rw [List.map_nil,List.nil_append] at hw0;exact hw0
 obtain ⟨ws1,ha,hl⟩:=R8 args 0 ws0 fun j hj=>by
   obtain ⟨v,hv,hk1⟩:=hpar j (by omega);obtain ⟨k,l,hk,_,_,hwk,hln⟩:=hw0.row (i:=(j:Int)) (v:=v) (by rw [wM];exact hv);obtain rfl:j=k:=by omega
   refine ⟨l,by rw [Nat.zero_add];exact hwk,fun z=>?_⟩;rw [z,List.length_nil] at hln;rcases hvo v (List.mem_of_getElem? hv) with ⟨_,h⟩|⟨h,_⟩|⟨h,_⟩ <;> omega
 dsimp only at hc;rw [ha,e2] at hc;dsimp only at hc;obtain ⟨⟨p2,S2⟩,h2,hc⟩:=bs hc;have hk:=Ov (hS stk V q 10 ⟨hvo,h8⟩) hsw (hs.fx fn (List.mem_of_getElem? hfn)) (S:=⟨⟨(q:Int),0,ws1⟩,hist,out⟩) (show Ft V ws1 from hl.trans hw0) h2;have hc:=(Prod.mk.inj (Option.some.inj hc)).1;cases p2 with
 | ok v=>subst hc;trivial
 | tV t=>subst hc;trivial
 | err e=>subst hc;exact hk.1
 | rt=>exact hk.1.elim
theorem O8 (hs:CW s) {sm:List pQ->Sm} (hS:∀ (stk:List pQ) (V:List jy) (k:Int) (n:Nat),Cx s V->Ws s (sm stk) V k n) {rest:List pQ} {fu m:Nat} (hC:Cx s V) {S:Sg} {x:jI} {K:Int->Sg->Option (Pn (Option Int) × Sg)} {r:Pn (Option Int) × Sg} (hf:Ft V S.a.ws) (hx:∀ y ∈ x.a,RX V y) (hk:∀ y ∈ x.a,yx m y) (ca:ix (yN s.a.b) x.i=some x.a.length) (h:Dl sm s rest fu S x K=some r) (hK:∀ v h o,K v ⟨S.a,h,o⟩=some r->Wk V r):Wk V r:=by
 obtain ⟨p,S'⟩:=r;obtain ⟨q,hq,h⟩:=Fx h;obtain ⟨h1,h2⟩:=V7 hC hf hx hk hq;rcases h with ⟨l,q2,h2',o2,rfl,hc,h⟩|⟨hn,rfl,rfl⟩
 · have hl:=h2 l rfl;rw [List.length_nil,Nat.zero_add] at hl;have hg:=Ri hs hS (by rw [hl];exact ca) hc;rcases h with ⟨v,rfl,h⟩|⟨hn,rfl,rfl⟩
   · exact hK v _ _ h
   · exact ⟨hg.up hn,hf⟩
 · exact ⟨h1.gp hn,hf⟩
theorem Zy (hC:Cx s V) {fu m:Nat} {l:List jA} (hx:∀ y ∈ l,RX V y) (hk:∀ y ∈ l,yx m y) (hl:l.length≠0) {vis:Int->Int->Option (List Int)} {st:Nat} {rest:List pQ} {id:Int} {body:Sg->Option (Pn (Option Int) × Sg)} (hb:∀ S r,Ft V S.a.ws->body S=some r->Wk V r) :
  ∀ (c:Nat) {S:Sg} {r:Pn (Option Int) × Sg},Ft V S.a.ws->Uh (fun S=>Tg (wu fu S.a.ws) l) body (fun S=>event vis st rest S id) c S=some r->Wk V r
 | 0,_,_,_,h=>by cases h
 | c+1,S,r,hf,h=>by
  rw [Uh] at h;obtain ⟨q,hq,h⟩:=bs h;obtain ⟨x,t,rfl⟩:=Oq hl;have:=Tc hC fu m hf (hx x (.head _)) (hk x (.head _)) hq;cases q with
  | ok v=>
   rcases jC h with ⟨_,h⟩|⟨_,h⟩
   · cases h;exact ⟨trivial,hf⟩
   obtain ⟨⟨q,S1⟩,h1,h⟩:=bs h;have k1:=hb S _ hf h1;cases q with
   | ok o=>cases o with
     | none=>
      obtain ⟨⟨q,S2⟩,h2,h⟩:=bs h;obtain ⟨h3,h4⟩:=JK h2;have hf2:Ft V S2.a.ws:=by rw [h3];exact k1.2
      rcases h4 with rfl | rfl
      · cases h;exact ⟨.inr rfl,hf2⟩
      · exact Zy hC hx hk hl hb c hf2 h
     | some v=>cases h;exact k1
   | _=>cases h;exact k1
  | tV t=>cases h;exact ⟨trivial,hf⟩
  | err e=>exact this.elim
  | rt=>exact this.elim
theorem aak (hs:CW s) {vis:Int→Int→Option (List Int)} {st:Nat}:∀ (fu:Nat) (rest:List pQ) (V:List jy) (k:Int) (n:Nat),Cx s V→Ws s (stM vis s st fu rest) V k n
 | 0,_,_,_,_,_=>fun _ _ _ _ _ _ _ _ h=>by cases h
 | fu+1,rest,V,k,0,_=>fun _ _ _ _ _ _ hx _ _=>hx.elim
 | fu+1,rest,V,k,n+1,hC=>fun S x r a b hw hx hf h=>by
  obtain ⟨p,S'⟩:=r;obtain ⟨x1,x2,x3,x4,x5,x6,x7,x8⟩:=hx;cases hw with
  | cons id kd tg ar de tr ca ct bo el nx=>
  rw [stM] at h;obtain ⟨⟨q,E⟩,he,h⟩:=bs h;obtain ⟨e1,e2⟩:=JK he;have hE:Ft V E.a.ws:=by rw [e1];exact hf
  clear he e1 hf nx kd;rcases e2 with rfl | rfl
  · cases h;exact ⟨.inr rfl,hE⟩
  dsimp only at h;have ih:=fun (rest:List pQ) (V:List jy) (k:Int) (n:Nat) (hC:Cx s V)=>aak hs (vis:=vis) (st:=st) fu rest V k n hC;rcases jC h with ⟨c1,h⟩|⟨c1,h⟩
  · obtain ⟨v,hv⟩:=de c1;obtain ⟨i,l,hi,_,h1,h2,_⟩:=hE.row hv;rw [h1] at h;cases h;exact ⟨trivial,by dsimp only;rw [hi,Int.toNat_natCast];exact hE.set h2 (by rw [List.length_replicate])⟩
  have tgo:∀ y ∈ x.d,y.e=1\/y.e=2\/y.e=3:=fun y hy=>by have:=(ct y hy).2;omega
  rcases jC h with ⟨c2,h⟩|⟨c2,h⟩
  · have hb:x.j=be:=Classical.byContradiction fun z=>by have:=x8 z;omega
    exact RV hC hE tg (m:=4999) x1 tgo (x7 c2) hE h fun v h=>M4 hC hE ar x2.2 (x6 hb (by omega) (by omega) (by omega)) hE h fun u h=>by cases h;exact ⟨trivial,hE.word⟩
  rcases jC h with ⟨c3,h⟩|⟨c3,h⟩
  · refine O8 hs ih hC hE ar x2.2 (ca (x5 c3)) h fun v h' o h=>?_;rcases jC h with ⟨_,h⟩|⟨c,h⟩
    · cases h;exact ⟨trivial,hE⟩
    · exact RV hC (S:=⟨E.a,h',o⟩) (S':=⟨E.a,h',o⟩) hE tg (m:=4999) x1 tgo c hE h fun v h=>by cases h;exact ⟨trivial,hE.word⟩
  rcases jC h with ⟨c4,h⟩|⟨c4,h⟩
  · have hb:x.j=be:=Classical.byContradiction fun z=>by have:=x8 z;omega
    refine M4 hC hE ar x2.2 (x6 hb (by omega) (by omega) (by omega)) hE h fun v h=>?_;by_cases hv:v≠0
    · rw [if_pos hv] at h;exact Ov (ih rest V k n hC) bo x3 hE h
    · rw [if_neg hv] at h;exact Ov (ih rest V k n hC) el x4 hE h
  rcases jC h with ⟨c5,h⟩|⟨c5,h⟩
  · have hb:x.j=be:=Classical.byContradiction fun z=>by have:=x8 z;omega
    exact Zy hC ar x2.2 (x6 hb (by omega) (by omega) (by omega)) (fun S r hf h=>Ov (ih rest V k n hC) bo x3 hf h) fu hE h
  rcases jC h with ⟨c6,h⟩|⟨c6,h⟩
  · rcases jC h with ⟨cf,h⟩|⟨cf,h⟩
    · exact O8 hs ih hC hE ar x2.2 (ca cf) h fun v h' o h=>by cases h;exact ⟨trivial,hE⟩
    · exact M4 hC hE ar x2.2 (x6 (Classical.not_not.1 cf) (by omega) (by omega) (by omega)) hE h fun v h=>by cases h;exact ⟨trivial,hE⟩
  have hb:x.j=be:=Classical.byContradiction fun z=>by have:=x8 z;omega
  rcases jC h with ⟨c7,h⟩|⟨c7,h⟩
  · exact M4 hC hE ar x2.2 (x6 hb (by omega) (by omega) (by omega)) hE h fun v h=>by cases h;exact ⟨trivial,hE⟩
  rcases jC h with ⟨c8,h⟩|⟨c8,h⟩
  · obtain ⟨⟨q,S1⟩,h1,h⟩:=bs h;have k1:=Ov (ih rest V k n hC) bo x3 hE h1;cases q with
    | tV t=>
      obtain ⟨v,hv,hk1,_⟩:=tr c8;obtain ⟨i,l,hi,hvk,h2,h3,h4⟩:=Ft.row k1.2 hv;dsimp only at h;rw [h2] at h;have:=hC.vo v (List.mem_of_getElem? hvk);cases l with
      | nil=>
       rw [List.length_nil] at h4;rcases this with ⟨_,h⟩|⟨h,_⟩|⟨h,_⟩ <;> omega
      | cons z l=>
       refine Ov (ih rest V k n hC) el x4 ?_ h;dsimp only;rw [hi,Int.toNat_natCast];exact Ft.set k1.2 h3 rfl
    | _=>cases h;exact k1
  rcases jC h with ⟨c9,h⟩|⟨c9,h⟩
  · refine M4 hC hE ar x2.2 (x6 hb (by omega) (by omega) (by omega)) hE h fun v h=>?_;obtain ⟨o,_,h⟩:=bs h;cases h;exact ⟨trivial,hE⟩
  rcases jC h with ⟨c10,h⟩|⟨c10,h⟩
  · cases h;exact ⟨trivial,hE⟩
  · cases h;exact ⟨trivial,hE⟩
theorem abM (hs:CW s):∀ fn ∈ s.a.b,QE fn:=fun fn hfn=>by obtain ⟨q,hq⟩:=List.getElem?_of_mem hfn;obtain ⟨V,_,_,⟨a,b,hsw⟩,_,hen⟩:=hs.sw.2.1 q fn hq;refine ⟨fun y hy=>?_,hen⟩;obtain ⟨c,d,k⟩:=KF hsw y hy;exact ars (hs.fx fn hfn y hy) k
theorem ZA (hs:CW s) {fu:Nat} {f:Int} {args:List Int} {n:Int}:Snd fu s f args n:=fun fn p h o hfn hl _ _ hc=>by
 obtain ⟨q,rfl,hq⟩:=PK hfn;have hpl:args.length=fn.a.length:=by omega
 exact (Ri hs (fun stk V k n hC=>aak hs fu stk V k n hC) (by rw [wM];unfold yN;rw [List.getElem?_map,hq,hpl];rfl) hc).gd
end
set_option maxHeartbeats 12800000
set_option maxRecDepth 4000
noncomputable section
def IL (m:BA->Option jL):Prop:=∀ {k p o}{j:jL},Pre k p [] []->m o=some j-> Calls prog 18 #[T o] k (pz fun v w=>∃ a b c d e f h i,v=.agg #[Z a j.a.a b,Z c j.a.b d,Z e j.c f,Z h j.b i]/\Bx k w p (lD []) [] [.l a b j.a.a,.l c d j.a.b,.l e f j.c,.l h i j.b])
def BO (fu:Nat)(h:BA):Option jL:=(wQ fu h).bind fun i=>iA i fun a i=>iA i fun c d=>(rU fu a).bind fun i=>iA i fun b i=>iA i fun e f=>some b
theorem IK (fu:Nat):IL (BO fu):=by
 intro H Y C I w u;unfold BO at u;have k:=w.bx;clear w;generalize J:lD _=G at k ⊢;refine cf func18 r ?_;refine lu [(0,T C)] ⟨r,y⟩ fun a0=>?_;refine q (g (nM (nV k (jX wK)) ?_));rintro _ K ⟨L,rfl,k⟩;refine n (q (g (s (lF r) ?_)));obtain ⟨⟨t,x,z⟩,D,u⟩:=bs u;replace u:=pi u;replace u:=pi u;refine sc (ec VY r) (Eo fu (k.pr [] [0] [] r) D) ?_;rintro _ M ⟨l,m,o,p,rfl,v⟩;replace k:=k.cl [] [0] r v r;try dsimp only [pick,nth,ca,na] at k
 refine s uO (s (kJ r r) (s (kJ r r) (s (kJ r r) (nM (nV k (jX uI)) ?_))));rintro _ N ⟨Q,rfl,k⟩;refine lq (tb k 0 [Z l t.a m,Z o t.b p] r uI r r r r r (show _=#[Z l t.a m,Z o t.b p] from r)) ?_;intro R k;try dsimp only [List.set] at k
 refine s (xi r) (s (xi r) (n (q (g (s (mU [Z l t.a m,Z o t.b p] CF r uI r r (Cells.part (k.bk 0 r).cells (o2:=0) r)) ?_)))));obtain ⟨⟨a,A,B⟩,F,u⟩:=bs u;replace u:=pi u;replace u:=pi u;refine sc (ec V9 r) (Ea fu (k.pr [] [0,1] [0,1] r) F) ?_;rintro _ S ⟨b,c,d,e,f,h,i,j,rfl,v⟩;replace k:=k.cl [] [0,1] r v r;try dsimp only [pick,nth,ca,na] at k
 refine s uO (s (kJ r r) (s (kJ r r) (s (kJ r r) (nM (nV k (jX wK)) ?_))));rintro _ U ⟨W,rfl,k⟩;refine lq (tb k 0 [Z b a.a.a c,Z d a.a.b e,Z f a.c h,Z i a.b j] r wK r r r r r (show _=#[Z b a.a.a c,Z d a.a.b e,Z f a.c h,Z i a.b j] from r)) ?_;intro X k;try dsimp only [List.set] at k
 refine s (xi r) (s (xi r) (n (q (g (s (mU [Z b a.a.a c,Z d a.a.b e,Z f a.c h,Z i a.b j] Ch r wK r r (Cells.part (k.bk 0 r).cells (o2:=0) r)) (lq (tb k 2 [Z b a.a.a c,Z d a.a.b e,Z f a.c h,Z i a.b j] r wK r r r r r (show _=#[Z b a.a.a c,Z d a.a.b e,Z f a.c h,Z i a.b j] from r)) ?_))))));intro w8 k;try dsimp only [List.set] at k
 refine n (kD ?_);obtain rfl:=sm u;refine jB r (uE r Ch r wK r (k.bk 2 r)) ?_;exact ⟨b,c,d,e,f,h,i,j,r,k.ad [] [0,1,2,3]⟩
def LP (m:Option Bool):Prop:=∀ {a c b},Pre a c [] []->m=some b-> Calls prog 6 #[] a (pz fun v w=>v=.bool b/\Bx a w c (lD []) [] [])
def zI (fu:Nat):Option Bool:=(BO fu (⟨#[102,117,110,99,32,102,40,97,41,32,123,32,97,32,61,32,97,32,43,32,49,59,32,114,101,116,117,114,110,32,97,59,32,125]⟩:BA)).bind fun c=>(lS fu c 0 ([4]:List Int) 10 0 10).bind fun i=>iA i fun b a=>if a.d=0 then if a.c=5 then if (!a.b)=true then if (b.length:Int)=2 then (ix b 1).bind fun d=>if (d.a.length:Int)=1 then (ix d.a 0).bind fun e=>if (e.c.length:Int)=1 then (ix e.c 0).bind fun f=>(ix f.a 0).bind fun h=>some (decide (h=5)) else some false else some false else some false else some false else some false else some false
theorem EN (fu:Nat):LP (zI fu):=by
 intro w0 aD r0 hP b;unfold zI at b;have a:=hP.bx;clear hP;generalize hG:lD _=G at a ⊢;refine cf func6 r ?_;refine lu [] y fun aE=>?_;refine q (g (s (kr r) (n (q (g ?_)))));obtain ⟨ag,h1,b⟩:=bs b;refine sc (ec aaU r) (IK fu (a.pr [] [] [] r) h1) ?_;rintro _ w1 ⟨M,N,Q,R,S,U,W,X,rfl,hK⟩;replace a:=a.cl [] [] r hK r;try dsimp only [pick,nth,ca,na] at a
 refine nM (jN a [[V 4]] ([4]:List Int) (zo r) r r (by decide) ⟨r,y⟩) ?_;rintro _ w2 ⟨b2,rfl,a⟩;replace a:=a.QY 0 0 r r;try dsimp only [List.eraseIdx] at a
 obtain ⟨⟨ah,c⟩,h4,b⟩:=bs b;replace b:=pi b;refine sc (ec abk r) (Ce fu (a.pr [] [] [1,2,3,4,0] r) h4) ?_;rintro _ w4 ⟨Y,a0,f,j,rfl,hK⟩;replace a:=a.cl [] [] r hK r;try dsimp only [pick,nth,ca,na] at a
 refine s uO (s (kJ r r) (s (kJ r r) (nM (nV a (jX AR)) ?_)));rintro _ w5 ⟨b5,rfl,a⟩;refine s (nk r) (lq (tb a 0 [V c.d,.bool c.b,V c.c,Z f c.a j] r AR r r r r r (show _=#[V c.d,.bool c.b,V c.c,Z f c.a j] from r)) ?_);intro w6 a;try dsimp only [List.set] at a
 refine n (q (g (s (NQ r) (s (CV r (a.bk 0 r) r) (s (kR r r) (s (kQ r) ?_))))));rcases iv b with ⟨h7,b⟩|⟨h7,b⟩
 ·rw [sQ h7];refine ku r (s (MI r) (ku r (s (l3 r (a.bk 0 r) r) (ku r (s (kR r r) (s (kF r r) (s (kQ r) ?_)))))));rcases iv b with ⟨h8,b⟩|⟨h8,b⟩
  ·rw [sQ h8];refine ku r (s (Pw r) (ku r (s (l4 r (a.bk 0 r) r) (ku r (s (AV r) (s (kF r r) (s (kQ r) ?_)))))));rcases iv b with ⟨h9,b⟩|⟨h9,b⟩
   ·rw [h9];refine ku r (s (mH r) (ku r (s (lK Fv r) (ku r (s (kR r r) (s (kF r r) (s (kQ r) ?_)))))));rcases iv b with ⟨v,b⟩|⟨v,b⟩
    ·rw [sQ v];refine ku r (s (mH r) ?_);obtain ⟨ab,e,b⟩:=bs b;obtain ⟨an,t,e⟩:=kK e;obtain ⟨ai,a2,a⟩:=a.nm 0 rfl e;obtain ⟨w,x,rfl,z⟩:=ko.out a2;replace a:=a.kC (d:=.l w x ab.a) z;refine ku r (s (kV Fv DN r r t (a.dl 2 r) e) (ku r (s (Dx r) (ku r (s (jS Co r r ((a.dc 1 r) 0 _ r)) (ku r (s (lK Co r) (ku r (s (kR r r) (s (kF r r) (s (kQ r) ?_)))))))))));rcases iv b with ⟨A,b⟩|⟨A,b⟩
     ·rw [sQ A];refine ku r (s (mH r) (ku r (s (kV Fv DN r r t (a.dl 2 r) e) (ku r (s (Dx r) (ku r (s (jS Co r r ((a.dc 1 r) 0 _ r)) ?_)))))));obtain ⟨ac,m,b⟩:=bs b;obtain ⟨ao,u,m⟩:=kK m;obtain ⟨aj,a3,a⟩:=a.nm 0 rfl m;obtain ⟨B,C,rfl,D⟩:=ny.out a3;replace a:=a.kC (d:=.l B C ac.c) D;refine ku r (s (kV Co Br r r u (a.dl 2 r) m) (ku r (s (Cm r) (ku r (s (jS ED r r ((a.dc 1 r) 2 _ r)) (ku r (s (lK ED r) (ku r (s (kR r r) (s (kF r r) (s (kQ r) ?_)))))))))));rcases iv b with ⟨E,b⟩|⟨E,b⟩
      ·rw [sQ E];refine ku r (s (mH r) (ku r (s (kV Fv DN r r t (a.dl 4 r) e) (ku r (s (Dx r) (ku r (s (jS Co r r ((a.dc 3 r) 0 _ r)) (ku r (s (kV Co Br r r u (a.dl 2 r) m) (ku r (s (Cm r) (ku r (s (jS ED r r ((a.dc 1 r) 2 _ r)) ?_)))))))))))));obtain ⟨a4,o,b⟩:=bs b;obtain ⟨ap,a5,o⟩:=kK o;obtain ⟨ak,a6,a⟩:=a.nm 0 rfl o;obtain ⟨F,H,I,J,rfl,K,L⟩:=qc.out a6;replace a:=a.kC (d:=.l F H a4.b) K;replace a:=a.kC (d:=.l I J a4.a) L;refine ku r (s (kV ED FZ r r a5 (a.dl 3 r) o) (ku r (s (SS r) (ku r (s (jS qH r r ((a.dc 2 r) 2 _ r)) ?_)))));obtain ⟨ae,p,b⟩:=bs b;obtain ⟨aq,a7,p⟩:=kK p;refine ku r (s (kV qH mV r r a7 (a.dl 0 r) p) (ku r (s (jS GV r r ((tC (ds:=[V ae]) (a.dl 0 r) p (fun _ h=>h)) 0 _ r)) (ku r (s (kR r r) (s (kF r r) (s (kr r) (n (kD ?_)))))))));obtain rfl:=sm b;refine jB r (kH r) ?_;exact ⟨r,a.ad [] []⟩
      rw [tF E];refine jK r (jK r (jK r (jK r (jK r (jK r (jK r (jK r (jK r (jK r (jK r (jK r (jK r (s (jY r r) ?_)))))))))))));refine s (kr r) (n (kD ?_));obtain rfl:=sm b;refine jB r (kH r) ?_;exact ⟨r,a.ad [] []⟩
     rw [tF A];refine jK r (jK r (jK r (jK r (jK r (jK r (jK r (jK r (jK r (s (jY r r) (s (kQ r) (jK r (jK r (jK r ?_)))))))))))));refine jK r (jK r (jK r (jK r (jK r (jK r (jK r (jK r (jK r (jK r (s (jY r r) (s (kr r) (n (kD ?_)))))))))))));obtain rfl:=sm b;refine jB r (kH r) ?_;exact ⟨r,a.ad [] []⟩
    rw [tF v];refine jK r (jK r (jK r (jK r (jK r (jK r (s (jY r r) (s (kQ r) (jK r (jK r (jK r (jK r (jK r (jK r ?_)))))))))))));refine jK r (jK r (jK r (s (jY r r) (s (kQ r) (jK r (jK r (jK r (jK r (jK r (jK r (jK r (jK r (jK r ?_)))))))))))));refine jK r (jK r (jK r (jK r (s (jY r r) (s (kr r) (n (kD ?_)))))));obtain rfl:=sm b;refine jB r (kH r) ?_;exact ⟨r,a.ad [] []⟩
   replace h9:=nt h9;rw [h9];refine jK r (jK r (jK r (s (jY r r) (s (kQ r) (jK r (jK r (jK r (jK r (jK r (jK r (s (jY r r) (s (kQ r) (jK r ?_)))))))))))));refine jK r (jK r (jK r (jK r (jK r (jK r (jK r (jK r (s (jY r r) (s (kQ r) (jK r (jK r (jK r (jK r ?_)))))))))))));refine jK r (jK r (jK r (jK r (jK r (jK r (jK r (jK r (jK r (s (jY r r) (s (kr r) (n (kD ?_))))))))))));obtain rfl:=sm b;refine jB r (kH r) ?_;exact ⟨r,a.ad [] []⟩
  rw [tF h8];refine jK r (jK r (jK r (s (jY r r) (s (kQ r) (jK r (jK r (jK r (s (jY r r) (s (kQ r) (jK r (jK r (jK r (jK r ?_)))))))))))));refine jK r (jK r (s (jY r r) (s (kQ r) (jK r (jK r (jK r (jK r (jK r (jK r (jK r (jK r (jK r (s (jY r r) ?_)))))))))))));refine s (kQ r) (jK r (jK r (jK r (jK r (jK r (jK r (jK r (jK r (jK r (jK r (jK r (jK r (jK r ?_)))))))))))));refine s (jY r r) (s (kr r) (n (kD ?_)));obtain rfl:=sm b;refine jB r (kH r) ?_;exact ⟨r,a.ad [] []⟩
 rw [tF h7];refine jK r (jK r (jK r (s (jY r r) (s (kQ r) (jK r (jK r (jK r (s (jY r r) (s (kQ r) (jK r (jK r (jK r (s (jY r r) ?_)))))))))))));refine s (kQ r) (jK r (jK r (jK r (jK r (jK r (jK r (s (jY r r) (s (kQ r) (jK r (jK r (jK r (jK r (jK r ?_)))))))))))));refine jK r (jK r (jK r (jK r (s (jY r r) (s (kQ r) (jK r (jK r (jK r (jK r (jK r (jK r (jK r (jK r ?_)))))))))))));refine jK r (jK r (jK r (jK r (jK r (s (jY r r) (s (kr r) (n (kD ?_))))))));obtain rfl:=sm b;refine jB r (kH r) ?_;exact ⟨r,a.ad [] []⟩
def EH (m:(List Int)->(List Int)->Int->Int->Int->Int->Option Bool):Prop:=∀ {e t f h i j k o a b c d p},Pre e t [] [.l a b f,.l c d h]->m f h i j k o=some p-> Calls prog 4 #[Z a f b,Z c h d,V i,V j,V k,V o] e (pz fun v w=>v=.bool p/\Bx e w t (lD []) [] [])
def sO (fu:Nat)(b:(List Int)) (c:Int)(a:Bool):Option (Ld Bool Bool):=if (!a)=true then some (.go true) else if 400 < c then if c<=5000 then some (.go true) else some (.go (decide (20 < (b.length:Int)))) else some (.go (decide (20 < (b.length:Int))))
def sP (fu:Nat)(w:(List Int)) (m:(List Int)) (t:Int)(p:Int)(u:Int)(v:Int):Option Bool:=(vU fu w).bind fun x=>iA x fun a j=>(sO fu m p j).bind fun x=>x.el (fun k=>if k=true then (zI fu).bind fun l=>some l else (lS fu a t m p u v).bind fun x=>iA x fun b c=>(zn fu a t m p u v).bind fun x=>iA x fun d e=>(sJ fu b d).bind fun f=>if f=true then (qZ fu c e).bind fun h=>if h=true then (zI fu).bind fun i=>some i else some false else some false) (fun o=>some o)
theorem D9 (fu:Nat):EH (sP fu):=by
 intro w0 aJ x0 R x2 x3 x4 x5 J K B C r0 hP t;unfold sP at t;have b:=hP.bx;clear hP;generalize hG:lD _=G at b ⊢;refine cf func4 r ?_;refine lu [(0,Z J x0 K),(1,Z B R C),(2,V x2),(3,V x3),(4,V x4),(5,V x5)] ⟨r,r,r,r,r,r,y⟩ fun aK=>?_;refine q (g (s (kr r) (n (q (g (s (mH r) ?_))))));obtain ⟨⟨a,ah⟩,h1,t⟩:=bs t;replace t:=pi t;refine sc (ec abN r) (Ik fu (b.pr [] [] [0] r) h1) ?_;rintro _ w1 ⟨e,h,i,j,k,m,o,p,rfl,D⟩;replace b:=b.cl [] [] r D r;try dsimp only [pick,nth,ca,na] at b
 refine s uO (s (kJ r r) (s (kJ r r) (nM (nV b (jX wK)) ?_)));rintro _ w2 ⟨b2,rfl,b⟩;refine lq (tb b 0 [Z e a.a.a h,Z i a.a.b j,Z k a.c m,Z o a.b p] r wK r r r r r (show _=#[Z e a.a.a h,Z i a.a.b j,Z k a.c m,Z o a.b p] from r)) ?_;intro w3 b;try dsimp only [List.set] at b
 refine s (kr r) (n (q (q ?_)));obtain ⟨Y4,u,t⟩:=bs t;refine IE (b.dp [0,1,2,3,5]) (fun Q f w=>∃ E,Has f [(1,Z B R C),(2,V x2),(3,V x3),(4,V x4),(5,V x5),(13,Pt b2),(38,.bool E)]/\Q w/\Ld.go E=Y4) (fun J4 I=>?_) ?_
 ·unfold sO at u;refine g (s (kQ r) (s (AV r) (s (kQ r) ?_)));rcases iv u with ⟨S,u⟩|⟨S,u⟩
  ·rw [S];refine jK r (jK r (jK r (jK r (jK r (jK r (s (kF r r) (s (kQ r) (jK r (jK r (jK r (s (kF r r) (n ?_))))))))))));exact I _ _ ⟨true,⟨r,r,r,r,r,r,r,y⟩,b.dp [0,1,2,3,5],sm u⟩
  replace S:=nt S;rw [S];refine ku r (s (mi r) (ku r (s (uL r r) (ku r (s (kQ r) ?_)))));rcases iv u with ⟨W,u⟩|⟨W,u⟩
  ·rw [sQ W];refine ku r (s (mi r) (ku r (s (Ja r r) (ku r (s (kF r r) (s (jY r r) (s (kQ r) ?_)))))));rcases iv u with ⟨X,u⟩|⟨X,u⟩
   ·rw [sQ X];refine jK r (jK r (jK r (s (kF r r) (n ?_))));exact I _ _ ⟨true,⟨r,r,r,r,r,r,r,y⟩,b.dp [0,1,2,3,5],sm u⟩
   rw [tF X];refine ku r (s (mH r) (ku r (s (lK qH r) (ku r (s (uL r r) (s (jY r r) (n ?_)))))));exact I _ _ ⟨decide (20 < (R.length:Int)),⟨r,r,r,r,r,r,r,y⟩,b.dp [0,1,2,3,5],sm u⟩
  rw [tF W];refine jK r (jK r (ku r (s (jY r r) (s (jY r r) (s (kQ r) (ku r (s (mH r) (ku r (s (lK qH r) (ku r (s (uL r r) (s (jY r r) (n ?_)))))))))))));exact I _ _ ⟨decide (20 < (R.length:Int)),⟨r,r,r,r,r,r,r,y⟩,b.dp [0,1,2,3,5],sm u⟩
 clear b;rintro f w ⟨E,hf,b,Y⟩;obtain ⟨aK,rfl⟩:=mY hf;subst Y;replace t:=gi t;rcases iv t with ⟨U,t⟩|⟨U,t⟩
 ·refine jM (cb U) (q (g ?_));obtain ⟨aj,h9,t⟩:=bs t;refine sc (ec aa9 r) (EN fu (b.pr [] [0] [] r) h9) ?_;rintro _ w9 ⟨rfl,D⟩;replace b:=b.cl [] [0] r D r;try dsimp only [pick,nth,ca,na] at b
  refine s (kr r) (n (kD ?_));obtain rfl:=sm t;refine jB r (kH r) ?_;exact ⟨r,b.ad [] []⟩
 refine jJ (vY U) (wk (q (g (s (mU [Z e a.a.a h,Z i a.a.b j,Z k a.c m,Z o a.b p] Ch r wK r r (Cells.part (b.bk 0 r).cells (o2:=0) r)) (s (mi r) (s (mH r) (s (mi r) (s (mi r) (s (mi r) ?_)))))))));obtain ⟨⟨a1,c⟩,a2,t⟩:=bs t;replace t:=pi t;refine sc (ec abk r) (Ce fu (b.pr [] [0] [0,1,2,3,4] r) a2) ?_;rintro _ ap ⟨L,M,v,x,rfl,D⟩;replace b:=b.cl [] [0] r D r;try dsimp only [pick,nth,ca,na] at b
 refine s uO (s (kJ r r) (s (kJ r r) (nM (nV b (jX AR)) ?_)));rintro _ aq ⟨ar,rfl,b⟩;refine s (nk r) (lq (tb b 0 [V c.d,.bool c.b,V c.c,Z v c.a x] r AR r r r r r (show _=#[V c.d,.bool c.b,V c.c,Z v c.a x] from r)) ?_);intro au b;try dsimp only [List.set] at b
 refine n (q (g (s (mU [Z e a.a.a h,Z i a.a.b j,Z k a.c m,Z o a.b p] Ch r wK r r (Cells.part (b.bk 1 r).cells (o2:=0) r)) (s (mi r) (s (mH r) (s (mi r) (s (mi r) (s (mi r) ?_))))))));obtain ⟨⟨a3,d⟩,a4,t⟩:=bs t;replace t:=pi t;refine sc (ec aaw r) (KA fu (b.pr [] [0,1] [2,3,4,5,6] r) a4) ?_;rintro _ av ⟨N,Q,z,A,rfl,D⟩;replace b:=b.cl [] [0,1] r D r;try dsimp only [pick,nth,ca,na] at b
 refine s uO (s (kJ r r) (s (kJ r r) (nM (nV b (jX AR)) ?_)));rintro _ aw ⟨ax,rfl,b⟩;refine s (nk r) (lq (tb b 0 [V d.d,.bool d.b,V d.c,Z z d.a A] r AR r r r r r (show _=#[V d.d,.bool d.b,V d.c,Z z d.a A] from r)) ?_);intro ay b;try dsimp only [List.set] at b
 refine n (q (g (s (mH r) (s (mH r) ?_))));obtain ⟨a5,a6,t⟩:=bs t;refine sc (ec ZI r) (Ip fu (b.pr [] [0,1,2] [2,0] r) a6) ?_;rintro _ az ⟨rfl,D⟩;replace b:=b.cl [] [0,1,2] r D r;try dsimp only [pick,nth,ca,na] at b
 refine s (kQ r) ?_;rcases iv t with ⟨F,t⟩|⟨F,t⟩
 ·rw [F];refine ku r (s (mU [V c.d,.bool c.b,V c.c,Z v c.a x] Ii r AR r r (Cells.part (b.bk 1 r).cells (o2:=0) r)) (ku r (s (mU [V d.d,.bool d.b,V d.c,Z z d.a A] Ii r AR r r (Cells.part (b.bk 0 r).cells (o2:=0) r)) ?_)));obtain ⟨a7,a8,t⟩:=bs t;refine ku r ?_;refine sc (ec abj r) (FV fu (b.pr [] [0,1,2] [3,1] r) a8) ?_;rintro _ aA ⟨rfl,D⟩;replace b:=b.cl [] [0,1,2] r D r;try dsimp only [pick,nth,ca,na] at b
  refine s (kF r r) (s (kQ r) ?_);rcases iv t with ⟨H,t⟩|⟨H,t⟩
  ·rw [H];obtain ⟨a9,aa,t⟩:=bs t;refine ku r ?_;refine sc (ec aa9 r) (EN fu (b.pr [] [0,1,2] [] r) aa) ?_;rintro _ aB ⟨rfl,D⟩;replace b:=b.cl [] [0,1,2] r D r;try dsimp only [pick,nth,ca,na] at b
   refine s (kF r r) (s (kr r) (n (kD ?_)));obtain rfl:=sm t;refine jB r (kH r) ?_;exact ⟨r,b.ad [] []⟩
  replace H:=nt H;rw [H];refine jK r (s (jY r r) (s (kr r) (n (kD ?_))));obtain rfl:=sm t;refine jB r (kH r) ?_;exact ⟨r,b.ad [] []⟩
 replace F:=nt F;rw [F];refine jK r (jK r (jK r (s (jY r r) (s (kQ r) (jK r (s (jY r r) (s (kr r) (n (kD ?_)))))))));obtain rfl:=sm t;refine jB r (kH r) ?_;exact ⟨r,b.ad [] []⟩
end
theorem ob {α β:Type} {x:α} {f:α->Option β}:(some x).bind f=f x:=rfl
theorem DJ {α:Type} {l:List α} {i:Nat} {x:α} (h:l[i]?=some x):ix l (i:Int)=some x:=by unfold Go.Fw.ix;rw [if_neg (by omega),Int.toNat_natCast,h]
theorem Zq {i:Nat} (h:i<=1000000):wr ((i:Int)+1)=((i+1:Nat):Int):=by rw [lZ (by omega) (by omega)];omega
section
variable {fu:Nat}
theorem LY {l:List Int} (hl:l.length≤100000):∀ (n i:Nat),l.length+1≤n+i→i≤l.length→uG fu l l n (i:Int)=some (.go (l.length:Int))
 | 0,_,h,h2=>by omega
 | n+1,i,h,h2=>by
  rw [uG];by_cases c:(i:Int) < l.length
  · obtain ⟨x,hx⟩:=lT (l:=l) (k:=i) (by omega);rw [if_pos c,DJ hx,ob,ob,if_neg (by simp),Zq (by omega)];exact LY hl n (i+1) (by omega) (by omega)
  · rw [if_neg c,show i=l.length by omega]
theorem V8 {l:List Int} (hl:l.length<=100000) (hf:l.length+1<=fu):yO fu l l=some true:=by unfold yO;rw [if_neg (by simp),show (0:Int)=((0:Nat):Int) from rfl,LY hl fu 0 (by omega) (Nat.zero_le _)];rfl
theorem JL {l:List Bool} (hl:l.length≤100000):∀ (n i:Nat),l.length+1≤n+i→i≤l.length→sS fu l l n (i:Int)=some (.go (l.length:Int))
 | 0,_,h,h2=>by omega
 | n+1,i,h,h2=>by
  rw [sS];by_cases c:(i:Int) < l.length
  · obtain ⟨x,hx⟩:=lT (l:=l) (k:=i) (by omega);rw [if_pos c,DJ hx,ob,ob,if_neg (by simp),Zq (by omega)];exact JL hl n (i+1) (by omega) (by omega)
  · rw [if_neg c,show i=l.length by omega]
theorem Yd {l:List Bool} (hl:l.length<=100000) (hf:l.length+1<=fu):zl fu l l=some true:=by unfold zl;rw [if_neg (by simp),show (0:Int)=((0:Nat):Int) from rfl,JL hl fu 0 (by omega) (Nat.zero_le _)];rfl
def Xc (f:ny):Prop:=f.c.length<=24/\∀ x ∈ f.c,x.b.length<=8/\x.a.length<=8
def UH (e:ko):Prop:=e.a.length<=20/\∀ f ∈ e.a,Xc f
theorem Iz (hf:100≤fu) {f:ny} (hs:Xc f):∀ (n i:Nat),f.c.length+1≤n+i→i≤f.c.length→rF fu f f n (i:Int)=some (.go (f.c.length:Int))
 | 0,_,h,h2=>by omega
 | n+1,i,h,h2=>by
  have:=hs.1;rw [rF];by_cases c:(i:Int) < f.c.length
  · obtain ⟨x,hx⟩:=lT (l:=f.c) (k:=i) (by omega);have k:=hs.2 x (List.mem_of_getElem? hx);rw [if_pos c,DJ hx,ob,ob,if_neg (by simp),Yd (by omega) (by omega),ob,if_neg (by decide),V8 (by omega) (by omega),ob,if_neg (by decide),Zq (by omega)];exact Iz hf hs n (i+1) (by omega) (by omega)
  · rw [if_neg c,show i=f.c.length by omega]
theorem Vv (hf:100<=fu) {f:ny} (hs:Xc f):xu fu f f=some true:=by have:=hs.1;unfold xu;rw [if_neg (by simp),if_neg (by simp),if_neg (by simp),show (0:Int)=((0:Nat):Int) from rfl,Iz hf hs fu 0 (by omega) (Nat.zero_le _)];rfl
theorem Pd (hf:100≤fu) {l:List ko} {b:Nat} {e:ko} (hb:l[b]?=some e) (hs:UH e):∀ (n i:Nat),e.a.length+1≤n+i→i≤e.a.length→qP fu l l (b:Int) n (i:Int)=some (.go (e.a.length:Int))
 | 0,_,h,h2=>by omega
 | n+1,i,h,h2=>by
  have:=hs.1;rw [qP,DJ hb,ob];by_cases c:(i:Int) < e.a.length
  · obtain ⟨x,hx⟩:=lT (l:=e.a) (k:=i) (by omega);rw [if_pos c,DJ hx,ob,ob,DJ hx,ob,Vv hf (hs.2 x (List.mem_of_getElem? hx)),ob,if_neg (by decide),Zq (by omega)];exact Pd hf hb hs n (i+1) (by omega) (by omega)
  · rw [if_neg c,show i=e.a.length by omega]
theorem Pf (hf:100≤fu) {l:List ko} (hl:l.length≤100000) (hs:∀ e ∈ l,UH e):∀ (n i:Nat),l.length+1≤n+i→i≤l.length→qQ fu l l n (i:Int)=some (.go (l.length:Int))
 | 0,_,h,h2=>by omega
 | n+1,i,h,h2=>by
  rw [qQ];by_cases c:(i:Int) < l.length
  · obtain ⟨x,hx⟩:=lT (l:=l) (k:=i) (by omega);have hx2:=hs x (List.mem_of_getElem? hx);have:=hx2.1;rw [if_pos c,DJ hx,ob,ob,if_neg (by simp),show (0:Int)=((0:Nat):Int) from rfl,Pd hf hx hx2 fu 0 (by omega) (Nat.zero_le _),Zq (by omega)];exact Pf hf hl hs n (i+1) (by omega) (by omega)
  · rw [if_neg c,show i=l.length by omega]
theorem ZL (hf:100<=fu) {l:List ko} (hl:l.length<=100000) (hl2:l.length+1<=fu) (hs:∀ e ∈ l,UH e):sJ fu l l=some true:=by unfold sJ;rw [if_neg (by simp),show (0:Int)=((0:Nat):Int) from rfl,Pf hf hl hs fu 0 (by omega) (Nat.zero_le _)];rfl
theorem Ww {o:mO} (hl:o.a.length<=100000) (hf:o.a.length+1<=fu):qZ fu o o=some true:=by unfold qZ;rw [if_pos rfl,if_pos rfl,if_pos rfl,V8 hl hf];rfl
end
theorem Fit.row {s:jL} {g:pQ} (h:Fit s g) {l:List Int} {k:Nat} (hk:g.ws[k]?=some l):l.length<=8:=by
 obtain ⟨_,V,h1,h2,h3⟩:=h;have e:(g.ws.map List.length)[k]?=some l.length:=by rw [List.getElem?_map,hk];rfl
 rw [h2,List.getElem?_map] at e;cases hV:V[k]? with
 | none=>rw [hV] at e;cases e
 | some x=>
  rw [hV] at e;have:=h3 x (List.mem_of_getElem? hV);have:x.a.toNat=l.length:=Option.some.inj e;omega
theorem O0.sz {s:jL} (hv:∀ V ∈ s.c,V.length<=24) {e:ko} (h:O0 s e):UH e:=by obtain ⟨gs,h1,h2,h3⟩:=h;refine ⟨by rw [h1,List.length_map];exact h2,fun f hf=>?_⟩;rw [h1] at hf;obtain ⟨g,hg,rfl⟩:=List.mem_map.1 hf;refine ⟨by unfold YV;rw [List.length_map];exact Ma hv,fun x hx=>?_⟩;obtain ⟨v,hv2,rfl⟩:=List.mem_map.1 hx;have hb:=(h3 g hg).vis hv2;obtain ⟨l,hl⟩:=lT (l:=g.ws) (k:=v.toNat) (by omega);have h8:=(h3 g hg).row hl;unfold shO;rw [List.getD_eq_getElem?_getD,hl];exact ⟨by rw [List.length_replicate];exact h8,h8⟩
def acg:Pn Int→List Int→mO
 | .ok v,o=>⟨0,false,v,o⟩
 | .tV v,o=>⟨0,true,v,o⟩
 | .err e,o=>⟨e,false,0,o⟩
 | .rt,o=>⟨4,false,0,o⟩
theorem Ue {s:jL} (hs:CI s) {fu:Nat} (hf:10100<=fu) {f:Int} {args:List Int} {n:Int} (h0:0<=n) (hn:n<=5000) :∃ h o,(∀ fr mo:Int,0<=fr->0<=mo->mo<=100->lS fu s f args n fr mo=some (window h fr.toNat mo.toNat,o))/\h.length<=n.toNat/\o.a.length<=h.length/\∀ e ∈ h,O0 s e:=by
 have bad:(∀ fr mo:Int,0<=fr->0<=mo->mo<=100->lS fu s f args n fr mo=some ([],⟨1,false,0,[]⟩))->∃ h o,(∀ fr mo:Int,0<=fr->0<=mo->mo<=100->lS fu s f args n fr mo=some (window h fr.toNat mo.toNat,o))/\h.length<=n.toNat/\o.a.length<=h.length/\∀ e ∈ h,O0 s e:=fun h=>
  ⟨[],⟨1,false,0,[]⟩,fun fr mo h1 h2 h3=>by rw [h fr mo h1 h2 h3];simp [window],Nat.zero_le _,Nat.le_refl _,fun e he=>by cases he⟩
 unfold lS traceM at bad ⊢;cases hF:ix? s.a.b f with
 | none=>rw [hF] at bad;exact bad fun _ _ _ _ _=>rfl
 | some fn=>
  rw [hF] at bad;dsimp only at bad ⊢;by_cases hp:args.length≠fn.a.length
  · exact bad fun fr mo _ _ _=>if_pos (.inl hp)
  obtain ⟨r,hr,hC⟩:=Tw (s:=s) (N:=n.toNat) hs (sm:=stM (jD fu s) s n.toNat fu) (stk:=[]) (f:=f) (args:=args) (hist:=[]) (out:=[]) (Nat.zero_le _) (Nat.le_refl _) (fun e he=>by cases he)
    fun _ S x k h10 _ hG hX=>YG hs (by omega) fu [] S x k (fun g hg=>by cases hg) (Nat.zero_le _) hG hX h10 (by omega)
  obtain ⟨p,h,o⟩:=r;refine ⟨h,acg p o,fun fr mo h1 h2 h3=>?_,hC.hl,?_,hC.ev⟩
  · rw [if_neg (by omega),hr];cases p <;> rfl
  · cases p <;> exact hC.ol
theorem RI:zI 10100=some true:=by kernel_rfl
theorem OW {fu:Nat} (hf:10100<=fu) {l:List Int}:kP (vU fu l) (fun r=>iA r fun s b=>b=true->CI s/\CW s):=by unfold vU;refine .bd Ut fun l2 h2=>.bd (Ym (by omega) (by omega)) fun t _=>?_;refine .bp (Vk (by omega)) fun p r hr=>.pp hr fun a e hp=>.ite (fun _=>.mk fun z=>(by cases z)) fun c=>?_;have hp:=hp (by omega);refine .Rm (Ux hf hp) fun v ev hv=>?_;obtain ⟨s,ln,e⟩:=v;rw [pl] at hv ⊢;rw [pl] at hv ⊢;refine .mk fun z=>?_;have he:e=0:=of_decide_eq_true z;have q:=hv he;subst he;exact ⟨⟨fun V hV=>(q.1.1.2 V hV).2,q.2⟩,PE (by omega) hp ev,Ry (by omega) hp ev,q.2⟩
theorem UA {fu:Nat} {s:jL} (hs:CW s) {f:Int} {args:List Int} {n fr mo:Int}:zn fu s f args n fr mo=lS fu s f args n fr mo:=by unfold zn;rw [if_pos ⟨abM hs,ZA hs⟩]
theorem Vj {h:List ko} {a m:Nat}:(window h a m).length<=h.length:=by unfold window;rw [List.length_take,List.length_drop];omega
theorem Vh {h:List ko} {a m:Nat} {e:ko} (he:e ∈ window h a m):e ∈ h:=by unfold window at he;exact List.mem_of_mem_drop (List.mem_of_mem_take he)
theorem Oj {s:jL} (hs:CI s) {f:Int} {args:List Int} {n fr mo:Int}:∃ h o,lS 10100 s f args n fr mo=some (h,o)/\sJ 10100 h h=some true/\qZ 10100 o o=some true:=by
 have bad:lS 10100 s f args n fr mo=some ([],⟨1,false,0,[]⟩)->∃ h o,lS 10100 s f args n fr mo=some (h,o)/\sJ 10100 h h=some true/\qZ 10100 o o=some true:=fun h=>
   ⟨_,_,h,ZL (by decide) (by decide) (by decide) (fun e he=>by cases he),Ww (by decide) (by decide)⟩
 by_cases hc:0<=n/\n<=5000/\0<=fr/\0<=mo/\mo<=100
 · obtain ⟨h,o,h1,h2,h3,h4⟩:=Ue hs (Nat.le_refl 10100) (f:=f) (args:=args) hc.1 hc.2.1;refine ⟨_,_,h1 fr mo hc.2.2.1 hc.2.2.2.1 hc.2.2.2.2,?_,Ww (by omega) (by omega)⟩;have hw:=Vj (h:=h) (a:=fr.toNat) (m:=mo.toNat);exact ZL (by decide) (by omega) (by omega) fun e he=>(h4 e (Vh he)).sz hs.vn
 · refine bad ?_;unfold lS traceM;cases hF:ix? s.a.b f with
   | none=>rfl
   | some fn=>dsimp only;rw [if_pos (by omega)]
theorem QM (l a:List Int) (f n i k:Int):sP 10100 l a f n i k=some true:=by
 have h:kP (sP 10100 l a f n i k) (fun b=>b=true):=by
  unfold sP;rw [RI];refine .bp (OW (by decide)) fun s b hs=>?_;have hJ:kP (sO 10100 a n b) (pJ (fun q=>q=false->b=true) (fun _=>False)):=by
   unfold sO;refine .ite (fun _=>.go fun z=>by cases z) fun c=>?_;have hb:b=true:=by simpa using c
   exact .ite (fun _=>.ite (fun _=>.go fun _=>hb) fun _=>.go fun _=>hb) fun _=>.go fun _=>hb
  refine .el hJ (fun q hq=>.ite (fun _=>.mk rfl) fun c=>?_) fun _ z=>z.elim;obtain ⟨h1,h2⟩:=hs (hq (by simpa using c));obtain ⟨h,o,e1,e2,e3⟩:=Oj h1 (f:=f) (args:=a) (n:=n) (fr:=i) (mo:=k);rw [UA h2,e1,ob,pl,ob,pl,e2,ob,if_pos rfl,e3,ob,if_pos rfl];exact .mk rfl
 obtain ⟨b,h1,rfl⟩:=h;exact h1
end Go.Proofs.YtfglbdkfnphjgaaGreat
namespace Go.Proofs.YtfglbdkfnphjgaaGreat
open Go.ChangeShapes Go.WideShapes Go.ChangeAt Go.RowKit Go.Fw Go.Joins Go.Proofs.Tryz
theorem own:ownKnob prog.godebug=none:=by kernel_rfl
theorem laidOut:laidOutB prog=true:=by kernel_rfl
theorem RH {w:World} {a:Addr} {v:Value} (h:w.cell? a=some v):∃ b o,a=⟨b,o,none⟩/\b < w.heap.size:=by have h1:=World.cell?_spot h;obtain ⟨b,o,s⟩:=a;simp only at h1;subst h1;exact ⟨b,o,rfl,World.block_lt_of_cell? w _ h⟩
theorem open_list {H:Type} {enc:TypeId × Value->H} {w:World} {base:Nat} {spare:Nat->Bool} {held:Bool} {fuel:Nat} {cs:List Value} {x:DataW H × List MemPlace} (h:DataW.trod enc prog w base spare held fuel 22 cs=some x) :∃ A c zs,cs=[.slice A zs.length c]/\kU (α:=Int) (fun _=>True) w A c zs:=by
 rcases open_ints underlying22 underlying3 (by kernel_rfl) h with ⟨rfl,hx⟩|⟨a,len,cap,zs,rfl,hb,hl,hm,hz,hx,hcell,hwz⟩
 · exact ⟨none,0,[],rfl,kU.nil⟩
 · have hlz:len<=zs.length:=by rw [hz];split <;> omega
   have hlt:(zs.take len).length=len:=by rw [List.length_take];omega
   refine ⟨some a,cap,zs.take len,by rw [hlt],by omega,hm,fun h0=>?_⟩;have h1:=hcell 0 (by omega);rw [Addr.add_zero'] at h1;obtain ⟨b,o,rfl,hbb⟩:=RH h1;refine ⟨rfl,trivial,hbb,fun i z hi=>⟨[.int .i64 z],?_,rfl⟩⟩;rw [List.getElem?_take] at hi;split at hi
   · rename_i hj;have h2:=hcell i (by omega);rw [Addr.add_lit] at h2;intro k v hk;obtain _ | k:=k
     · obtain rfl:Value.int .i64 z=v:=Option.some.inj hk;have hd:zs.getD i 0=z:=by rw [List.getD_eq_getElem?_getD,hi];rfl
       rw [hd] at h2;exact (by simpa [Rp.sz,mX,nU] using h2)
     · cases hk
   · cases hi
theorem Qx {w:World} {A B:Option Addr} {c d:Nat} {l m:List Int} (h:kU (fun _=>True) w A c l) (k:kU (fun _=>True) w B d m):Pre w (fun _=>True) [] [.l A c l,.l B d m]:=⟨fun it hi=>(by cases hi),fun it hi=>(by cases hi),List.Pairwise.nil,fun q hd=>by
 simp only [List.mem_cons,List.not_mem_nil,or_false] at hd;rcases hd with rfl | rfl
 · exact h
 · exact k⟩
theorem F7 (w:World) {A0:Option Addr} {c0:Nat} {x0:List Int} (h0:kU (fun _=>True) w A0 c0 x0) {A1:Option Addr} {c1:Nat} {x1:List Int} (h1:kU (fun _=>True) w A1 c1 x1) {x2:Int} {x3:Int} {x4:Int} {x5:Int}:Calls prog 4 #[.slice A0 x0.length c0,.slice A1 x1.length c1,Vi x2,Vi x3,Vi x4,Vi x5] w (pz fun v w'=>v=.bool true/\Ext w w'):=
 (D9 10100 (Qx h0 h1) (QM x0 x1 x2 x3 x4 x5)).mono fun e w' he=>by obtain ⟨v,rfl,hv,hb⟩:=he;exact ⟨v,rfl,hv,hb.ex⟩
set_option maxRecDepth 100000 in
theorem D8 (os:Os) (started:os.Started) (H:Type) (enc:TypeId × Value->H) :ReturnsInHanded {} checked os 4 .any (Rows.interpArgsSpec.pre6 enc prog f4 Rows.interpArgsRow.domain false) (Rows.interpArgsSpec.post enc prog f4 false true false false):=by
 refine returnsInHanded_of_change (C:=checked) own started (by kernel_rfl) func4
  (ChangeSpec.witness6 (enc:=enc) (C:=checked) false ⟨#[],#[.slice none 0 0,.slice none 0 0,.int .i64 0,.int .i64 0,.int .i64 0,.int .i64 0],[]⟩ 8 (by kernel_rfl) (by kernel_rfl) (by kernel_rfl) (by kernel_rfl)) ?_
 intro W base args ds gs before hval0 hW hcnd _;have hval:∀ (j:Nat) t v,f4.params[j]?=some t->args[j]?=some v->Value.okWide prog W .any base t v:=hval0;have hW':=hW;obtain ⟨p,q,hA0,hV,rfl,hfz,hnd⟩:=hW;have hA:DataW.TrodAll enc prog W 0 (fun _=>true) true f4.params.toList args.toList ds p:=hA0;rw [params4] at hA hval;obtain ⟨v0,vs0,d0,ds0,p0,q0,hargs,rfl,rfl,h0,r0⟩:=trodAll_cons hA;obtain ⟨v1,vs1,d1,ds1,p1,q1,rfl,rfl,rfl,h1,r1⟩:=trodAll_cons r0;obtain ⟨v2,vs2,d2,ds2,p2,q2,rfl,rfl,rfl,h2,r2⟩:=trodAll_cons r1;obtain ⟨v3,vs3,d3,ds3,p3,q3,rfl,rfl,rfl,h3,r3⟩:=trodAll_cons r2;obtain ⟨v4,vs4,d4,ds4,p4,q4,rfl,rfl,rfl,h4,r4⟩:=trodAll_cons r3;obtain ⟨v5,vs5,d5,ds5,p5,q5,rfl,rfl,rfl,h5,r5⟩:=trodAll_cons r4;obtain ⟨rfl,rfl,rfl⟩:=trodAll_nil r5;obtain rfl:args=#[v0,v1,v2,v3,v4,v5]:=by cases args;simp_all
 obtain ⟨rfl,rfl⟩:=trodVars_none hV;have k0:=h0;have lt0:∀ x ∈ p0,x.block < W.heap.size:=by obtain ⟨m,hm⟩:=k0;exact DataW.trod_lt m _ _ _ hm
 have k1:=h1;have lt1:∀ x ∈ p1,x.block < W.heap.size:=by obtain ⟨m,hm⟩:=k1;exact DataW.trod_lt m _ _ _ hm
 have k2:=h2;have lt2:∀ x ∈ p2,x.block < W.heap.size:=by obtain ⟨m,hm⟩:=k2;exact DataW.trod_lt m _ _ _ hm
 have k3:=h3;have lt3:∀ x ∈ p3,x.block < W.heap.size:=by obtain ⟨m,hm⟩:=k3;exact DataW.trod_lt m _ _ _ hm
 have k4:=h4;have lt4:∀ x ∈ p4,x.block < W.heap.size:=by obtain ⟨m,hm⟩:=k4;exact DataW.trod_lt m _ _ _ hm
 have k5:=h5;have lt5:∀ x ∈ p5,x.block < W.heap.size:=by obtain ⟨m,hm⟩:=k5;exact DataW.trod_lt m _ _ _ hm
 obtain ⟨a0,n0,c0,rfl⟩:=okWide_slice underlying22 (hval 0 22 v0 rfl rfl);obtain ⟨f0,hf0⟩:=h0;obtain ⟨A0,e0,l0,hcs0,hl0⟩:=open_list hf0;simp [Value.cells] at hcs0;obtain ⟨rfl,rfl,rfl⟩:=hcs0;obtain ⟨a1,n1,c1,rfl⟩:=okWide_slice underlying22 (hval 1 22 v1 rfl rfl);obtain ⟨f1,hf1⟩:=h1;obtain ⟨A1,e1,l1,hcs1,hl1⟩:=open_list hf1;simp [Value.cells] at hcs1;obtain ⟨rfl,rfl,rfl⟩:=hcs1;obtain ⟨x2,rfl⟩:=okWide_int underlying3 (hval 2 3 v2 rfl rfl);obtain ⟨x3,rfl⟩:=okWide_int underlying3 (hval 3 3 v3 rfl rfl);obtain ⟨x4,rfl⟩:=okWide_int underlying3 (hval 4 3 v4 rfl rfl);obtain ⟨x5,rfl⟩:=okWide_int underlying3 (hval 5 3 v5 rfl rfl);clear hA0 hval0;refine (F7 W hl0 hl1).mono fun e W' he=>?_;obtain ⟨v,rfl,rfl,bel⟩:=he;exact ⟨_,rfl,_,_,_,[],_,[],hW',trodAll_mk1 (shut_bool underlying4 _),trodAll_cons_mk (Below.trod laidOut (by kernel_rfl) (of_decide_eq_true (by kernel_rfl)) k0 bel lt0) (trodAll_cons_mk (Below.trod laidOut (by kernel_rfl) (of_decide_eq_true (by kernel_rfl)) k1 bel lt1) (trodAll_cons_mk (Below.trod laidOut (by kernel_rfl) (of_decide_eq_true (by kernel_rfl)) k2 bel lt2) (trodAll_cons_mk (Below.trod laidOut (by kernel_rfl) (of_decide_eq_true (by kernel_rfl)) k3 bel lt3) (trodAll_cons_mk (Below.trod laidOut (by kernel_rfl) (of_decide_eq_true (by kernel_rfl)) k4 bel lt4) (trodAll_cons_mk (Below.trod laidOut (by kernel_rfl) (of_decide_eq_true (by kernel_rfl)) k5 bel lt5) trodAll_mk0))))),rfl,Below.frame bel _,fun h=>by cases h⟩
theorem interpArgs_holds:Rows.InterpArgsSaid:=
 OpenClaim.holds_of_wide 4 f4 rfl rfl rfl rfl rfl rfl rfl ⟨rfl,rfl,rfl,rfl,rfl⟩ rfl rfl rfl rfl rfl (by kernel_rfl) func4 (by kernel_rfl)
  (of_decide_eq_true (by kernel_rfl)) (by unfold Func.isWrapper;first | (rw [if_pos (by decide +kernel)];kernel_rfl)|(rw [if_neg (by decide +kernel)];exact ⟨rfl,rfl⟩))
  (fun os started H enc _=>D8 os started H enc)
end Go.Proofs.YtfglbdkfnphjgaaGreat
