/- What the checker of the specification finds out: statements, functions, sources. -/
import Derived.Test.YtfglbdkfnphjgaaGreatZ18
import Derived.Test.YtfglbdkfnphjgaaGreatPf
import Derived.Test.YtfglbdkfnphjgaaGreatZ17
set_option linter.unusedVariables false
set_option linter.unusedSimpArgs false
namespace Go.Proofs.YtfglbdkfnphjgaaGreat
open Go.RowKit Go.Fw Go.Proofs.Tryz
def zB (l:List kW):List Nat:=l.map fun f=>f.a.length
theorem xP {α:Type}{l:List α}{k:Nat}:ix l (k:Int)=l[k]?:=by unfold Go.Fw.ix;rw [jR (by omega),AY]
theorem Vr.snoc {V:List jy}{v:jy}:Vr V (V ++ [v]):=fun i x h=>⟨x,by rw [GI (jU h)];exact h,rfl,rfl,rfl,rfl⟩
theorem XQ {S:fV}{V V':List jy}{vs:List (List jy)}(h:Wd S V)(hs:st S.a.c S.f V'=some vs):ix vs S.f=some V'/\(∀ i:Nat,(i:Int)≠S.f->vs[i]?=S.a.c[i]?)/\vs.length=S.a.c.length:=by obtain ⟨k,hk,hl,rfl⟩:=wN hs;rw [hk];refine ⟨by rw [xP,EU hl],fun i hi=>?_,wV⟩;rw [DZ (by omega)]
theorem GZ {fu:Nat}{S S':fV}{ln j:Int}{v:jy}{V:List jy}(h:pE fu S ln v=some (j,S'))(hw:Wd S V)(hv:VO S.a.a.a v)(e:S'.e=0):Up S V S' (V ++ [v])/\j=(V.length:Int)/\S'.a.b=S.a.b:=by
 unfold pE at h;obtain ⟨⟨o,c⟩,_,h⟩:=bs h;rw [pl] at h;obtain ⟨t,ht,h⟩:=bs h;rw [hw.v] at ht;cases ht;rcases jB h with ⟨c1,h⟩|⟨c1,h⟩
 · cases h;exact absurd e c1
 rcases jB h with ⟨c2,h⟩|⟨c2,h⟩
 · obtain ⟨d,hd,h⟩:=bs h;cases h;exact absurd e (wP (by decide) hd).2
 rcases jB h with ⟨c3,h⟩|⟨c3,h⟩
 · obtain ⟨d,hd,h⟩:=bs h;cases h;exact absurd e (wP (by decide) hd).2
 obtain ⟨i,hi,h⟩:=bs h;obtain ⟨_,rfl⟩:=qG hi;obtain ⟨op,_,h⟩:=bs h;obtain ⟨vs,hvs,h⟩:=bs h;cases h;obtain ⟨k1,k2,k3⟩:=XQ hw hvs;exact ⟨⟨Decidable.not_not.1 c1,rfl,rfl,Dm,k1,k2,k3,.snoc,oL hw.vo hv⟩,rfl,rfl⟩
theorem UL {fu:Nat}{S S':fV}{x x':jI}(h:rA fu S x=some (S',x')):KP S S'/\∃ c,x'=⟨x.c,x.f,x.n,x.b,x.k,x.m,x.g,x.d,x.j,c,x.a,x.e,x.h⟩/\(S'.e=0->ix (zB S.a.a.b) c=some x.a.length):=by
 unfold rA at h;rcases jB h with ⟨c1,h⟩|⟨_,h⟩
 · cases h;exact ⟨.rfl',x.i,by cases x;rfl,fun z=>absurd z c1⟩
 · obtain ⟨⟨b,d⟩,_,h⟩:=bs h;rw [pl] at h;rcases jB h with ⟨_,h⟩|⟨_,h⟩
   · obtain ⟨q,hq,h⟩:=bs h;cases h;have k:=wP (by decide) hq;exact ⟨k.1,b,rfl,fun z=>absurd z k.2⟩
   · obtain ⟨fn,hfn,h⟩:=bs h;rcases jB h with ⟨_,h⟩|⟨c2,h⟩
     · obtain ⟨q,hq,h⟩:=bs h;cases h;have k:=wP (by decide) hq;exact ⟨k.1,b,rfl,fun z=>absurd z k.2⟩
     · cases h;refine ⟨.rfl',b,rfl,fun _=>?_⟩;obtain ⟨k,rfl,hk⟩:=kN hfn;rw [xP];unfold zB;rw [BR,hk];exact congrArg some (by dsimp only;omega)
section
variable {fu:Nat}{f:fV->List jI->Option (List jI × fV)}{g:fV->jI->Option (jI × fV)}
def Xb (f:fV->List jI->Option (List jI × fV)):Prop:=∀ S l l' S' V,f S l=some (l',S')->Wd S V->(∀ y ∈ l,∃ n,Ej 5000 n y)->S'.e=0->∃ V',Up S V S' V'/\SW S'.a.b V' (zB S.a.a.b) S.f l' S.a.b.length S'.a.b.length
def Eb (f:fV->List jI->Option (List jI × fV)):Prop:=∀ S l l' S',f S l=some (l',S')->S'.e=0->S.e=0
def Xs (g:fV->jI->Option (jI × fV)):Prop:=∀ S x x' S' V,g S x=some (x',S')->Wd S V->(∃ n,Ej 5000 n x)->S'.e=0->∃ V',Up S V S' V'/\SW S'.a.b V' (zB S.a.a.b) S.f [x'] S.a.b.length S'.a.b.length
abbrev inS (S:fV)(r8:List jZ):fV:=⟨⟨S.a.a,S.a.c,r8⟩,S.f,S.b,S.c,S.e⟩
theorem abf {S:fV}{x:jI}{r8:List jZ}{v:Ld (Int × Int × Int) (jI × fV)}(h8:x.m<=8)(h:rF fu f g S x r8=some v) :(∃ k c n,v=.go (k,c,n)/\∀ nm p a b,VO S.a.a.a ⟨nm,k,c,n,p,a,b⟩)\/∃ y S',v=.out (y,S')/\S'.e≠0:=by
 unfold rF at h;rcases jB h with ⟨c,h⟩|⟨_,h⟩
 · cases h;exact .inl ⟨_,_,_,rfl,fun _ _ _ _=>.inr (.inr ⟨rfl,c,h8⟩)⟩
 · rcases jB h with ⟨_,h⟩|⟨_,h⟩
   · obtain ⟨⟨c,d⟩,_,h⟩:=bs h;rw [pl] at h;rcases jB h with ⟨_,h⟩|⟨_,h⟩
     · obtain ⟨q,hq,h⟩:=bs h;cases h;exact .inr ⟨_,_,rfl,(wP (by decide) hq).2⟩
     · obtain ⟨r,hr,h⟩:=bs h;cases h;exact .inl ⟨_,_,_,rfl,fun _ _ _ _=>.inr (.inl ⟨rfl,r,hr,rfl⟩)⟩
   · cases h;exact .inl ⟨_,_,_,rfl,fun _ _ _ _=>.inl ⟨rfl,rfl⟩⟩
theorem ZI {S:fV}{x:jI}{r8:List jZ}{x':jI}{S':fV}{V:List jy}(h8:x.m<=8)(h:pq fu f g S x r8=some (.out (x',S')))(hw:Wd (inS S r8) V)(e:S'.e=0) :x.c=1/\∃ V' v,Up (inS S r8) V S' V'/\x'=⟨x.c,x.f,(S.a.b.length:Int),x.b,x.k,x.m,v,x.d,x.j,x.i,x.a,x.e,x.h⟩/\S'.a.b=r8/\∃ q,ix V' v=some q:=by
 unfold pq at h;rcases jB h with ⟨hk,h⟩|⟨_,h⟩
 · obtain ⟨v,hv,h⟩:=bs h;rcases abf h8 hv with ⟨k,c,n,rfl,hvo⟩|⟨y,S2,rfl,h2⟩
   · replace h:=gi h;simp only [pl] at h;obtain ⟨⟨j,k⟩,hd,h⟩:=bs h;rw [pl] at h;cases h;obtain ⟨k1,rfl,k3⟩:=GZ hd hw (hvo _ _ _ _) e;exact ⟨hk,_,_,k1,rfl,k3,_,by rw [xP,H9 (oH _),Nat.sub_self];rfl⟩
   · cases h;exact absurd e h2
 · rcases jB h with ⟨_,h⟩|⟨_,h⟩
   · rcases jB h with ⟨_,h⟩|⟨_,h⟩
     · obtain ⟨_,_,h⟩:=bs h;rcases jB h with ⟨_,h⟩|⟨_,h⟩
       · obtain ⟨_,_,h⟩:=bs h;cases h
       · cases h
     · cases h
   · cases h
theorem aav {S:fV}{x:jI}{r8:List jZ}{a1:List kI}{a2 a3 a4:Int}{a5:List kW}{a6:List (List jy)}{a7:List jZ}{a8:List Int}(h1:x.d.length<=1)(h8:x.m<=8)(h:pq fu f g S x r8=some (.go (a1,a2,a3,a4,a5,a6,a7,a8))):KP (inS S r8) ⟨⟨⟨a1,a5⟩,a6,a7⟩,a2,a8,a3,a4⟩/\x.c≠1/\(a4=0->x.c=3->∀ y ∈ x.d,y.e=1):=by
 unfold pq at h;rcases jB h with ⟨hk,h⟩|⟨hk,h⟩
 · obtain ⟨v,hv,h⟩:=bs h;rcases abf h8 hv with ⟨k,c,n,rfl,hvo⟩|⟨y,S2,rfl,h2⟩
   · replace h:=gi h;simp only [pl] at h;obtain ⟨⟨j,k⟩,hd,h⟩:=bs h;rw [pl] at h;cases h
   · cases h
 · rcases jB h with ⟨hk3,h⟩|⟨hk3,h⟩
   · rcases jB h with ⟨ht,h⟩|⟨ht,h⟩
     · obtain ⟨t,ht2,h⟩:=bs h;rcases jB h with ⟨_,h⟩|⟨hop,h⟩
       · obtain ⟨q,hq,h⟩:=bs h;cases h;have k:=wP (by decide) hq;exact ⟨k.1,hk,fun z=>absurd z k.2⟩
       · cases h;refine ⟨.rfl',hk,fun _ _ y hy=>?_⟩;obtain ⟨i,hi⟩:=Ik hy;have:=jU hi;obtain rfl:i=0:=by omega
         rw [show (0:Int)=((0:Nat):Int) from rfl,xP,hi] at ht2;cases ht2;exact Decidable.not_not.1 hop
     · cases h;exact ⟨.rfl',hk,fun _ _ y hy=>by
         have:=List.length_pos_of_mem hy;omega⟩
   · cases h;exact ⟨.rfl',hk,fun _ z=>absurd z hk3⟩
theorem adp {v:Int}{S:fV}{V:List jy}{A:List (List jy)}(hw:Wd S V)(h:rC fu f g v S=some (.go A))(e:S.e=0):∃ V',Up S V ⟨⟨S.a.a,A,S.a.b⟩,S.f,S.b,S.c,S.e⟩ V':=by
 unfold rC at h;rcases jB h with ⟨_,h⟩|⟨c,h⟩
 · obtain ⟨t,ht,h⟩:=bs h;rw [hw.v] at ht;cases ht;obtain ⟨b,hb,h⟩:=bs h;obtain ⟨V',hV',h⟩:=bs h;obtain ⟨vs,hvs,h⟩:=bs h;cases h;obtain ⟨k,rfl,hkl,rfl⟩:=wN hV';rw [xP] at hb;obtain ⟨k1,k2,k3⟩:=XQ hw hvs;refine ⟨_,e,rfl,rfl,Dm,k1,k2,k3,fun i x hx=>?_,fun x hx=>?_⟩
   · by_cases hik:i=k
     · subst hik;rw [hb] at hx;cases hx;exact ⟨_,EU hkl,rfl,rfl,rfl,rfl⟩
     · exact ⟨x,by rw [DZ (by omega)];exact hx,rfl,rfl,rfl,rfl⟩
   · rcases EO hx with hx | rfl
     · exact hw.vo x hx
     · have:=hw.vo b (wC hb);exact this
 · exact absurd e c
theorem Ea:∀ (l:List jI)(k:Nat)(out:List jI)(a1:List kI)(a2 a3 a4:Int)(a5:List kW)(a6:List (List jy))(a7:List jZ)(a8:List Int)(v:Ld (List jI × List kI × Int × Int × Int × List kW × List (List jy) × List jZ × List Int) (List jI × fV)),
  a4≠0->lQ fu f g l k out a1 a2 a3 a4 a5 a6 a7 a8=some v->v=.go (out,a1,a2,a3,a4,a5,a6,a7,a8)
 | [],_,_,_,_,_,_,_,_,_,_,v,_,h=>by cases h;rfl
 | u :: r,_,_,_,_,_,_,_,_,_,_,v,he,h=>by rw [lQ,kg he] at h;cases h;rfl
theorem IJ (hg:Xs g){S0:fV}{V0:List jy}:∀ (l:List jI)(k:Nat)(out:List jI)(S:fV)(V:List jy)(o:List jI)(a1:List kI)(a2 a3 a4:Int)(a5:List kW)(a6:List (List jy))(a7:List jZ)(a8:List Int),
  Up S0 V0 S V->SW S.a.b V (zB S0.a.a.b) S0.f out S0.a.b.length S.a.b.length->(∀ y ∈ l,∃ n,Ej 5000 n y)->
  lQ fu f g l k out S.a.a.a S.f S.c S.e S.a.a.b S.a.c S.a.b S.b=some (.go (o,a1,a2,a3,a4,a5,a6,a7,a8))->a4=0->
  ∃ V',Up S0 V0 ⟨⟨⟨a1,a5⟩,a6,a7⟩,a2,a8,a3,a4⟩ V'/\SW a7 V' (zB S0.a.a.b) S0.f o S0.a.b.length a7.length
 | [],_,out,S,V,_,_,_,_,_,_,_,_,_,hU,hW,_,h,e=>by cases h;exact ⟨V,hU,hW⟩
 | u :: r,k,out,S,V,o,a1,a2,a3,a4,a5,a6,a7,a8,hU,hW,hl,h,e=>by
  rw [lQ] at h;rcases jB h with ⟨c,h⟩|⟨_,h⟩
  · cases h;exact absurd e c
  obtain ⟨⟨x,S1⟩,h1,h⟩:=bs h;rw [pl] at h;obtain ⟨w,hw,h⟩:=bs h;obtain ⟨_,rfl⟩:=qG hw;by_cases he:S1.e=0
  · obtain ⟨V1,k1,k2⟩:=hg _ _ _ _ V h1 hU.wd (hl u (.head _)) he;rw [hU.pg,hU.f] at k2;exact IJ hg r _ _ S1 V1 o a1 a2 a3 a4 a5 a6 a7 a8 (hU.trans k1) ((hW.mono k1.k k1.vr).app k2) (fun y hy=>hl y (.tail _ hy)) h e
  · have:=Ea _ _ _ _ _ _ _ _ _ _ _ _ he h;cases this;exact absurd e he
theorem IC {c:Int}{d:List jZ}{R:List kI}:∀ (l:List Int)(k:Nat)(a a':List (List jy))(V:List jy),nY fu f g c d l k a=some (.go a')→ix a c=some V→(∀ x ∈ V,VO R x)→
  ∃ V',ix a' c=some V'/\Vr V V'/\(∀ x ∈ V',VO R x)/\(∀ i:Nat,(i:Int)≠c->a'[i]?=a[i]?)/\a'.length=a.length
 | [],_,a,a',V,h,hV,ho=>by cases h;exact ⟨V,hV,.rfl',ho,fun _ _=>rfl,rfl⟩
 | e :: r,k,a,a',V,h,hV,ho=>by
  rw [nY] at h;obtain ⟨t,ht,h⟩:=bs h;rw [hV] at ht;cases ht;obtain ⟨b,hb,h⟩:=bs h;obtain ⟨V1,hV1,h⟩:=bs h;obtain ⟨vs,hvs,h⟩:=bs h;obtain ⟨q,rfl,hql,rfl⟩:=wN hV1;rw [xP] at hb;obtain ⟨p,rfl,hpl,rfl⟩:=wN hvs;obtain ⟨V',h1,h2,h3,h4,h5⟩:=IC r _ _ a' _ h (by rw [xP,EU hpl]) (fun x hx=>by
    rcases EO hx with hx | rfl
    · exact ho x hx
    · have:=ho b (wC hb);exact this)
  refine ⟨V',h1,Vr.trans (fun i x hx=>?_) h2,h3,fun i hi=>(h4 i hi).trans (by rw [DZ (by omega)]),h5.trans wV⟩;by_cases hik:i=q
  · subst hik;rw [hb] at hx;cases hx;exact ⟨_,EU hql,rfl,rfl,rfl,rfl⟩
  · exact ⟨x,by rw [DZ (by omega)];exact hx,rfl,rfl,rfl,rfl⟩
theorem Ed:∀ (l:List jI){k:Nat}{out:List jI}{a1:List kI}{a2 a3 a4:Int}{a5:List kW}{a6:List (List jy)}{a7:List jZ}{a8:List Int}{o:List jI × fV},lQ fu f g l k out a1 a2 a3 a4 a5 a6 a7 a8=some (.out o)→False
 | [],_,_,_,_,_,_,_,_,_,_,_,h=>by cases h
 | u :: r,_,_,_,_,_,_,_,_,_,_,_,h=>by
  rw [lQ] at h;rcases jB h with ⟨c,h⟩|⟨_,h⟩
  · cases h
  obtain ⟨⟨x,S1⟩,h1,h⟩:=bs h;rw [pl] at h;obtain ⟨w,hw,h⟩:=bs h;exact Ed r h
theorem WB (hg:Xs g):Xb (o7 fu f g):=by
 intro S l l' S' V h hw hl e;unfold o7 at h;obtain ⟨v,hv,h⟩:=bs h;cases v with
 | out o=>
  have hd:=Ed l hv;exact hd.elim
 | go r=>
 obtain ⟨o,a1,a2,a3,a4,a5,a6,a7,a8⟩:=r;replace h:=gi h;simp only [pl] at h;obtain ⟨_,_,h⟩:=bs h;obtain ⟨v2,hv2,h⟩:=bs h;cases v2 with
 | out q=>exact (BJ _ _ _ _ hv2).elim
 | go q=>
  replace h:=gi h;obtain ⟨_,_,h⟩:=bs h;obtain ⟨_,_,h⟩:=bs h;cases h;by_cases hS:S.e=0
  · obtain ⟨V1,k1,k2⟩:=IJ hg l 0 [] S V _ _ _ _ _ _ _ _ _ (.rfl' hw hS) .nil hl hv e;have hf:a2=S.f:=k1.f;obtain ⟨V2,h1,h2,h3,h4,h5⟩:=IC (R:=S.a.a.a) _ _ _ _ V1 hv2 (by rw [hf];exact k1.v) k1.vo;refine ⟨V2,⟨hS,hf,k1.pg,k1.k,by rw [<-hf];exact h1,fun i hi=>(h4 i (by rw [hf];exact hi)).trans (k1.vs i hi),h5.trans k1.vl,k1.vr.trans h2,h3⟩,k2.mono Dm h2⟩
  · have:=Ea _ _ _ _ _ _ _ _ _ _ _ _ hS hv;cases this;exact absurd e hS
theorem Wl:Eb (o7 fu f g):=by
 intro S l l' S' h e;unfold o7 at h;obtain ⟨v,hv,h⟩:=bs h;cases v with
 | out o=>exact (Ed l hv).elim
 | go r=>
 obtain ⟨o,a1,a2,a3,a4,a5,a6,a7,a8⟩:=r;replace h:=gi h;simp only [pl] at h;obtain ⟨_,_,h⟩:=bs h;obtain ⟨v2,hv2,h⟩:=bs h;cases v2 with
 | out q=>exact (BJ _ _ _ _ hv2).elim
 | go q=>
  replace h:=gi h;obtain ⟨_,_,h⟩:=bs h;obtain ⟨_,_,h⟩:=bs h;cases h;refine Classical.byContradiction fun hS=>?_;have:=Ea _ _ _ _ _ _ _ _ _ _ _ _ hS hv;cases this;exact hS e
theorem adX (hE:Eb f)(hf:Xb f){h' c j:Int}{d k:ByteArray}{l:Int}{m:List jA}{p:ByteArray}{t:Int}{u:List jI}{v:List jA}{w:List jI}{S:fV}{V:List jy}(hw:Wd S V)(hl:∀ y ∈ u,∃ n,Ej 5000 n y){r:Ld Unit (jI × fV)}(h:qD fu f g h' c j d k l m p t u v w S=some r) :(r=.go ()/\(S.e=0->h'≠8))\/∃ i z S',r=.out (⟨h',c,j,d,k,l,i,m,p,t,v,w,z⟩,S')/\h'=8/\(S'.e=0->∃ V',Up S V S' V'/\SW S'.a.b V' (zB S.a.a.b) S.f z S.a.b.length S'.a.b.length/\∃ q,ix V' i=some q/\q.c=1/\q.e=(S.a.b.length:Int)):=by
 unfold qD at h;rcases jB h with ⟨h8,h⟩|⟨h8,h⟩
 · rcases jB h with ⟨he,h⟩|⟨he,h⟩
   · obtain ⟨B,_,h⟩:=bs h;obtain ⟨⟨i,S1⟩,hd,h⟩:=bs h;rw [pl] at h;obtain ⟨⟨z,S2⟩,hz,h⟩:=bs h;rw [pl] at h;obtain ⟨q,hq,h⟩:=bs h;cases q with
     | out o=>exact (acn hq).elim
     | go A=>
      replace h:=gi h;cases h;refine .inr ⟨_,_,_,rfl,h8,fun e=>?_⟩;have e2:S2.e=0:=e;by_cases e1:S1.e=0
      · obtain ⟨k1,rfl,k3⟩:=GZ hd hw (.inl ⟨rfl,rfl⟩) e1;obtain ⟨V2,k4,k5⟩:=hf _ _ _ _ _ hz k1.wd hl e2;obtain ⟨V3,k6⟩:=adp k4.wd hq e2;have k7:Up S V ⟨⟨S2.a.a,A,S2.a.b⟩,S2.f,B,S2.c,S2.e⟩ V3:=by have:=(k1.trans k4).trans k6;exact ⟨this.e,this.f,this.pg,this.k,this.v,this.vs,this.vl,this.vr,this.vo⟩
        rw [k1.pg,k1.f,k3] at k5;refine ⟨V3,k7,k5.mono Dm k6.vr,?_⟩;obtain ⟨q',hq',a1,a2,a3,a4⟩:=QO (k4.vr.trans k6.vr) (i:=(V.length:Int)) (v:=⟨d,1,-1,1,false,(S.a.b.length:Int),0⟩) (by rw [xP,H9 (oH _),Nat.sub_self];rfl);exact ⟨q',hq',a1,a4⟩
      · exact absurd (hE _ _ _ _ hz e2) e1
   · cases h;exact .inl ⟨rfl,fun z=>absurd z he⟩
 · cases h;exact .inl ⟨rfl,fun _=>h8⟩
theorem ad9 {z:fV}{x:jI}{T:List jA}{S:fV}{V:List jy}(hw:Wd S V){v:Ld (List kI × Int × Int × Int × List kW × List (List jy) × List jZ × List Int × Int × Int × Int × ByteArray × ByteArray × Int × Int × List jA × ByteArray × Int × List jA × List jI × List jI) (jI × fV)}(h:rJ fu f g z x T S=some v) :∃ S1 cl,v=.go (S1.a.a.a,S1.f,S1.c,S1.e,S1.a.a.b,S1.a.c,S1.a.b,S1.b,x.c,x.f,(z.a.b.length:Int),x.b,x.k,x.m,x.g,T,x.j,cl,x.a,x.e,x.h)/\KP S S1/\(S1.e=0->x.j≠be->ix (zB S.a.a.b) cl=some x.a.length):=by
 unfold rJ at h;rcases jB h with ⟨_,h⟩|⟨c,h⟩
 · obtain ⟨⟨S1,a⟩,ha,h⟩:=bs h;rw [pl] at h;obtain ⟨k1,cc,rfl,k2⟩:=UL ha;cases h;exact ⟨S1,cc,rfl,k1,fun z _=>k2 z⟩
 · cases h;exact ⟨S,x.i,rfl,.rfl',fun _ z=>absurd (Decidable.not_not.1 c) z⟩
theorem Zv (hE:Eb f)(hf:Xb f):Xs (uM fu f g):=by
 intro S x x' S' V h hw ⟨n,hx⟩ e;cases n with
 | zero=>exact hx.elim
 | succ n=>
 obtain ⟨h1,h2,h3,h4,hsh⟩:=hx;have hbo:∀ y ∈ x.e,∃ n,Ej 5000 n y:=fun y hy=>⟨n,h3.2 y hy⟩;have hel:∀ y ∈ x.h,∃ n,Ej 5000 n y:=fun y hy=>⟨n,h4.2 y hy⟩;unfold uM at h;rcases jB h with ⟨_,h⟩|⟨_,h⟩
 · obtain ⟨q,hq,h⟩:=bs h;cases h;exact absurd e (wP (by decide) hq).2
 obtain ⟨r8,hr8,h⟩:=bs h;obtain ⟨_,rfl⟩:=qG hr8;have hw8:Wd (inS S (S.a.b ++ [⟨S.f,x.c,x.f⟩])) V:=⟨hw.v,hw.vo⟩;have hup:∀ {S2:fV}{V2:List jy},Up (inS S (S.a.b ++ [⟨S.f,x.c,x.f⟩])) V S2 V2->Up S V S2 V2:=fun k=>⟨k.e,k.f,k.pg,(List.prefix_append _ _).trans k.k,k.v,k.vs,k.vl,k.vr,k.vo⟩;have hk8:∀ {K:List jZ},S.a.b ++ [⟨S.f,x.c,x.f⟩] <+: K->K[S.a.b.length]?=some ⟨S.f,x.c,x.f⟩:=fun hK=>by obtain ⟨t,rfl⟩:=hK;rw [Em,H9 (oH _),Nat.sub_self];rfl
 obtain ⟨v,hv,h⟩:=bs h;cases v with
 | out o=>
   cases h;obtain ⟨hk,V',q,k1,rfl,k2,q',hq'⟩:=ZI hsh.len hv hw8 e;obtain ⟨t1,t2,t3,t4,t5⟩:=hsh.decl hk;refine ⟨V',hup k1,.cons rfl ?_ ?_ ?_ (fun _=>⟨q',hq'⟩) (fun z=>?_) (fun z=>?_) (fun y z=>?_) (c:=S.a.b.length+1) (d:=S.a.b.length+1) ?_ ?_ ?_⟩
   · rw [k2];exact hk8 Dm
   · dsimp only;rw [t1];intro y hy;cases hy
   · dsimp only;rw [t2];intro y hy;cases hy
   · dsimp only at z;omega
   · dsimp only at z;exact absurd t5 z
   · dsimp only at z;rw [t1] at z;cases z
   · dsimp only;rw [t3];exact .nil
   · dsimp only;rw [t4];exact .nil
   · rw [k2,kM];exact .nil
 | go s=>
   obtain ⟨a1,a2,a3,a4,a5,a6,a7,a8⟩:=s;replace h:=gi h;simp only [pl] at h;obtain ⟨m1,m2,m3⟩:=aav h1.1 hsh.len hv;obtain ⟨⟨T,S1⟩,hT,h⟩:=bs h;rw [pl] at h;obtain ⟨k1,k2,k3⟩:=(MC fu).2 _ _ _ _ _ V hT (m1.wd hw8);obtain ⟨v,hv2,h⟩:=bs h;obtain ⟨S2,cl,rfl,k4,k5⟩:=ad9 ((m1.trans k1).wd hw8) hv2;replace h:=gi h;simp only [pl] at h;obtain ⟨⟨A,S3⟩,hA,h⟩:=bs h;rw [pl] at h;have m4:=(m1.trans k1).trans k4;obtain ⟨k6,k7,k8⟩:=(MC fu).2 _ _ _ _ _ V hA (m4.wd hw8);have m6:=m4.trans k6;obtain ⟨⟨B,S4⟩,hB,h⟩:=bs h;rw [pl] at h;have hlenA:A.length=x.a.length:=by have:=congrArg List.length k7;rwa [xR,xR] at this
   have fin:∀ {V4 V5:List jy}{S5:fV}{Z:List jI}{i:Int},Up S3 V S4 V4→SW S4.a.b V4 (zB S3.a.a.b) S3.f B S3.a.b.length S4.a.b.length→Up S4 V4 S5 V5→SW S5.a.b V5 (zB S4.a.a.b) S4.f Z S4.a.b.length S5.a.b.length→(x.c=8→∃ q,ix V5 i=some q∧q.c=1∧q.e=(S4.a.b.length:Int))→
       Up S V S5 V5/\SW S5.a.b V5 (zB S.a.a.b) S.f [⟨x.c,x.f,(S.a.b.length:Int),x.b,x.k,x.m,i,T,x.j,cl,A,B,Z⟩] S.a.b.length S5.a.b.length:=fun {V4 V5 S5 Z i} n1 n2 n3 n4 n5=>by
     have e3:S3.e=0:=n1.e;have u3:Up S V S3 V:=hup (m6.up hw8 e3);have hst:S3.a.b=S.a.b ++ [⟨S.f,x.c,x.f⟩]:=by rw [m6.out]
     rw [u3.pg,u3.f,hst,kM] at n2;rw [n1.pg,n1.f,u3.pg,u3.f] at n4;have vr:=n1.vr.trans n3.vr;refine ⟨(u3.trans n1).trans n3,.cons rfl (hk8 ?_) (fun y hy=>(k3 (k4.e (k6.e e3)) y hy).mono vr) (fun y hy=>(k8 e3 y hy).mono vr) (fun z=>absurd z m2) n5 (fun z=>?_) (fun y hy=>?_) (n2.mono n3.k n3.vr) n4 .nil⟩
     · rw [<-hst];exact n1.k.trans n3.k
     · have:=k5 (k6.e e3) z;rw [(m1.trans k1).out] at this;rw [hlenA];exact this
     · have hop:=m3 (k1.e (k4.e (k6.e e3)));obtain ⟨q,hq⟩:=Ik hy;have hq2:(T.map jA.e)[q]?=some y.e:=by rw [BR,hq];rfl
       rw [k2,BR] at hq2;cases hq3:x.d[q]? with
       | none=>rw [hq3] at hq2;cases hq2
       | some y0=>
         rw [hq3] at hq2;have:y0.e=y.e:=vK hq2;rw [<-this];have hm:=wC hq3;exact ⟨fun z=>hop z y0 hm,hsh.tops y0 hm⟩
   obtain ⟨v,hv3,h⟩:=bs h;by_cases e4:S4.e=0
   · obtain ⟨V4,n1,n2⟩:=hf _ _ _ _ _ hB (m6.wd hw8) hbo e4;rcases adX hE hf n1.wd hel hv3 with ⟨rfl,h8⟩|⟨i,z,S5,rfl,h8,hz⟩
     · replace h:=gi h;obtain ⟨⟨E,S5⟩,hE2,h⟩:=bs h;rw [pl] at h;cases h;obtain ⟨V5,n3,n4⟩:=hf _ _ _ _ _ hE2 n1.wd hel e;exact ⟨V5,fin n1 n2 n3 n4 fun z=>absurd z (h8 e4)⟩
     · cases h;obtain ⟨V5,n3,n4,n5⟩:=hz e;exact ⟨V5,fin n1 n2 n3 n4 fun _=>n5⟩
   · exfalso;unfold qD at hv3;have hg2:v=.go ():=by
       rcases jB hv3 with ⟨_,hv3⟩|⟨_,hv3⟩
       · rw [jR e4] at hv3;cases hv3;rfl
       · cases hv3;rfl
     subst hg2;replace h:=gi h;obtain ⟨⟨E,S5⟩,hE2,h⟩:=bs h;rw [pl] at h;cases h;exact e4 (hE _ _ _ _ hE2 e)
end
theorem FN:∀ fu:Nat,Eb (qQ fu)∧Xb (qQ fu)∧Xs (xO fu)
 | 0=>⟨fun _ _ _ _ h=>(by cases h),fun _ _ _ _ _ h=>(by cases h),fun _ _ _ _ _ h=>(by cases h)⟩
 | fu+1=>⟨Wl,WB (FN fu).2.2,Zv (FN fu).1 (FN fu).2.1⟩
theorem Ph {fu:Nat}{m:kW}{S0:fV}{V0:List jy}:∀ (l:List ByteArray)(k:Nat)(S:fV)(V:List jy)(b1:List Int)(b2:List kI)(b3 b4 b5:Int)(b6:List kW)(b7:List (List jy))(b8:List jZ),Wd S V→
  lV fu m l k S.b S.a.a.a S.f S.c S.e S.a.a.b S.a.c S.a.b=some (.go (b1,b2,b3,b4,b5,b6,b7,b8))->b5=0->
  ∃ V',Up S V ⟨⟨⟨b2,b6⟩,b7,b8⟩,b3,b1,b4,b5⟩ V'/\b8=S.a.b/\V'.length=V.length+l.length/\∀ (i:Nat)(v:jy),V.length<=i->V'[i]?=some v->v.c=1
 | [],_,S,V,_,_,_,_,_,_,_,_,hw,h,e=>by cases h;exact ⟨V,.rfl' hw e,rfl,rfl,fun i v h1 h2=>by have:=jU h2;omega⟩
 | u :: r,k,S,V,b1,b2,b3,b4,b5,b6,b7,b8,hw,h,e=>by
  rw [lV] at h;obtain ⟨⟨j,S1⟩,h1,h⟩:=bs h;rw [pl] at h;by_cases e1:S1.e=0
  · obtain ⟨k1,_,k3⟩:=GZ h1 hw (.inl ⟨rfl,rfl⟩) e1;obtain ⟨V',k4,k5,k6,k7⟩:=Ph (S0:=S0) (V0:=V0) r _ S1 _ b1 b2 b3 b4 b5 b6 b7 b8 k1.wd h e;refine ⟨V',k1.trans k4,k5.trans k3,by rw [k6,kM,tT];omega,fun i v hi hv=>?_⟩;by_cases hi2:i=V.length
    · subst hi2;obtain ⟨v',h2,a1,_⟩:=k4.vr V.length _ (by rw [H9 (oH _),Nat.sub_self];rfl);rw [hv] at h2;cases h2;exact a1
    · exact k7 i v (by rw [kM];omega) hv
  · exfalso;have hn:∀ (l:List ByteArray)(k:Nat)(S:fV) b1 b2 b3 b4 b5 b6 b7 b8,S.e≠0->lV fu m l k S.b S.a.a.a S.f S.c S.e S.a.a.b S.a.c S.a.b=some (.go (b1,b2,b3,b4,b5,b6,b7,b8))->b5≠0:=fun l=>by
      induction l with
      | nil=>intro k S b1 b2 b3 b4 b5 b6 b7 b8 h1 h2;cases h2;exact h1
      | cons y l ih=>
       intro k S b1 b2 b3 b4 b5 b6 b7 b8 h1 h2;rw [lV] at h2;obtain ⟨⟨j,S2⟩,h3,h2⟩:=bs h2;rw [pl] at h2;refine ih _ S2 _ _ _ _ _ _ _ _ (fun z=>?_) h2;unfold pE at h3;obtain ⟨⟨o,c⟩,_,h3⟩:=bs h3;rw [pl] at h3;obtain ⟨t,ht,h3⟩:=bs h3;rw [kg h1] at h3;cases h3;exact h1 z
    exact hn _ _ _ _ _ _ _ _ _ _ _ e1 h e
theorem Og {fu:Nat}{S:fV}{R:List kI}:∀ (l:List ByteArray)(k:Nat)(a a':List (List jy))(V:List jy),mM fu S l k a=some (.go a')→ix a S.f=some V→(∀ x ∈ V,VO R x)→
  ∃ V',ix a' S.f=some V'/\Vr V V'/\(∀ x ∈ V',VO R x)/\(∀ i:Nat,(i:Int)≠S.f->a'[i]?=a[i]?)/\a'.length=a.length
 | [],_,a,a',V,h,hV,ho=>by cases h;exact ⟨V,hV,.rfl',ho,fun _ _=>rfl,rfl⟩
 | e :: r,k,a,a',V,h,hV,ho=>by
  rw [mM] at h;obtain ⟨t,ht,h⟩:=bs h;rw [hV] at ht;cases ht;obtain ⟨b,hb,h⟩:=bs h;obtain ⟨V1,hV1,h⟩:=bs h;obtain ⟨vs,hvs,h⟩:=bs h;obtain ⟨q,hq,hql,rfl⟩:=wN hV1;rw [hq,xP] at hb;obtain ⟨p,hp,hpl,rfl⟩:=wN hvs;obtain ⟨V',h1,h2,h3,h4,h5⟩:=Og r _ _ a' _ h (by rw [hp,xP,EU hpl]) (fun x hx=>by
    rcases EO hx with hx | rfl
    · exact ho x hx
    · have:=ho b (wC hb);exact this)
  refine ⟨V',h1,Vr.trans (fun i x hx=>?_) h2,h3,fun i hi=>(h4 i hi).trans (by rw [DZ (by omega)]),h5.trans wV⟩;by_cases hik:i=q
  · subst hik;rw [hb] at hx;cases hx;exact ⟨_,EU hql,rfl,rfl,rfl,rfl⟩
  · exact ⟨x,by rw [DZ (by omega)];exact hx,rfl,rfl,rfl,rfl⟩
def FW (R:List kI)(K:List jZ)(V:List jy)(Ps:List Nat)(f:Int)(fn:kW):Prop:=(∀ x ∈ V,VO R x)/\(∃ a b,SW K V Ps f fn.e a b)/\(∀ i:Nat,i < fn.a.length->∃ v,V[i]?=some v/\v.c=1)/\∃ l e,fn.e=l ++ [e]/\e.c=10
theorem FW.mono {R:List kI}{K K':List jZ}{V:List jy}{Ps:List Nat}{f:Int}{fn:kW}(h:FW R K V Ps f fn)(hk:K <+: K'):FW R K' V Ps f fn:=by obtain ⟨h1,⟨a,b,h2⟩,h3⟩:=h;exact ⟨h1,⟨a,b,h2.mono hk .rfl'⟩,h3⟩
theorem PG {fu:Nat}{S S':fV}{x x':kW}(h:qb fu S x=some (x',S'))(hw:Wd S [])(hx:XO 5000 x)(e:S'.e=0):∃ V',Up S [] S' V'/\FW S.a.a.a S'.a.b V' (zB S.a.a.b) S.f x'/\x'.a=x.a:=by
 unfold qb at h;rcases jB h with ⟨_,h⟩|⟨_,h⟩
 · obtain ⟨q,hq,h⟩:=bs h;cases h;exact absurd e (wP (by decide) hq).2
 obtain ⟨v,hv,h⟩:=bs h;cases v with
 | out o=>exact (Jp _ _ _ _ _ _ _ _ _ _ _ hv).elim
 | go s=>
   obtain ⟨a1,a2,a3,a4,a5,a6,a7,a8⟩:=s;replace h:=gi h;simp only [pl] at h;rcases jB h with ⟨c,h⟩|⟨c,h⟩
   · have hw0:Wd ⟨S.a,S.f,[],S.c,S.e⟩ []:=⟨hw.v,hw.vo⟩;obtain ⟨V1,k1,k2,k3,k4⟩:=Ph (S0:=S) (V0:=[]) x.a 0 ⟨S.a,S.f,[],S.c,S.e⟩ [] _ _ _ _ _ _ _ _ hw0 hv c;obtain ⟨⟨t,S2⟩,ht,h⟩:=bs h;rw [pl] at h;obtain ⟨v,hv2,h⟩:=bs h;cases v with
     | out o=>exact (JH _ _ _ _ hv2).elim
     | go u=>
      replace h:=gi h;cases h;obtain ⟨V2,k5,k6⟩:=(FN fu).2.1 _ _ _ _ _ ht k1.wd (fun y hy=>⟨10,hx.el y hy⟩) e;have k7:=k1.trans k5;obtain ⟨V3,h1,h2,h3,h4,h5⟩:=Og (R:=S.a.a.a) _ _ _ _ V2 hv2 (by rw [k7.f];exact k7.v) k7.vo;have hf:S2.f=S.f:=k7.f;rw [hf] at h1 h4;have hp:(zB a6)=zB S.a.a.b:=by have:=congrArg jS.b k1.pg;dsimp only at this;rw [this]
      have hf3:a3=S.f:=k1.f;dsimp only at k6;rw [hp,hf3] at k6;refine ⟨V3,⟨k1.e,hf,k7.pg,k7.k,h1,fun i hi=>(h4 i hi).trans (k7.vs i hi),h5.trans k7.vl,k7.vr.trans h2,h3⟩,⟨h3,⟨_,_,k6.mono Dm h2⟩,fun i hi=>?_,?_⟩,rfl⟩
      · have hi:i < x.a.length:=hi;obtain ⟨v1,hv1⟩:=lZ (l:=V1) (k:=i) (by rw [k3,uR];omega);obtain ⟨v2,q1,b1,_⟩:=(k5.vr.trans h2) i v1 hv1;exact ⟨v2,q1,b1.trans (k4 i v1 (uy _) hv1)⟩
      · obtain ⟨l,en,hb,hk⟩:=hx.en;have hkk:=WO ht (XO.x hx) e;rw [hb] at hkk;obtain ⟨m,y,h1,h2⟩:=TF hkk;exact ⟨m,y,h1,h2.trans hk⟩
   · cases h;exact absurd e c
def YW (s:jL):Prop:=s.c.length=s.a.b.length/\(∀ (k:Nat)(fn:kW),s.a.b[k]?=some fn->∃ V,s.c[k]?=some V/\FW s.a.a s.b V (zB s.a.b) k fn)/\∀ u ∈ s.a.a,u.a.length<=4
theorem U0 {l:List kW}{k:Nat}{fn fn':kW}(h:l[k]?=some fn)(hp:fn'.a=fn.a):zB (l.set k fn')=zB l:=by unfold zB;rw [List.map_set];exact set_self (by rw [BR,h,hp];rfl)
theorem Ju {fu:Nat}{p:jS}(hp:Vp 5000 p):∀ (n i:Nat)(a:List kI)(b c d:Int)(e:List kW)(vs:List (List jy))(g:List jZ)(h:List Int)(j:Int)(a':List kI)(b' c' d':Int)(e':List kW)(vs':List (List jy))(g':List jZ)(h':List Int),
  e.length=p.b.length->vs.length=i->i<=p.b.length->(∀ (k:Nat)(fn:kW),k < i->e[k]?=some fn->∃ V,vs[k]?=some V/\FW a g V (zB e) k fn)->(∀ (k:Nat),i<=k->e[k]?=p.b[k]?)->(∀ u ∈ a,u.a.length<=4)->
  mW fu p n i a b c d e vs g h=some (.go (j,a',b',c',d',e',vs',g',h'))->d'=0->YW ⟨⟨a',e'⟩,vs',g'⟩
 | 0,_,_,_,_,_,_,_,_,_,_,_,_,_,_,_,_,_,_,_,_,_,_,_,_,h,_=>by cases h
 | n+1,i,a,b,c,d,e,vs,g,h,j,a',b',c',d',e',vs',g',h',h1,h2,h3,h4,h5,h6,hm,hd=>by
  have hlen:=hp.e;rw [mW] at hm;rcases jB hm with ⟨hi,hm⟩|⟨hi,hm⟩
  · rcases jB hm with ⟨he,hm⟩|⟨he,hm⟩
    · obtain ⟨r,hr,hm⟩:=bs hm;obtain ⟨_,rfl⟩:=qG hr;obtain ⟨fn,hfn,hm⟩:=bs hm;rw [xP] at hfn;obtain ⟨⟨fn',S'⟩,hF,hm⟩:=bs hm;rw [pl] at hm;obtain ⟨q,hq,hm⟩:=bs hm;obtain ⟨w,hw,hm⟩:=bs hm;rw [lM (by omega) (by omega)] at hm;have hwd:Wd ⟨⟨⟨a,e⟩,vs ++ [[]],g⟩,(i:Int),h,c,d⟩ []:=⟨by dsimp only;rw [xP,<-h2,List.getElem?_append_right (Nat.le_refl _),Nat.sub_self];rfl,fun x hx=>by cases hx⟩;by_cases e1:S'.e=0
      · obtain ⟨V',k1,k2,k3⟩:=PG hF hwd (hp.el fn (wC hfn)) e1;obtain ⟨q2,hq2,hql,rfl⟩:=wN hw;obtain rfl:i=q2:=by omega
        have hpg:S'.a.a=⟨a,e⟩:=k1.pg;have hPF:S'.a.a.b=e:=by rw [hpg]
        have hPR:S'.a.a.a=a:=by rw [hpg]
        have hei:e[i]?=some fn:=(h5 i (oH _)).trans hfn;have hps:zB (e.set i fn')=zB e:=U0 hei k3;have hvl:S'.a.c.length=i+1:=by rw [k1.vl];dsimp only;rw [kM,h2]
        rw [show ((i:Int)+1)=((i+1:Nat):Int) from by omega] at hm;refine Ju hp n (i+1) _ _ _ _ _ _ _ _ j a' b' c' d' e' vs' g' h' (by rw [wV,hPF];exact h1) hvl (by omega) (fun k fk hk hfk=>?_) (fun k hk=>?_) (by rw [hPR];exact h6) hm hd
        · rw [hPF] at hfk;rw [hPR,hPF,hps];by_cases hki:k=i
          · subst hki;rw [EU (by rw [h1];omega)] at hfk;cases hfk;have:=k1.v;dsimp only at this;rw [xP] at this;exact ⟨V',this,k2⟩
          · rw [DZ (by omega)] at hfk;obtain ⟨V,hV,hW⟩:=h4 k fk (by omega) hfk;have:=k1.vs k (by dsimp only;omega);dsimp only at this;exact ⟨V,by rw [this,GI (jU hV)];exact hV,hW.mono k1.k⟩
        · rw [hPF,DZ (by omega)];exact h5 k (by omega)
      · exfalso;cases n with
        | zero=>cases hm
        | succ n=>
          rw [mW] at hm;rcases jB hm with ⟨_,hm⟩|⟨_,hm⟩
          · rw [jR e1] at hm;cases hm;exact e1 hd
          · cases hm;exact e1 hd
    · cases hm;exact absurd hd he
  · cases hm;have hi2:i=p.b.length:=by omega
    refine ⟨by dsimp only;omega,fun k fn hk=>?_,h6⟩;have:=jU hk;exact h4 k fn (by dsimp only at this;omega) hk
theorem Rs {fu:Nat}{p:jS}{o:jL × Int × Int}:∀ (n:Nat)(i:Int)(a:List kI)(b c d:Int)(e:List kW)(vs:List (List jy))(g:List jZ)(h:List Int),mW fu p n i a b c d e vs g h=some (.out o)→False
 | 0,_,_,_,_,_,_,_,_,_,h=>by cases h
 | n+1,_,_,_,_,_,_,_,_,_,h=>by
  rw [mW] at h;rcases jB h with ⟨_,h⟩|⟨_,h⟩
  · rcases jB h with ⟨_,h⟩|⟨_,h⟩
    · obtain ⟨_,_,h⟩:=bs h;obtain ⟨_,_,h⟩:=bs h;obtain ⟨⟨_,_⟩,_,h⟩:=bs h;rw [pl] at h;obtain ⟨_,_,h⟩:=bs h;obtain ⟨_,_,h⟩:=bs h;exact Rs n _ _ _ _ _ _ _ _ _ h
    · cases h
  · cases h
theorem Qi {fu:Nat}{p:jS}:∀ (n:Nat){i:Int}{a:List kI}{b c d:Int}{e:List kW}{vs:List (List jy)}{g:List jZ}{h:List Int}{r:Int × List kI × Int × Int × Int × List kW × List (List jy) × List jZ × List Int},
  mW fu p n i a b c d e vs g h=some (.go r)->r.2.2.2.2.1=0->d=0
 | 0,_,_,_,_,_,_,_,_,_,_,h,_=>by cases h
 | n+1,_,_,_,_,_,_,_,_,_,_,h,z=>by
  rw [mW] at h;rcases jB h with ⟨_,h⟩|⟨_,h⟩
  · rcases jB h with ⟨c,h⟩|⟨_,h⟩
    · exact c
    · cases h;exact z
  · cases h;exact z
theorem RQ {fu:Nat}{p:jS}(hf:5002<=fu)(hp:Vp 5000 p){s:jL}{ln:Int}(h:sU fu p=some (s,ln,0)):YW s:=by
 unfold sU at h;obtain ⟨r,hr,h⟩:=bs h;obtain ⟨_,rfl⟩:=qG hr;obtain ⟨S,hS,h⟩:=bs h;have hs:=(Rj hf (S:=⟨⟨⟨p.a,[] ++ p.b⟩,[],[]⟩,0,[],0,0⟩) hp.recs hp.fields hp.e).of' hS;obtain ⟨v,hv,h⟩:=bs h;cases v with
 | out o=>exact (Rs _ _ _ _ _ _ _ _ _ _ hv).elim
 | go r=>
  have he:=Qi fu hv;obtain ⟨j,a',b',c',d',e',vs',g',h'⟩:=r;replace h:=gi h;simp only [pl] at h;have ho:=hs.out;rcases jB h with ⟨c,h⟩|⟨c,h⟩
  · cases h;exact absurd rfl c
  · cases h;have h4:=WZ hf hp.recs hp.fields hp.e hS (he (Decidable.not_not.1 c));rw [ho] at hv;exact Ju hp fu 0 _ _ _ _ _ _ _ _ _ _ _ _ _ _ _ _ _ rfl rfl (uy _) (fun k fn hk=>by omega) (fun k _=>rfl) h4 hv (Decidable.not_not.1 c)
theorem VA {fu:Nat}{p:jS}(hf:5002<=fu)(hp:Vp 5000 p){s:jL}{ln:Int}(h:sU fu p=some (s,ln,0)):∀ V ∈ s.c,∀ v ∈ V,0<=v.a/\v.a<=8:=by
 have hw:=RQ hf hp h;have h4:=hw.2.2;intro V hV v hv;obtain ⟨k,hk⟩:=Ik hV;obtain ⟨fn,hfn⟩:=lZ (l:=s.a.b) (k:=k) (by rw [<-hw.1];exact jU hk);obtain ⟨V',h1,h2,_⟩:=hw.2.1 k fn hfn;rw [hk] at h1;cases h1;rcases h2 v hv with ⟨_,h⟩|⟨_,r,hr,h⟩|⟨_,h,h'⟩
 · omega
 · have:=h4 r (by obtain ⟨q,_,hq⟩:=kN hr;exact wC hq);omega
 · omega
structure vV where
 b:Nat
 A:Option Addr
 c:Nat
 R:List Nat
def Gw (w:World):List Nat→List (List Int)→Prop
 | [],[]=>True
 | r :: R,l :: m=>nS w r 3 (l.map V).toArray/\Gw w R m
 | _,_=>False
def F8:List Nat→List (List Int)→List Value
 | r :: R,l :: m=>.slice (some ⟨r,0,none⟩) l.length l.length :: F8 R m
 | _,_=>[]
theorem Gw.len {w:World}:∀ {R:List Nat}{m:List (List Int)},Gw w R m→R.length=m.length
 | [],[],_=>rfl
 | _ :: _,_ :: _,h=>congrArg (·+1) (Gw.len h.2)
 | [],_ :: _,h=>h.elim
 | _ :: _,[],h=>h.elim
theorem Gw.get {w:World}:∀ {R:List Nat}{m:List (List Int)}{k:Nat}{l:List Int},Gw w R m→m[k]?=some l→∃ r,R[k]?=some r∧nS w r 3 (l.map V).toArray
 | r :: _,_ :: _,0,l,h,hx=>by simp only [EW,DT] at hx;subst hx;exact ⟨r,rfl,h.1⟩
 | _ :: _,_ :: _,k+1,l,h,hx=>Gw.get (k:=k) h.2 (by simpa using hx)
 | [],[],_,_,_,hx=>by simp at hx
 | [],_ :: _,_,_,h,_=>h.elim
 | _ :: _,[],_,_,h,_=>h.elim
theorem Gw.mem {w:World}:∀ {R:List Nat}{m:List (List Int)}{r:Nat},Gw w R m→r ∈ R→r < w.heap.size
 | _ :: _,_ :: _,r,h,hr=>by
  rcases qK.1 hr with rfl | hr
  · exact h.1.lt
  · exact Gw.mem h.2 hr
 | [],[],_,_,hr=>by cases hr
 | [],_ :: _,_,h,_=>h.elim
 | _ :: _,[],_,h,_=>h.elim
theorem Gw.st {w w':World}:∀ {R:List Nat}{m:List (List Int)},Gw w R m→(∀ b ∈ R,w'.heap[b]?=w.heap[b]?)→Gw w' R m
 | _ :: _,_ :: _,h,k=>⟨by have:=h.1;unfold nS at this ⊢;rw [k _ (Bn ..)];exact this,Gw.st h.2 fun b hb=>k b (wI _ hb)⟩
 | [],[],_,_=>trivial
 | [],_ :: _,h,_=>h.elim
 | _ :: _,[],h,_=>h.elim
theorem FL:∀ {R:List Nat}{m:List (List Int)}{k r:Nat}{l:List Int},R[k]?=some r→m[k]?=some l→(F8 R m)[k]?=some (.slice (some ⟨r,0,none⟩) l.length l.length)
 | _ :: _,_ :: _,0,_,_,h,k=>by simp only [EW,DT] at h k;subst h k;rfl
 | _ :: _,_ :: _,k+1,_,_,h,hk=>FL (k:=k) (by simpa using h) (by simpa using hk)
 | [],_,_,_,_,h,_=>by simp at h
 | _,[],_,_,_,_,h=>by simp at h
def It.vY (T:TypeId)(x:vV)(g:qx):It where
 F k:=k=x.b\/rowOf x.A=some k\/k ∈ x.R
 p w:=nS w x.b T #[V g.f,V g.st,.slice x.A g.ws.length x.c]/\Gw w x.R g.ws/\Go.Fw.Own w 0 22 1 x.A g.ws.length x.c (F8 x.R g.ws)/\x.b ∉ x.R/\rowOf x.A≠some x.b/\(∀ r ∈ x.R,rowOf x.A≠some r)/\x.R.Nodup/\∀ l ∈ g.ws,l.length<=8
 bd w h k hk:=by
  obtain ⟨h1,h2,h3,_⟩:=h;rcases hk with rfl | hk | hk
  · exact h1.lt
  · exact (h3.row k hk).2
  · exact h2.mem hk
 st w w' h k hs:=by obtain ⟨h1,h2,h3,h4⟩:=h;refine ⟨?_,h2.st fun b hb=>k b (.inr (.inr hb)),Go.Fw.Own.same h3 fun b hb=>k b (.inr (.inl hb)),h4⟩;unfold nS at h1 ⊢;rw [k _ (.inl rfl)];exact h1
abbrev It.act:=It.vY 95
section
variable {w:World}{x:vV}{g:qx}{k:Nat}{l:List Int}{T:TypeId}
theorem It.o9 (h:(It.vY T x g).p w):nS w x.b T #[V g.f,V g.st,.slice x.A g.ws.length x.c]:=h.1
theorem D5 {w:World}{base:Nat}{e:TypeId}{n c k:Nat}{A:Option Addr}{xs:List Value}{v:Value}(h:Go.Fw.Own w base e 1 A n c xs)(hv:xs[k]?=some v):A=some ⟨nE A,ow A,none⟩/\w.cell? ⟨nE A,ow A+k,none⟩=some v/\ow A=0:=by
 rcases h.blk with ⟨_,_,_,h4⟩|⟨q,cur,h1,_,h3,_,_,_,h7⟩
 · subst h4;simp at hv
 · subst h1;refine ⟨rfl,?_,rfl⟩;show w.cell? ⟨q,0+k,none⟩=_;rw [Bh];refine h3.cell ?_;have:cur.toList[k]?=some v:=by rw [<-h7,List.getElem?_take] at hv;split at hv;exact hv;cases hv
   simpa using this
theorem It.tO (h:(It.vY T x g).p w)(hk:g.ws[k]?=some l):∃ r,x.R[k]?=some r/\nS w r 3 (l.map V).toArray/\x.A=some ⟨nE x.A,ow x.A,none⟩/\w.cell? ⟨nE x.A,ow x.A+k,none⟩=some (.slice (some ⟨r,0,none⟩) l.length l.length):=by obtain ⟨r,h1,h2⟩:=h.2.1.get hk;have h3:=D5 h.2.2.1 (FL h1 hk);exact ⟨r,h1,h2,h3.1,h3.2.1⟩
end
set_option maxRecDepth 4000
set_option maxHeartbeats 12800000
theorem WA:∃ D,prog.underlying 70=some D/\(match D with | .interface _=>false | _=>true)=true:=⟨_,underlying70,rfl⟩
theorem Tw:∃ D,prog.underlying 71=some D/\(match D with | .interface _=>false | _=>true)=true:=⟨_,underlying71,rfl⟩
def Pb {α:Type}:Pn α→List PanicEntry→Prop
 | .ok _,_=>False
 | .uP v,c=>Pch (.iface 70 (V v)) c
 | .err e,c=>Pch (.iface 71 (V e)) c
 | .rt,c=>∃ u,Pch (.iface prog.rt.boundsError u) c
theorem Ov:jH prog 95:=⟨_,func95,by kernel_rfl,by kernel_rfl⟩
theorem Sd {op x y:Int}{w:World}:Calls prog 96 #[V op,V x,V y] w (RP (fun v w'=>∃ n,CR op x y=.ok n/\v=V n/\w'=w) (fun c w'=>Pb (CR op x y) c/\w'=w)):=by
 refine xZ func96 rfl ?_;refine lG [(0,V op),(1,V x),(2,V y)] ⟨rfl,rfl,rfl,trivial⟩ fun av=>?_;refine go ?_;unfold CR;refine ou rfl (fun h=>?_) (fun h=>?_)
 · refine go ?_;exact kH (jC rfl (kL rfl) ⟨_,by rw [kg h],rfl,rfl⟩)
 rw [jR h];refine go ?_;refine ou rfl (fun h=>?_) (fun h=>?_)
 · refine go ?_;exact kH (jC rfl (kL rfl) ⟨_,by rw [kg h],rfl,rfl⟩)
 rw [jR h];refine go ?_;refine ou rfl (fun h=>?_) (fun h=>?_)
 · refine go ?_;exact kH (jC rfl (kL rfl) ⟨_,by rw [kg h],rfl,rfl⟩)
 rw [jR h];refine go ?_;refine qR (fun f w'=>w'=w/\Has f [(0,V op),(1,V x),(2,V y),(7,V op),(23,.bool (decide (op=9\/op=10)))]) (fun J hJ=>?_) ?_
 · refine ou rfl (fun h=>?_) (fun h=>?_)
   · refine go ?_;exact hJ _ _ ⟨rfl,rfl,rfl,rfl,rfl,congrArg Value.bool (decide_eq_decide.2 ⟨.inl,fun _=>h⟩),trivial⟩
   · refine go ?_;exact hJ _ _ ⟨rfl,rfl,rfl,rfl,rfl,congrArg Value.bool (decide_eq_decide.2 ⟨.inr,fun z=>z.resolve_left h⟩),trivial⟩
 rintro f w1 ⟨rfl,hf⟩;obtain ⟨av,rfl⟩:=mJ _ _ hf;clear hf;refine go ?_;refine ou rfl (fun hd=>?_) (fun hd=>?_)
 · refine go ?_;refine ou rfl (fun hy=>?_) (fun hy=>?_)
   · refine go ?_;refine kr (MS WA rfl) ?_;refine Cq rfl ?_;refine ⟨?_,rfl⟩;rcases hd with hd | hd
     · rw [kg hd,kg hy];exact zo _
     · rw [jR (by omega),kg hd,kg hy];exact zo _
   refine go ?_;refine ou rfl (fun h=>?_) (fun h=>?_)
   · refine go ?_;refine kr (UH rfl rfl hy) ?_;refine go ?_;exact kH (jC rfl (kL rfl) ⟨_,by rw [kg h,jR hy],rfl,rfl⟩)
   refine go ?_;refine kr (QY rfl rfl hy) ?_;refine go ?_;exact kH (jC rfl (kL rfl) ⟨_,by rw [jR h,kg (hd.resolve_left h),jR hy],rfl,rfl⟩)
 rw [jR fun z=>hd (.inl z),jR fun z=>hd (.inr z)];refine go ?_;refine ou rfl (fun h=>?_) (fun h=>?_)
 · refine go ?_;exact kH (jC rfl (kL rfl) ⟨_,by rw [kg h],rfl,rfl⟩)
 rw [jR h];refine go ?_;refine ou rfl (fun h=>?_) (fun h=>?_)
 · refine go ?_;exact kH (jC rfl (kL rfl) ⟨_,by rw [kg h],rfl,rfl⟩)
 rw [jR h];refine go ?_;refine ou rfl (fun h=>?_) (fun h=>?_)
 · refine go ?_;exact kH (jC rfl (kL rfl) ⟨_,by rw [kg h],rfl,rfl⟩)
 rw [jR h];refine go ?_;refine ou rfl (fun h=>?_) (fun h=>?_)
 · refine go ?_;refine pW (l6 Ov rfl) DV ?_;rintro _ w2 ⟨rfl,rfl⟩;refine go ?_;exact kH (jC rfl (kL rfl) ⟨_,by rw [kg h],rfl,rfl⟩)
 rw [jR h];refine go ?_;refine ou rfl (fun h=>?_) (fun h=>?_)
 · refine go ?_;refine pW (l6 Ov rfl) DV ?_;rintro _ w2 ⟨rfl,rfl⟩;refine go ?_;exact kH (jC rfl (kL rfl) ⟨_,by rw [kg h],rfl,rfl⟩)
 rw [jR h];refine go ?_;refine ou rfl (fun h=>?_) (fun h=>?_)
 · refine go ?_;refine pW (l6 Ov rfl) DV ?_;rintro _ w2 ⟨rfl,rfl⟩;refine go ?_;exact kH (jC rfl (kL rfl) ⟨_,by rw [kg h],rfl,rfl⟩)
 rw [jR h];refine go ?_;refine ou rfl (fun h=>?_) (fun h=>?_)
 · refine go ?_;refine pW (l6 Ov rfl) DV ?_;rintro _ w2 ⟨rfl,rfl⟩;refine go ?_;exact kH (jC rfl (kL rfl) ⟨_,by rw [kg h],rfl,rfl⟩)
 rw [jR h];refine go ?_;refine kr (MS Tw rfl) ?_;exact Cq rfl ⟨zo _,rfl⟩
end Go.Proofs.YtfglbdkfnphjgaaGreat
