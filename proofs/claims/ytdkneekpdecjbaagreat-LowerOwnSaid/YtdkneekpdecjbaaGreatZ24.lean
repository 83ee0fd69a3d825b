/- What the checker of the specification finds out: statements, functions, sources. -/
import Derived.Test.YtdkneekpdecjbaaGreatZ23
import Derived.Test.YtdkneekpdecjbaaGreatLc
set_option linter.unusedVariables false
set_option linter.unusedSimpArgs false
namespace Go.Proofs.YtdkneekpdecjbaaGreat
open Go.RowKit Go.Fw Go.Proofs.Tryz
def CG (l:List kT):List Nat:=l.map fun f=>f.a.length
theorem zq {α:Type}{l:List α}{k:Nat}:ix l (k:Int)=l[k]?:=by unfold Go.Fw.ix;rw [lW (by omega),Ii]
theorem Vr.snoc {V:List iA}{v:iA}:Vr V (V ++ [v]):=fun i x h=>⟨x,by rw [Em (kN h)];exact h,rfl,rfl,rfl,rfl⟩
theorem Zz {S:fV}{V V':List iA}{vs:List (List iA)}(h:Wd S V)(hs:st S.a.c S.f V'=some vs):ix vs S.f=some V'/\(∀ i:Nat,(i:Int)≠S.f->vs[i]?=S.a.c[i]?)/\vs.length=S.a.c.length:=by obtain ⟨k,hk,hl,rfl⟩:=wL hs;rw [hk];refine ⟨by rw [zq,Dw hl],fun i hi=>?_,yK⟩;rw [Cz (by omega)]
theorem Ik {fu:Nat}{S S':fV}{ln j:Int}{v:iA}{V:List iA}(h:oL fu S ln v=some (j,S'))(hw:Wd S V)(hv:VO S.a.a.a v)(e:S'.e=0):Up S V S' (V ++ [v])/\j=(V.length:Int)/\S'.a.b=S.a.b:=by
 unfold oL at h;obtain ⟨⟨o,c⟩,_,h⟩:=bs h;rw [pl] at h;obtain ⟨t,ht,h⟩:=bs h;rw [hw.v] at ht;cases ht;rcases jO h with ⟨c1,h⟩|⟨c1,h⟩
 · cases h;exact absurd e c1
 rcases jO h with ⟨c2,h⟩|⟨c2,h⟩
 · obtain ⟨d,hd,h⟩:=bs h;cases h;exact absurd e (wM (by decide) hd).2
 rcases jO h with ⟨c3,h⟩|⟨c3,h⟩
 · obtain ⟨d,hd,h⟩:=bs h;cases h;exact absurd e (wM (by decide) hd).2
 obtain ⟨i,hi,h⟩:=bs h;obtain ⟨_,rfl⟩:=wm hi;obtain ⟨op,_,h⟩:=bs h;obtain ⟨vs,hvs,h⟩:=bs h;cases h;obtain ⟨k1,k2,k3⟩:=Zz hw hvs;exact ⟨⟨Decidable.not_not.1 c1,rfl,rfl,O5,k1,k2,k3,.snoc,oF hw.vo hv⟩,rfl,rfl⟩
theorem Va {fu:Nat}{S S':fV}{x x':jA}(h:qQ fu S x=some (S',x')):Mj S S'/\∃ c,x'=⟨x.b,x.g,x.n,x.c,x.j,x.m,x.f,x.e,x.k,c,x.a,x.d,x.h⟩/\(S'.e=0->ix (CG S.a.a.b) c=some x.a.length):=by
 unfold qQ at h;rcases jO h with ⟨c1,h⟩|⟨_,h⟩
 · cases h;exact ⟨.rfl',x.i,by cases x;rfl,fun z=>absurd z c1⟩
 · obtain ⟨⟨b,d⟩,_,h⟩:=bs h;rw [pl] at h;rcases jO h with ⟨_,h⟩|⟨_,h⟩
   · obtain ⟨q,hq,h⟩:=bs h;cases h;have k:=wM (by decide) hq;exact ⟨k.1,b,rfl,fun z=>absurd z k.2⟩
   · obtain ⟨fn,hfn,h⟩:=bs h;rcases jO h with ⟨_,h⟩|⟨c2,h⟩
     · obtain ⟨q,hq,h⟩:=bs h;cases h;have k:=wM (by decide) hq;exact ⟨k.1,b,rfl,fun z=>absurd z k.2⟩
     · cases h;refine ⟨.rfl',b,rfl,fun _=>?_⟩;obtain ⟨k,rfl,hk⟩:=kW hfn;rw [zq];unfold CG;rw [Bn,hk];exact congrArg some (by dsimp only;omega)
section
variable {fu:Nat}{f:fV->List jA->Option (List jA × fV)}{g:fV->jA->Option (jA × fV)}
def Xb (f:fV->List jA->Option (List jA × fV)):Prop:=∀ S l l' S' V,f S l=some (l',S')->Wd S V->(∀ y ∈ l,∃ n,Fe 5000 n y)->S'.e=0->∃ V',Up S V S' V'/\SW S'.a.b V' (CG S.a.a.b) S.f l' S.a.b.length S'.a.b.length
def Eb (f:fV->List jA->Option (List jA × fV)):Prop:=∀ S l l' S',f S l=some (l',S')->S'.e=0->S.e=0
def Xs (g:fV->jA->Option (jA × fV)):Prop:=∀ S x x' S' V,g S x=some (x',S')->Wd S V->(∃ n,Fe 5000 n x)->S'.e=0->∃ V',Up S V S' V'/\SW S'.a.b V' (CG S.a.a.b) S.f [x'] S.a.b.length S'.a.b.length
abbrev inS (S:fV)(r8:List jU):fV:=⟨⟨S.a.a,S.a.c,r8⟩,S.f,S.b,S.c,S.e⟩
theorem ac8 {S:fV}{x:jA}{r8:List jU}{v:Ld (Int × Int × Int) (jA × fV)}(h8:x.m<=8)(h:qZ fu f g S x r8=some v) :(∃ k c n,v=.go (k,c,n)/\∀ nm p a b,VO S.a.a.a ⟨nm,k,c,n,p,a,b⟩)\/∃ y S',v=.out (y,S')/\S'.e≠0:=by
 unfold qZ at h;rcases jO h with ⟨c,h⟩|⟨_,h⟩
 · cases h;exact .inl ⟨_,_,_,rfl,fun _ _ _ _=>.inr (.inr ⟨rfl,c,h8⟩)⟩
 · rcases jO h with ⟨_,h⟩|⟨_,h⟩
   · obtain ⟨⟨c,d⟩,_,h⟩:=bs h;rw [pl] at h;rcases jO h with ⟨_,h⟩|⟨_,h⟩
     · obtain ⟨q,hq,h⟩:=bs h;cases h;exact .inr ⟨_,_,rfl,(wM (by decide) hq).2⟩
     · obtain ⟨r,hr,h⟩:=bs h;cases h;exact .inl ⟨_,_,_,rfl,fun _ _ _ _=>.inr (.inl ⟨rfl,r,hr,rfl⟩)⟩
   · cases h;exact .inl ⟨_,_,_,rfl,fun _ _ _ _=>.inl ⟨rfl,rfl⟩⟩
theorem abe {S:fV}{x:jA}{r8:List jU}{x':jA}{S':fV}{V:List iA}(h8:x.m<=8)(h:oN fu f g S x r8=some (.out (x',S')))(hw:Wd (inS S r8) V)(e:S'.e=0) :x.b=1/\∃ V' v,Up (inS S r8) V S' V'/\x'=⟨x.b,x.g,(S.a.b.length:Int),x.c,x.j,x.m,v,x.e,x.k,x.i,x.a,x.d,x.h⟩/\S'.a.b=r8/\∃ q,ix V' v=some q:=by
 unfold oN at h;rcases jO h with ⟨hk,h⟩|⟨_,h⟩
 · obtain ⟨v,hv,h⟩:=bs h;rcases ac8 h8 hv with ⟨k,c,n,rfl,hvo⟩|⟨y,S2,rfl,h2⟩
   · replace h:=gi h;simp only [pl] at h;obtain ⟨⟨j,k⟩,hd,h⟩:=bs h;rw [pl] at h;cases h;obtain ⟨k1,rfl,k3⟩:=Ik hd hw (hvo _ _ _ _) e;exact ⟨hk,_,_,k1,rfl,k3,_,by rw [zq,Gw (ng _),Nat.sub_self];rfl⟩
   · cases h;exact absurd e h2
 · rcases jO h with ⟨_,h⟩|⟨_,h⟩
   · rcases jO h with ⟨_,h⟩|⟨_,h⟩
     · obtain ⟨_,_,h⟩:=bs h;rcases jO h with ⟨_,h⟩|⟨_,h⟩
       · obtain ⟨_,_,h⟩:=bs h;cases h
       · cases h
     · cases h
   · cases h
theorem ab1 {S:fV}{x:jA}{r8:List jU}{a1:List kg}{a2 a3 a4:Int}{a5:List kT}{a6:List (List iA)}{a7:List jU}{a8:List Int}(h1:x.e.length<=1)(h8:x.m<=8)(h:oN fu f g S x r8=some (.go (a1,a2,a3,a4,a5,a6,a7,a8))):Mj (inS S r8) ⟨⟨⟨a1,a5⟩,a6,a7⟩,a2,a8,a3,a4⟩/\x.b≠1/\(a4=0->x.b=3->∀ y ∈ x.e,y.e=1):=by
 unfold oN at h;rcases jO h with ⟨hk,h⟩|⟨hk,h⟩
 · obtain ⟨v,hv,h⟩:=bs h;rcases ac8 h8 hv with ⟨k,c,n,rfl,hvo⟩|⟨y,S2,rfl,h2⟩
   · replace h:=gi h;simp only [pl] at h;obtain ⟨⟨j,k⟩,hd,h⟩:=bs h;rw [pl] at h;cases h
   · cases h
 · rcases jO h with ⟨hk3,h⟩|⟨hk3,h⟩
   · rcases jO h with ⟨ht,h⟩|⟨ht,h⟩
     · obtain ⟨t,ht2,h⟩:=bs h;rcases jO h with ⟨_,h⟩|⟨hop,h⟩
       · obtain ⟨q,hq,h⟩:=bs h;cases h;have k:=wM (by decide) hq;exact ⟨k.1,hk,fun z=>absurd z k.2⟩
       · cases h;refine ⟨.rfl',hk,fun _ _ y hy=>?_⟩;obtain ⟨i,hi⟩:=QV hy;have:=kN hi;obtain rfl:i=0:=by omega
         rw [show (0:Int)=((0:Nat):Int) from rfl,zq,hi] at ht2;cases ht2;exact Decidable.not_not.1 hop
     · cases h;exact ⟨.rfl',hk,fun _ _ y hy=>by
         have:=List.length_pos_of_mem hy;omega⟩
   · cases h;exact ⟨.rfl',hk,fun _ z=>absurd z hk3⟩
theorem ae1 {v:Int}{S:fV}{V:List iA}{A:List (List iA)}(hw:Wd S V)(h:qU fu f g v S=some (.go A))(e:S.e=0):∃ V',Up S V ⟨⟨S.a.a,A,S.a.b⟩,S.f,S.b,S.c,S.e⟩ V':=by
 unfold qU at h;rcases jO h with ⟨_,h⟩|⟨c,h⟩
 · obtain ⟨t,ht,h⟩:=bs h;rw [hw.v] at ht;cases ht;obtain ⟨b,hb,h⟩:=bs h;obtain ⟨V',hV',h⟩:=bs h;obtain ⟨vs,hvs,h⟩:=bs h;cases h;obtain ⟨k,rfl,hkl,rfl⟩:=wL hV';rw [zq] at hb;obtain ⟨k1,k2,k3⟩:=Zz hw hvs;refine ⟨_,e,rfl,rfl,O5,k1,k2,k3,fun i x hx=>?_,fun x hx=>?_⟩
   · by_cases hik:i=k
     · subst hik;rw [hb] at hx;cases hx;exact ⟨_,Dw hkl,rfl,rfl,rfl,rfl⟩
     · exact ⟨x,by rw [Cz (by omega)];exact hx,rfl,rfl,rfl,rfl⟩
   · rcases GX hx with hx | rfl
     · exact hw.vo x hx
     · have:=hw.vo b (xu hb);exact this
 · exact absurd e c
theorem Es:∀ (l:List jA)(k:Nat)(out:List jA)(a1:List kg)(a2 a3 a4:Int)(a5:List kT)(a6:List (List iA))(a7:List jU)(a8:List Int)(v:Ld (List jA × List kg × Int × Int × Int × List kT × List (List iA) × List jU × List Int) (List jA × fV)),
  a4≠0->lJ fu f g l k out a1 a2 a3 a4 a5 a6 a7 a8=some v->v=.go (out,a1,a2,a3,a4,a5,a6,a7,a8)
 | [],_,_,_,_,_,_,_,_,_,_,v,_,h=>by cases h;rfl
 | u :: r,_,_,_,_,_,_,_,_,_,_,v,he,h=>by rw [lJ,lX he] at h;cases h;rfl
theorem Kz (hg:Xs g){S0:fV}{V0:List iA}:∀ (l:List jA)(k:Nat)(out:List jA)(S:fV)(V:List iA)(o:List jA)(a1:List kg)(a2 a3 a4:Int)(a5:List kT)(a6:List (List iA))(a7:List jU)(a8:List Int),
  Up S0 V0 S V->SW S.a.b V (CG S0.a.a.b) S0.f out S0.a.b.length S.a.b.length->(∀ y ∈ l,∃ n,Fe 5000 n y)->
  lJ fu f g l k out S.a.a.a S.f S.c S.e S.a.a.b S.a.c S.a.b S.b=some (.go (o,a1,a2,a3,a4,a5,a6,a7,a8))->a4=0->
  ∃ V',Up S0 V0 ⟨⟨⟨a1,a5⟩,a6,a7⟩,a2,a8,a3,a4⟩ V'/\SW a7 V' (CG S0.a.a.b) S0.f o S0.a.b.length a7.length
 | [],_,out,S,V,_,_,_,_,_,_,_,_,_,hU,hW,_,h,e=>by cases h;exact ⟨V,hU,hW⟩
 | u :: r,k,out,S,V,o,a1,a2,a3,a4,a5,a6,a7,a8,hU,hW,hl,h,e=>by
  rw [lJ] at h;rcases jO h with ⟨c,h⟩|⟨_,h⟩
  · cases h;exact absurd e c
  obtain ⟨⟨x,S1⟩,h1,h⟩:=bs h;rw [pl] at h;obtain ⟨w,hw,h⟩:=bs h;obtain ⟨_,rfl⟩:=wm hw;by_cases he:S1.e=0
  · obtain ⟨V1,k1,k2⟩:=hg _ _ _ _ V h1 hU.wd (hl u (.head _)) he;rw [hU.pg,hU.f] at k2;exact Kz hg r _ _ S1 V1 o a1 a2 a3 a4 a5 a6 a7 a8 (hU.trans k1) ((hW.mono k1.k k1.vr).app k2) (fun y hy=>hl y (.tail _ hy)) h e
  · have:=Es _ _ _ _ _ _ _ _ _ _ _ _ he h;cases this;exact absurd e he
theorem KH {c:Int}{d:List jU}{R:List kg}:∀ (l:List Int)(k:Nat)(a a':List (List iA))(V:List iA),nS fu f g c d l k a=some (.go a')→ix a c=some V→(∀ x ∈ V,VO R x)→
  ∃ V',ix a' c=some V'/\Vr V V'/\(∀ x ∈ V',VO R x)/\(∀ i:Nat,(i:Int)≠c->a'[i]?=a[i]?)/\a'.length=a.length
 | [],_,a,a',V,h,hV,ho=>by cases h;exact ⟨V,hV,.rfl',ho,fun _ _=>rfl,rfl⟩
 | e :: r,k,a,a',V,h,hV,ho=>by
  rw [nS] at h;obtain ⟨t,ht,h⟩:=bs h;rw [hV] at ht;cases ht;obtain ⟨b,hb,h⟩:=bs h;obtain ⟨V1,hV1,h⟩:=bs h;obtain ⟨vs,hvs,h⟩:=bs h;obtain ⟨q,rfl,hql,rfl⟩:=wL hV1;rw [zq] at hb;obtain ⟨p,rfl,hpl,rfl⟩:=wL hvs;obtain ⟨V',h1,h2,h3,h4,h5⟩:=KH r _ _ a' _ h (by rw [zq,Dw hpl]) (fun x hx=>by
    rcases GX hx with hx | rfl
    · exact ho x hx
    · have:=ho b (xu hb);exact this)
  refine ⟨V',h1,Vr.trans (fun i x hx=>?_) h2,h3,fun i hi=>(h4 i hi).trans (by rw [Cz (by omega)]),h5.trans yK⟩;by_cases hik:i=q
  · subst hik;rw [hb] at hx;cases hx;exact ⟨_,Dw hql,rfl,rfl,rfl,rfl⟩
  · exact ⟨x,by rw [Cz (by omega)];exact hx,rfl,rfl,rfl,rfl⟩
theorem Ev:∀ (l:List jA){k:Nat}{out:List jA}{a1:List kg}{a2 a3 a4:Int}{a5:List kT}{a6:List (List iA)}{a7:List jU}{a8:List Int}{o:List jA × fV},lJ fu f g l k out a1 a2 a3 a4 a5 a6 a7 a8=some (.out o)→False
 | [],_,_,_,_,_,_,_,_,_,_,_,h=>by cases h
 | u :: r,_,_,_,_,_,_,_,_,_,_,_,h=>by
  rw [lJ] at h;rcases jO h with ⟨c,h⟩|⟨_,h⟩
  · cases h
  obtain ⟨⟨x,S1⟩,h1,h⟩:=bs h;rw [pl] at h;obtain ⟨w,hw,h⟩:=bs h;exact Ev r h
theorem XI (hg:Xs g):Xb (oH fu f g):=by
 intro S l l' S' V h hw hl e;unfold oH at h;obtain ⟨v,hv,h⟩:=bs h;cases v with
 | out o=>
  have hd:=Ev l hv;exact hd.elim
 | go r=>
 obtain ⟨o,a1,a2,a3,a4,a5,a6,a7,a8⟩:=r;replace h:=gi h;simp only [pl] at h;obtain ⟨_,_,h⟩:=bs h;obtain ⟨v2,hv2,h⟩:=bs h;cases v2 with
 | out q=>exact (BS _ _ _ _ hv2).elim
 | go q=>
  replace h:=gi h;obtain ⟨_,_,h⟩:=bs h;obtain ⟨_,_,h⟩:=bs h;cases h;by_cases hS:S.e=0
  · obtain ⟨V1,k1,k2⟩:=Kz hg l 0 [] S V _ _ _ _ _ _ _ _ _ (.rfl' hw hS) .nil hl hv e;have hf:a2=S.f:=k1.f;obtain ⟨V2,h1,h2,h3,h4,h5⟩:=KH (R:=S.a.a.a) _ _ _ _ V1 hv2 (by rw [hf];exact k1.v) k1.vo;refine ⟨V2,⟨hS,hf,k1.pg,k1.k,by rw [<-hf];exact h1,fun i hi=>(h4 i (by rw [hf];exact hi)).trans (k1.vs i hi),h5.trans k1.vl,k1.vr.trans h2,h3⟩,k2.mono O5 h2⟩
  · have:=Es _ _ _ _ _ _ _ _ _ _ _ _ hS hv;cases this;exact absurd e hS
theorem X5:Eb (oH fu f g):=by
 intro S l l' S' h e;unfold oH at h;obtain ⟨v,hv,h⟩:=bs h;cases v with
 | out o=>exact (Ev l hv).elim
 | go r=>
 obtain ⟨o,a1,a2,a3,a4,a5,a6,a7,a8⟩:=r;replace h:=gi h;simp only [pl] at h;obtain ⟨_,_,h⟩:=bs h;obtain ⟨v2,hv2,h⟩:=bs h;cases v2 with
 | out q=>exact (BS _ _ _ _ hv2).elim
 | go q=>
  replace h:=gi h;obtain ⟨_,_,h⟩:=bs h;obtain ⟨_,_,h⟩:=bs h;cases h;refine Classical.byContradiction fun hS=>?_;have:=Es _ _ _ _ _ _ _ _ _ _ _ _ hS hv;cases this;exact hS e
theorem ae2 (hE:Eb f)(hf:Xb f){h' c j:Int}{d k:ByteArray}{l:Int}{m:List jB}{p:ByteArray}{t:Int}{u:List jA}{v:List jB}{w:List jA}{S:fV}{V:List iA}(hw:Wd S V)(hl:∀ y ∈ u,∃ n,Fe 5000 n y){r:Ld Unit (jA × fV)}(h:qh fu f g h' c j d k l m p t u v w S=some r) :(r=.go ()/\(S.e=0->h'≠8))\/∃ i z S',r=.out (⟨h',c,j,d,k,l,i,m,p,t,v,w,z⟩,S')/\h'=8/\(S'.e=0->∃ V',Up S V S' V'/\SW S'.a.b V' (CG S.a.a.b) S.f z S.a.b.length S'.a.b.length/\∃ q,ix V' i=some q/\q.b=1/\q.f=(S.a.b.length:Int)):=by
 unfold qh at h;rcases jO h with ⟨h8,h⟩|⟨h8,h⟩
 · rcases jO h with ⟨he,h⟩|⟨he,h⟩
   · obtain ⟨B,_,h⟩:=bs h;obtain ⟨⟨i,S1⟩,hd,h⟩:=bs h;rw [pl] at h;obtain ⟨⟨z,S2⟩,hz,h⟩:=bs h;rw [pl] at h;obtain ⟨q,hq,h⟩:=bs h;cases q with
     | out o=>exact (adM hq).elim
     | go A=>
      replace h:=gi h;cases h;refine .inr ⟨_,_,_,rfl,h8,fun e=>?_⟩;have e2:S2.e=0:=e;by_cases e1:S1.e=0
      · obtain ⟨k1,rfl,k3⟩:=Ik hd hw (.inl ⟨rfl,rfl⟩) e1;obtain ⟨V2,k4,k5⟩:=hf _ _ _ _ _ hz k1.wd hl e2;obtain ⟨V3,k6⟩:=ae1 k4.wd hq e2;have k7:Up S V ⟨⟨S2.a.a,A,S2.a.b⟩,S2.f,B,S2.c,S2.e⟩ V3:=by have:=(k1.trans k4).trans k6;exact ⟨this.e,this.f,this.pg,this.k,this.v,this.vs,this.vl,this.vr,this.vo⟩
        rw [k1.pg,k1.f,k3] at k5;refine ⟨V3,k7,k5.mono O5 k6.vr,?_⟩;obtain ⟨q',hq',a1,a2,a3,a4⟩:=Tn (k4.vr.trans k6.vr) (i:=(V.length:Int)) (v:=⟨d,1,-1,1,false,(S.a.b.length:Int),0⟩) (by rw [zq,Gw (ng _),Nat.sub_self];rfl);exact ⟨q',hq',a1,a4⟩
      · exact absurd (hE _ _ _ _ hz e2) e1
   · cases h;exact .inl ⟨rfl,fun z=>absurd z he⟩
 · cases h;exact .inl ⟨rfl,fun _=>h8⟩
theorem aeW {z:fV}{x:jA}{T:List jB}{S:fV}{V:List iA}(hw:Wd S V){v:Ld (List kg × Int × Int × Int × List kT × List (List iA) × List jU × List Int × Int × Int × Int × ByteArray × ByteArray × Int × Int × List jB × ByteArray × Int × List jB × List jA × List jA) (jA × fV)}(h:q8 fu f g z x T S=some v) :∃ S1 cl,v=.go (S1.a.a.a,S1.f,S1.c,S1.e,S1.a.a.b,S1.a.c,S1.a.b,S1.b,x.b,x.g,(z.a.b.length:Int),x.c,x.j,x.m,x.f,T,x.k,cl,x.a,x.d,x.h)/\Mj S S1/\(S1.e=0->x.k≠be->ix (CG S.a.a.b) cl=some x.a.length):=by
 unfold q8 at h;rcases jO h with ⟨_,h⟩|⟨c,h⟩
 · obtain ⟨⟨S1,a⟩,ha,h⟩:=bs h;rw [pl] at h;obtain ⟨k1,cc,rfl,k2⟩:=Va ha;cases h;exact ⟨S1,cc,rfl,k1,fun z _=>k2 z⟩
 · cases h;exact ⟨S,x.i,rfl,.rfl',fun _ z=>absurd (Decidable.not_not.1 c) z⟩
theorem ZN (hE:Eb f)(hf:Xb f):Xs (uj fu f g):=by
 intro S x x' S' V h hw ⟨n,hx⟩ e;cases n with
 | zero=>exact hx.elim
 | succ n=>
 obtain ⟨h1,h2,h3,h4,hsh⟩:=hx;have hbo:∀ y ∈ x.d,∃ n,Fe 5000 n y:=fun y hy=>⟨n,h3.2 y hy⟩;have hel:∀ y ∈ x.h,∃ n,Fe 5000 n y:=fun y hy=>⟨n,h4.2 y hy⟩;unfold uj at h;rcases jO h with ⟨_,h⟩|⟨_,h⟩
 · obtain ⟨q,hq,h⟩:=bs h;cases h;exact absurd e (wM (by decide) hq).2
 obtain ⟨r8,hr8,h⟩:=bs h;obtain ⟨_,rfl⟩:=wm hr8;have hw8:Wd (inS S (S.a.b ++ [⟨S.f,x.b,x.g⟩])) V:=⟨hw.v,hw.vo⟩;have hup:∀ {S2:fV}{V2:List iA},Up (inS S (S.a.b ++ [⟨S.f,x.b,x.g⟩])) V S2 V2->Up S V S2 V2:=fun k=>⟨k.e,k.f,k.pg,(List.prefix_append _ _).trans k.k,k.v,k.vs,k.vl,k.vr,k.vo⟩;have hk8:∀ {K:List jU},S.a.b ++ [⟨S.f,x.b,x.g⟩] <+: K->K[S.a.b.length]?=some ⟨S.f,x.b,x.g⟩:=fun hK=>by obtain ⟨t,rfl⟩:=hK;rw [H9,Gw (ng _),Nat.sub_self];rfl
 obtain ⟨v,hv,h⟩:=bs h;cases v with
 | out o=>
   cases h;obtain ⟨hk,V',q,k1,rfl,k2,q',hq'⟩:=abe hsh.len hv hw8 e;obtain ⟨t1,t2,t3,t4,t5⟩:=hsh.decl hk;refine ⟨V',hup k1,.cons rfl ?_ ?_ ?_ (fun _=>⟨q',hq'⟩) (fun z=>?_) (fun z=>?_) (fun y z=>?_) (c:=S.a.b.length+1) (d:=S.a.b.length+1) ?_ ?_ ?_⟩
   · rw [k2];exact hk8 O5
   · dsimp only;rw [t1];intro y hy;cases hy
   · dsimp only;rw [t2];intro y hy;cases hy
   · dsimp only at z;omega
   · dsimp only at z;exact absurd t5 z
   · dsimp only at z;rw [t1] at z;cases z
   · dsimp only;rw [t3];exact .nil
   · dsimp only;rw [t4];exact .nil
   · rw [k2,kV];exact .nil
 | go s=>
   obtain ⟨a1,a2,a3,a4,a5,a6,a7,a8⟩:=s;replace h:=gi h;simp only [pl] at h;obtain ⟨m1,m2,m3⟩:=ab1 h1.1 hsh.len hv;obtain ⟨⟨T,S1⟩,hT,h⟩:=bs h;rw [pl] at h;obtain ⟨k1,k2,k3⟩:=(Ol fu).2 _ _ _ _ _ V hT (m1.wd hw8);obtain ⟨v,hv2,h⟩:=bs h;obtain ⟨S2,cl,rfl,k4,k5⟩:=aeW ((m1.trans k1).wd hw8) hv2;replace h:=gi h;simp only [pl] at h;obtain ⟨⟨A,S3⟩,hA,h⟩:=bs h;rw [pl] at h;have m4:=(m1.trans k1).trans k4;obtain ⟨k6,k7,k8⟩:=(Ol fu).2 _ _ _ _ _ V hA (m4.wd hw8);have m6:=m4.trans k6;obtain ⟨⟨B,S4⟩,hB,h⟩:=bs h;rw [pl] at h;have hlenA:A.length=x.a.length:=by have:=congrArg List.length k7;rwa [Df,Df] at this
   have fin:∀ {V4 V5:List iA}{S5:fV}{Z:List jA}{i:Int},Up S3 V S4 V4→SW S4.a.b V4 (CG S3.a.a.b) S3.f B S3.a.b.length S4.a.b.length→Up S4 V4 S5 V5→SW S5.a.b V5 (CG S4.a.a.b) S4.f Z S4.a.b.length S5.a.b.length→(x.b=8→∃ q,ix V5 i=some q∧q.b=1∧q.f=(S4.a.b.length:Int))→
       Up S V S5 V5/\SW S5.a.b V5 (CG S.a.a.b) S.f [⟨x.b,x.g,(S.a.b.length:Int),x.c,x.j,x.m,i,T,x.k,cl,A,B,Z⟩] S.a.b.length S5.a.b.length:=fun {V4 V5 S5 Z i} n1 n2 n3 n4 n5=>by
     have e3:S3.e=0:=n1.e;have u3:Up S V S3 V:=hup (m6.up hw8 e3);have hst:S3.a.b=S.a.b ++ [⟨S.f,x.b,x.g⟩]:=by rw [m6.out]
     rw [u3.pg,u3.f,hst,kV] at n2;rw [n1.pg,n1.f,u3.pg,u3.f] at n4;have vr:=n1.vr.trans n3.vr;refine ⟨(u3.trans n1).trans n3,.cons rfl (hk8 ?_) (fun y hy=>(k3 (k4.e (k6.e e3)) y hy).mono vr) (fun y hy=>(k8 e3 y hy).mono vr) (fun z=>absurd z m2) n5 (fun z=>?_) (fun y hy=>?_) (n2.mono n3.k n3.vr) n4 .nil⟩
     · rw [<-hst];exact n1.k.trans n3.k
     · have:=k5 (k6.e e3) z;rw [(m1.trans k1).out] at this;rw [hlenA];exact this
     · have hop:=m3 (k1.e (k4.e (k6.e e3)));obtain ⟨q,hq⟩:=QV hy;have hq2:(T.map jB.e)[q]?=some y.e:=by rw [Bn,hq];rfl
       rw [k2,Bn] at hq2;cases hq3:x.e[q]? with
       | none=>rw [hq3] at hq2;cases hq2
       | some y0=>
         rw [hq3] at hq2;have:y0.e=y.e:=JY hq2;rw [<-this];have hm:=xu hq3;exact ⟨fun z=>hop z y0 hm,hsh.tops y0 hm⟩
   obtain ⟨v,hv3,h⟩:=bs h;by_cases e4:S4.e=0
   · obtain ⟨V4,n1,n2⟩:=hf _ _ _ _ _ hB (m6.wd hw8) hbo e4;rcases ae2 hE hf n1.wd hel hv3 with ⟨rfl,h8⟩|⟨i,z,S5,rfl,h8,hz⟩
     · replace h:=gi h;obtain ⟨⟨E,S5⟩,hE2,h⟩:=bs h;rw [pl] at h;cases h;obtain ⟨V5,n3,n4⟩:=hf _ _ _ _ _ hE2 n1.wd hel e;exact ⟨V5,fin n1 n2 n3 n4 fun z=>absurd z (h8 e4)⟩
     · cases h;obtain ⟨V5,n3,n4,n5⟩:=hz e;exact ⟨V5,fin n1 n2 n3 n4 fun _=>n5⟩
   · exfalso;unfold qh at hv3;have hg2:v=.go ():=by
       rcases jO hv3 with ⟨_,hv3⟩|⟨_,hv3⟩
       · rw [lW e4] at hv3;cases hv3;rfl
       · cases hv3;rfl
     subst hg2;replace h:=gi h;obtain ⟨⟨E,S5⟩,hE2,h⟩:=bs h;rw [pl] at h;cases h;exact e4 (hE _ _ _ _ hE2 e)
end
theorem Hy:∀ fu:Nat,Eb (qx fu)∧Xb (qx fu)∧Xs (xG fu)
 | 0=>⟨fun _ _ _ _ h=>(by cases h),fun _ _ _ _ _ h=>(by cases h),fun _ _ _ _ _ h=>(by cases h)⟩
 | fu+1=>⟨X5,XI (Hy fu).2.2,ZN (Hy fu).1 (Hy fu).2.1⟩
theorem OW {fu:Nat}{m:kT}{S0:fV}{V0:List iA}:∀ (l:List ByteArray)(k:Nat)(S:fV)(V:List iA)(b1:List Int)(b2:List kg)(b3 b4 b5:Int)(b6:List kT)(b7:List (List iA))(b8:List jU),Wd S V→
  lN fu m l k S.b S.a.a.a S.f S.c S.e S.a.a.b S.a.c S.a.b=some (.go (b1,b2,b3,b4,b5,b6,b7,b8))->b5=0->
  ∃ V',Up S V ⟨⟨⟨b2,b6⟩,b7,b8⟩,b3,b1,b4,b5⟩ V'/\b8=S.a.b/\V'.length=V.length+l.length/\∀ (i:Nat)(v:iA),V.length<=i->V'[i]?=some v->v.b=1
 | [],_,S,V,_,_,_,_,_,_,_,_,hw,h,e=>by cases h;exact ⟨V,.rfl' hw e,rfl,rfl,fun i v h1 h2=>by have:=kN h2;omega⟩
 | u :: r,k,S,V,b1,b2,b3,b4,b5,b6,b7,b8,hw,h,e=>by
  rw [lN] at h;obtain ⟨⟨j,S1⟩,h1,h⟩:=bs h;rw [pl] at h;by_cases e1:S1.e=0
  · obtain ⟨k1,_,k3⟩:=Ik h1 hw (.inl ⟨rfl,rfl⟩) e1;obtain ⟨V',k4,k5,k6,k7⟩:=OW (S0:=S0) (V0:=V0) r _ S1 _ b1 b2 b3 b4 b5 b6 b7 b8 k1.wd h e;refine ⟨V',k1.trans k4,k5.trans k3,by rw [k6,kV,uX];omega,fun i v hi hv=>?_⟩;by_cases hi2:i=V.length
    · subst hi2;obtain ⟨v',h2,a1,_⟩:=k4.vr V.length _ (by rw [Gw (ng _),Nat.sub_self];rfl);rw [hv] at h2;cases h2;exact a1
    · exact k7 i v (by rw [kV];omega) hv
  · exfalso;have hn:∀ (l:List ByteArray)(k:Nat)(S:fV) b1 b2 b3 b4 b5 b6 b7 b8,S.e≠0->lN fu m l k S.b S.a.a.a S.f S.c S.e S.a.a.b S.a.c S.a.b=some (.go (b1,b2,b3,b4,b5,b6,b7,b8))->b5≠0:=fun l=>by
      induction l with
      | nil=>intro k S b1 b2 b3 b4 b5 b6 b7 b8 h1 h2;cases h2;exact h1
      | cons y l ih=>
       intro k S b1 b2 b3 b4 b5 b6 b7 b8 h1 h2;rw [lN] at h2;obtain ⟨⟨j,S2⟩,h3,h2⟩:=bs h2;rw [pl] at h2;refine ih _ S2 _ _ _ _ _ _ _ _ (fun z=>?_) h2;unfold oL at h3;obtain ⟨⟨o,c⟩,_,h3⟩:=bs h3;rw [pl] at h3;obtain ⟨t,ht,h3⟩:=bs h3;rw [lX h1] at h3;cases h3;exact h1 z
    exact hn _ _ _ _ _ _ _ _ _ _ _ e1 h e
theorem Pq {fu:Nat}{S:fV}{R:List kg}:∀ (l:List ByteArray)(k:Nat)(a a':List (List iA))(V:List iA),mG fu S l k a=some (.go a')→ix a S.f=some V→(∀ x ∈ V,VO R x)→
  ∃ V',ix a' S.f=some V'/\Vr V V'/\(∀ x ∈ V',VO R x)/\(∀ i:Nat,(i:Int)≠S.f->a'[i]?=a[i]?)/\a'.length=a.length
 | [],_,a,a',V,h,hV,ho=>by cases h;exact ⟨V,hV,.rfl',ho,fun _ _=>rfl,rfl⟩
 | e :: r,k,a,a',V,h,hV,ho=>by
  rw [mG] at h;obtain ⟨t,ht,h⟩:=bs h;rw [hV] at ht;cases ht;obtain ⟨b,hb,h⟩:=bs h;obtain ⟨V1,hV1,h⟩:=bs h;obtain ⟨vs,hvs,h⟩:=bs h;obtain ⟨q,hq,hql,rfl⟩:=wL hV1;rw [hq,zq] at hb;obtain ⟨p,hp,hpl,rfl⟩:=wL hvs;obtain ⟨V',h1,h2,h3,h4,h5⟩:=Pq r _ _ a' _ h (by rw [hp,zq,Dw hpl]) (fun x hx=>by
    rcases GX hx with hx | rfl
    · exact ho x hx
    · have:=ho b (xu hb);exact this)
  refine ⟨V',h1,Vr.trans (fun i x hx=>?_) h2,h3,fun i hi=>(h4 i hi).trans (by rw [Cz (by omega)]),h5.trans yK⟩;by_cases hik:i=q
  · subst hik;rw [hb] at hx;cases hx;exact ⟨_,Dw hql,rfl,rfl,rfl,rfl⟩
  · exact ⟨x,by rw [Cz (by omega)];exact hx,rfl,rfl,rfl,rfl⟩
def FW (R:List kg)(K:List jU)(V:List iA)(Ps:List Nat)(f:Int)(fn:kT)(a b:Nat):Prop:=(∀ x ∈ V,VO R x)/\SW K V Ps f fn.d a b/\(∀ i:Nat,i < fn.a.length->∃ v,V[i]?=some v/\v.b=1)/\∃ l e,fn.d=l ++ [e]/\e.b=10
theorem FW.mono {R:List kg}{K K':List jU}{V:List iA}{Ps:List Nat}{f:Int}{fn:kT}{a b:Nat}(h:FW R K V Ps f fn a b)(hk:K <+: K'):FW R K' V Ps f fn a b:=by obtain ⟨h1,h2,h3⟩:=h;exact ⟨h1,h2.mono hk .rfl',h3⟩
theorem RB {fu:Nat}{S S':fV}{x x':kT}(h:pI fu S x=some (x',S'))(hw:Wd S [])(hx:Zl 5000 x)(e:S'.e=0):∃ V',Up S [] S' V'/\FW S.a.a.a S'.a.b V' (CG S.a.a.b) S.f x' S.a.b.length S'.a.b.length/\x'.a=x.a:=by
 unfold pI at h;rcases jO h with ⟨_,h⟩|⟨_,h⟩
 · obtain ⟨q,hq,h⟩:=bs h;cases h;exact absurd e (wM (by decide) hq).2
 obtain ⟨v,hv,h⟩:=bs h;cases v with
 | out o=>exact (Ko _ _ _ _ _ _ _ _ _ _ _ hv).elim
 | go s=>
   obtain ⟨a1,a2,a3,a4,a5,a6,a7,a8⟩:=s;replace h:=gi h;simp only [pl] at h;rcases jO h with ⟨c,h⟩|⟨c,h⟩
   · have hw0:Wd ⟨S.a,S.f,[],S.c,S.e⟩ []:=⟨hw.v,hw.vo⟩;obtain ⟨V1,k1,k2,k3,k4⟩:=OW (S0:=S) (V0:=[]) x.a 0 ⟨S.a,S.f,[],S.c,S.e⟩ [] _ _ _ _ _ _ _ _ hw0 hv c;obtain ⟨⟨t,S2⟩,ht,h⟩:=bs h;rw [pl] at h;obtain ⟨v,hv2,h⟩:=bs h;cases v with
     | out o=>exact (JL _ _ _ _ hv2).elim
     | go u=>
      replace h:=gi h;cases h;obtain ⟨V2,k5,k6⟩:=(Hy fu).2.1 _ _ _ _ _ ht k1.wd (fun y hy=>⟨10,hx.el y hy⟩) e;have k7:=k1.trans k5;obtain ⟨V3,h1,h2,h3,h4,h5⟩:=Pq (R:=S.a.a.a) _ _ _ _ V2 hv2 (by rw [k7.f];exact k7.v) k7.vo;have hf:S2.f=S.f:=k7.f;rw [hf] at h1 h4;have hp:(CG a6)=CG S.a.a.b:=by have:=congrArg jT.b k1.pg;dsimp only at this;rw [this]
      have hf3:a3=S.f:=k1.f;dsimp only at k6;rw [hp,hf3] at k6;refine ⟨V3,⟨k1.e,hf,k7.pg,k7.k,h1,fun i hi=>(h4 i hi).trans (k7.vs i hi),h5.trans k7.vl,k7.vr.trans h2,h3⟩,⟨h3,by have q:=k6.mono O5 h2;rw [k2] at q;exact q,fun i hi=>?_,?_⟩,rfl⟩
      · have hi:i < x.a.length:=hi;obtain ⟨v1,hv1⟩:=mI (l:=V1) (k:=i) (by rw [k3,zh];omega);obtain ⟨v2,q1,b1,_⟩:=(k5.vr.trans h2) i v1 hv1;exact ⟨v2,q1,b1.trans (k4 i v1 (uW _) hv1)⟩
      · obtain ⟨l,en,hb,hk⟩:=hx.en;have hkk:=Yv ht (Zl.x hx) e;rw [hb] at hkk;obtain ⟨m,y,h1,h2⟩:=Xd hkk;exact ⟨m,y,h1,h2.trans hk⟩
   · cases h;exact absurd e c
def aay (s:jY):Prop:=s.c.length=s.a.b.length/\(∃ B:Nat->Nat,B 0=0/\B s.a.b.length=s.b.length/\∀ (k:Nat)(fn:kT),s.a.b[k]?=some fn->∃ V,s.c[k]?=some V/\FW s.a.a s.b V (CG s.a.b) k fn (B k) (B (k+1)))/\∀ u ∈ s.a.a,u.a.length<=4
theorem VA {l:List kT}{k:Nat}{fn fn':kT}(h:l[k]?=some fn)(hp:fn'.a=fn.a):CG (l.set k fn')=CG l:=by unfold CG;rw [List.map_set];exact set_self (by rw [Bn,h,hp];rfl)
theorem Kr {fu:Nat}{p:jT}(hp:XC 5000 p):∀ (n:Nat)(B:Nat->Nat)(i:Nat)(a:List kg)(b c d:Int)(e:List kT)(vs:List (List iA))(g:List jU)(h:List Int)(j:Int)(a':List kg)(b' c' d':Int)(e':List kT)(vs':List (List iA))(g':List jU)(h':List Int),
  B 0=0->B i=g.length->e.length=p.b.length->vs.length=i->i<=p.b.length->(∀ (k:Nat)(fn:kT),k < i->e[k]?=some fn->∃ V,vs[k]?=some V/\FW a g V (CG e) k fn (B k) (B (k+1)))->(∀ (k:Nat),i<=k->e[k]?=p.b[k]?)->(∀ u ∈ a,u.a.length<=4)->
  mQ fu p n i a b c d e vs g h=some (.go (j,a',b',c',d',e',vs',g',h'))->d'=0->aay ⟨⟨a',e'⟩,vs',g'⟩
 | 0,_,_,_,_,_,_,_,_,_,_,_,_,_,_,_,_,_,_,_,_,_,_,_,_,_,_,_,h,_=>by cases h
 | n+1,B,i,a,b,c,d,e,vs,g,h,j,a',b',c',d',e',vs',g',h',hB0,hBi,h1,h2,h3,h4,h5,h6,hm,hd=>by
  have hlen:=hp.e;rw [mQ] at hm;rcases jO hm with ⟨hi,hm⟩|⟨hi,hm⟩
  · rcases jO hm with ⟨he,hm⟩|⟨he,hm⟩
    · obtain ⟨r,hr,hm⟩:=bs hm;obtain ⟨_,rfl⟩:=wm hr;obtain ⟨fn,hfn,hm⟩:=bs hm;rw [zq] at hfn;obtain ⟨⟨fn',S'⟩,hF,hm⟩:=bs hm;rw [pl] at hm;obtain ⟨q,hq,hm⟩:=bs hm;obtain ⟨w,hw,hm⟩:=bs hm;rw [mg (by omega) (by omega)] at hm;have hwd:Wd ⟨⟨⟨a,e⟩,vs ++ [[]],g⟩,(i:Int),h,c,d⟩ []:=⟨by dsimp only;rw [zq,<-h2,List.getElem?_append_right (Nat.le_refl _),Nat.sub_self];rfl,fun x hx=>by cases hx⟩;by_cases e1:S'.e=0
      · obtain ⟨V',k1,k2,k3⟩:=RB hF hwd (hp.el fn (xu hfn)) e1;obtain ⟨q2,hq2,hql,rfl⟩:=wL hw;obtain rfl:i=q2:=by omega
        have hpg:S'.a.a=⟨a,e⟩:=k1.pg;have hPF:S'.a.a.b=e:=by rw [hpg]
        have hPR:S'.a.a.a=a:=by rw [hpg]
        have hei:e[i]?=some fn:=(h5 i (ng _)).trans hfn;have hps:CG (e.set i fn')=CG e:=VA hei k3;have hvl:S'.a.c.length=i+1:=by rw [k1.vl];dsimp only;rw [kV,h2]
        rw [show ((i:Int)+1)=((i+1:Nat):Int) from by omega] at hm;refine Kr hp n (fun k=>if k<=i then B k else S'.a.b.length) (i+1) _ _ _ _ _ _ _ _ j a' b' c' d' e' vs' g' h' (by rw [lX (uW _)];exact hB0) (by rw [lW (by omega)]) (by rw [yK,hPF];exact h1) hvl (by omega) (fun k fk hk hfk=>?_) (fun k hk=>?_) (by rw [hPR];exact h6) hm hd
        · rw [hPF] at hfk;rw [hPR,hPF,hps];by_cases hki:k=i
          · subst hki;rw [Dw (by rw [h1];omega)] at hfk;cases hfk;have:=k1.v;dsimp only at this;rw [zq] at this;refine ⟨V',this,?_⟩;rw [lX (ng _),lW (by omega),hBi];exact k2
          · rw [Cz (by omega)] at hfk;obtain ⟨V,hV,hW⟩:=h4 k fk (by omega) hfk;have:=k1.vs k (by dsimp only;omega);dsimp only at this;refine ⟨V,by rw [this,Em (kN hV)];exact hV,?_⟩;rw [lX (by omega),lX (by omega)];exact hW.mono k1.k
        · rw [hPF,Cz (by omega)];exact h5 k (by omega)
      · exfalso;cases n with
        | zero=>cases hm
        | succ n=>
          rw [mQ] at hm;rcases jO hm with ⟨_,hm⟩|⟨_,hm⟩
          · rw [lW e1] at hm;cases hm;exact e1 hd
          · cases hm;exact e1 hd
    · cases hm;exact absurd hd he
  · cases hm;have hi2:i=p.b.length:=by omega
    refine ⟨by dsimp only;omega,⟨B,hB0,by dsimp only;rw [h1,<-hi2];exact hBi,fun k fn hk=>?_⟩,h6⟩;have:=kN hk;exact h4 k fn (by dsimp only at this;omega) hk
theorem Tz {fu:Nat}{p:jT}{o:jY × Int × Int}:∀ (n:Nat)(i:Int)(a:List kg)(b c d:Int)(e:List kT)(vs:List (List iA))(g:List jU)(h:List Int),mQ fu p n i a b c d e vs g h=some (.out o)→False
 | 0,_,_,_,_,_,_,_,_,_,h=>by cases h
 | n+1,_,_,_,_,_,_,_,_,_,h=>by
  rw [mQ] at h;rcases jO h with ⟨_,h⟩|⟨_,h⟩
  · rcases jO h with ⟨_,h⟩|⟨_,h⟩
    · obtain ⟨_,_,h⟩:=bs h;obtain ⟨_,_,h⟩:=bs h;obtain ⟨⟨_,_⟩,_,h⟩:=bs h;rw [pl] at h;obtain ⟨_,_,h⟩:=bs h;obtain ⟨_,_,h⟩:=bs h;exact Tz n _ _ _ _ _ _ _ _ _ h
    · cases h
  · cases h
theorem Rl {fu:Nat}{p:jT}:∀ (n:Nat){i:Int}{a:List kg}{b c d:Int}{e:List kT}{vs:List (List iA)}{g:List jU}{h:List Int}{r:Int × List kg × Int × Int × Int × List kT × List (List iA) × List jU × List Int},
  mQ fu p n i a b c d e vs g h=some (.go r)->r.2.2.2.2.1=0->d=0
 | 0,_,_,_,_,_,_,_,_,_,_,h,_=>by cases h
 | n+1,_,_,_,_,_,_,_,_,_,_,h,z=>by
  rw [mQ] at h;rcases jO h with ⟨_,h⟩|⟨_,h⟩
  · rcases jO h with ⟨c,h⟩|⟨_,h⟩
    · exact c
    · cases h;exact z
  · cases h;exact z
theorem Yg {fu:Nat}{p:jT}(hf:5002<=fu)(hp:XC 5000 p){s:jY}{ln:Int}(h:tQ fu p=some (s,ln,0)):aay s:=by
 unfold tQ at h;obtain ⟨r,hr,h⟩:=bs h;obtain ⟨_,rfl⟩:=wm hr;obtain ⟨S,hS,h⟩:=bs h;have hs:=(Sg hf (S:=⟨⟨⟨p.a,[] ++ p.b⟩,[],[]⟩,0,[],0,0⟩) hp.recs hp.fields hp.e).of' hS;obtain ⟨v,hv,h⟩:=bs h;cases v with
 | out o=>exact (Tz _ _ _ _ _ _ _ _ _ _ hv).elim
 | go r=>
  have he:=Rl fu hv;obtain ⟨j,a',b',c',d',e',vs',g',h'⟩:=r;replace h:=gi h;simp only [pl] at h;have ho:=hs.out;rcases jO h with ⟨c,h⟩|⟨c,h⟩
  · cases h;exact absurd rfl c
  · cases h;have h4:=X7 hf hp.recs hp.fields hp.e hS (he (Decidable.not_not.1 c));rw [ho] at hv;exact Kr hp fu (fun _=>0) 0 _ _ _ _ _ _ _ _ _ _ _ _ _ _ _ _ _ rfl rfl rfl rfl (uW _) (fun k fn hk=>by omega) (fun k _=>rfl) h4 hv (Decidable.not_not.1 c)
structure TQ (T:jN):Prop where
 lo:0<=T.a
 hi:T.a<=T.l.length
 len:T.l.length<=1000
def GE:Nat→jB→Prop
 | 0,_=>False
 | d+1,x=>(x.c.size<=4/\x.b.size<=4/\0<=x.d/\x.d<=999999999999999999)/\x.a.length<=2/\∀ y ∈ x.a,GE d y
theorem GE.mono:∀ {n m:Nat}{x:jB},GE n x→n≤m→GE m x
 | 0,_,_,h,_=>h.elim
 | n+1,0,_,h,k=>by omega
 | n+1,m+1,x,h,k=>⟨h.1,h.2.1,fun y hy=>GE.mono (h.2.2 y hy) (by omega)⟩
structure MP (M:lM):Prop where
 b:M.b.length=4/\∀ p ∈ M.b,0<=p/\p<=4
 f:0<=M.f/\M.f < M.e/\M.e<=4
 ns:(M.a.length:Int)+M.h<=40/\∀ n ∈ M.a,n.size<=4
 np:(M.d.length:Int)+M.h<=40/\∀ n ∈ M.d,n.size<=4
 na:(M.c.length:Int)+M.h<=40/\∀ n ∈ M.c,n.size<=4
 c:0<=M.g/\M.g+M.h<=22
 l:0<=M.h
theorem ado {fu:Nat}{n k:Int}(h1:1<=k)(h2:k<=1000000000):kP (Di fu n k) (fun v=>0<=v/\v < k):=by
 unfold Di;have e1:n.tmod k < k:=Int.tmod_lt_of_pos n (by omega);have e2:-k < n.tmod k:=by have h:=Int.natAbs_tmod n k;have h3:n.natAbs % k.natAbs < k.natAbs:=Nat.mod_lt _ (by omega);omega
 rw [lW (by omega)];refine .ite (fun c=>.mk ?_) fun c=>.mk ⟨by omega,e1⟩;rw [mg (by omega) (by omega)];omega
theorem qA {fu:Nat}{T:jN}{k:Int}(h:TQ T)(h1:1<=k)(h2:k<=1000):kP (kE fu T k) (fun r=>jy r fun v T'=>(0<=v/\v < k)/\TQ T'):=by have h3:=h.lo;have h4:=h.hi;have h5:=h.len;unfold kE;refine .ite (fun c=>.mk ⟨⟨vG _,by omega⟩,h⟩) fun c=>?_;rw [mg (n:=T.a+1) (by omega) (by omega),mg (n:=T.a+1 - 1) (by omega) (by omega)];refine .bd (.ix (by omega) (by omega)) fun e _=>.bd (ado h1 (by omega)) fun v hv=>.mk ⟨hv,⟨by dsimp only;omega,by dsimp only;omega,h5⟩⟩
theorem abK {fu:Nat}{T:jN}:kP (DL fu T) (fun _=>True):=.mk kI
theorem EH {α:Type}{fu:Nat}{T:jN}{l:List α}{β:Type}{f:α->jN->Option β}{P:β->Prop}(h:TQ T)(h1:1<=l.length)(h2:l.length<=1000)(k:∀ x T',x ∈ l->TQ T'->kP (f x T') P):kP ((kE fu T ((l.length:Nat):Int)).bind fun r=>jy r fun v T'=>(ix l v).bind fun x=>f x T') P:=
 .bp (qA h (by omega) (by omega)) fun v T' hv=>.bd (.ix hv.1.1 hv.1.2) fun x hx=>k x T' (xu hx) hv.2
theorem Vb {fu:Nat}{T:jN}(h:TQ T):kP (zf fu T) (fun r=>jy r fun v T'=>(0<=v/\v<=999999999999999999)/\TQ T'):=by unfold zf;refine EH h (by decide) (by decide) fun x T' hx hT=>.mk ⟨?_,hT⟩;revert x;decide
theorem EU {fu:Nat}{n:Int}(h:0<=n/\n<=999999999999999999):kP (sN fu n) (fun x=>GE 1 x):=.mk ⟨⟨uW _,uW _,h.1,h.2⟩,uW _,fun y hy=>(by cases hy)⟩
theorem xI {fu:Nat}{n:ByteArray}(h:n.size<=4):kP (oq fu n) (fun x=>GE 1 x):=.mk ⟨⟨h,uW _,(by decide:(0:Int)<=0),(by decide:(0:Int)<=999999999999999999)⟩,uW _,fun y hy=>(by cases hy)⟩
theorem JD:∀ (l:List Int)(r:ByteArray),(l.foldl (fun r n=>r.push (UInt8.ofNat n.toNat)) r).size=r.size+l.length
 | [],r=>rfl
 | x :: l,r=>by rw [List.foldl_cons,JD l,ByteArray.size_push,uX];omega
theorem WV {l:List Ie}:(bst l).size=l.length:=by unfold bst Go.Fw.strOf;rw [JD,Df];exact GA _
theorem Eu:∀ {d fu:Nat}{n:Int},0≤n→n < 10 ^ d→1≤d→d≤18→d≤fu→kP (sH fu n) (fun s=>s.size≤d)
 | 0,_,_,_,_,h,_,_=>by omega
 | d+1,0,_,_,_,_,_,h=>by omega
 | d+1,fu+1,n,h0,h1,_,h3,h4=>by
  show kP (yB fu (sH fu) n) _;unfold yB;rw [lW (by omega)];refine .ite (fun c=>.mk (by rw [WV];exact Nat.succ_le_succ (uW _))) fun c=>?_;have hd:1<=d:=by
   rcases d with _ | d
   · omega
   · omega
  have e1:n.tdiv 10=n / 10:=Int.tdiv_eq_ediv_of_nonneg h0;have e2:n.tmod 10=n % 10:=Int.tmod_eq_emod_of_nonneg h0;have e3:n / 10 < 10 ^ d:=by rw [Int.pow_succ] at h1;omega
  have e4:(10:Int) ^ d<=10 ^ 17:=by
   have h5:(10:Nat) ^ d<=10 ^ 17:=Nat.pow_le_pow_right (by decide) (by omega)
   exact_mod_cast h5
  rw [e1,e2,mg (by omega) (by omega)];refine .bd (Eu (d:=d) (by omega) e3 hd (by omega) (by omega)) fun s hs=>?_;refine .bd (Eu (d:=1) (by omega) (by omega) (by omega) (by omega) (by omega)) fun t ht=>?_;refine .bd (.cat (by omega)) fun r hr=>.mk ?_;rw [hr,Eo];omega
theorem Oe {fu:Nat}{M:lM}{T:jN}(hf:3<=fu)(h0:0<=M.g)(h1:M.g<=30):kP (vB fu M T) (fun r=>jy r fun s M'=>s.size<=4/\M'=⟨M.f,M.e,M.b,M.a,M.d,M.c,M.g+1,M.h⟩):=by unfold vB;rw [mg (by omega) (by omega)];refine .bd (Eu (d:=2) (by omega) (by omega) (by omega) (by omega) (by omega)) fun s hs=>?_;refine .bd (.cat (by have:(⟨#[118]⟩:ByteArray).size=1:=rfl;omega)) fun r hr=>.mk ⟨?_,rfl⟩;have:(⟨#[118]⟩:ByteArray).size=1:=rfl;rw [hr,Eo];omega
def XP (d:Nat)(M:lM)(r:jB × lM × jN):Prop:=jy r fun x r=>jy r fun M' T'=>GE d x/\M'=M/\TQ T'
theorem GE.mk1 {d:Nat}{op:Int}{n f:ByteArray}{y:jB}(h1:n.size<=4)(h2:f.size<=4)(h:GE d y):GE (d+1) ⟨op,0,0,n,f,[y]⟩:=⟨⟨h1,h2,(by decide:(0:Int)<=0),(by decide:(0:Int)<=999999999999999999)⟩,(by decide:1<=2),fun z hz=>by
 simp only [qg,Cm,or_false] at hz;subst hz;exact h⟩
theorem GE.mk2 {d:Nat}{op:Int}{n f:ByteArray}{y y':jB}(h1:n.size<=4)(h2:f.size<=4)(h:GE d y)(h':GE d y'):GE (d+1) ⟨op,0,0,n,f,[y,y']⟩:=⟨⟨h1,h2,(by decide:(0:Int)<=0),(by decide:(0:Int)<=999999999999999999)⟩,(by decide:2<=2),fun z hz=>by
 simp only [qg,Cm,or_false] at hz;rcases hz with hz | hz <;> subst hz
 · exact h
 · exact h'⟩
theorem GE.mk0 {d:Nat}{op:Int}{n f:ByteArray}(h1:n.size<=4)(h2:f.size<=4):GE (d+1) ⟨op,0,0,n,f,[]⟩:=⟨⟨h1,h2,(by decide:(0:Int)<=0),(by decide:(0:Int)<=999999999999999999)⟩,(by decide:0<=2),fun z hz=>by cases hz⟩
theorem Nt:∀ x ∈ ([(⟨#[120]⟩:ByteArray),(⟨#[121]⟩:ByteArray)]:List ByteArray),x.size<=4:=by intro x hx;simp only [qg,Cm,or_false] at hx;rcases hx with rfl | rfl <;> decide
def aai (fu:Nat):Prop:=∀ (M:lM)(T:jN)(e:Nat),MP M->TQ T->e<=3->2 * e+3<=fu->kP (mH fu M T (3 - e)) (XP (e+1) M)
def aeV (fu:Nat):Prop:=∀ (M:lM)(T:jN)(e:Nat),MP M->TQ T->e<=2->2 * e+4<=fu->0 < M.c.length->kP (nG fu M T (3 - e)) (XP (e+2) M)
theorem aai.dn {fu:Nat}(h:aai fu){M:lM}{T:jN}{e:Nat}{x:Int}(h1:MP M)(h2:TQ T)(h3:e<=3)(h4:2 * e+3<=fu)(hx:x=3 - e):kP (mH fu M T x) (XP (e+1) M):=by subst hx;exact h M T e h1 h2 h3 h4
theorem RZ:∀ (fu:Nat),aai fu∧aeV fu
 | 0=>⟨fun _ _ _ _ _ _ h=>by omega,fun _ _ _ _ _ _ h=>by omega⟩
 | fu+1=>by
  have ih:=RZ fu;constructor
  · intro M T e hM hT he hf;show kP (BI fu (mH fu) (nG fu) M T _) _;unfold BI;have n1:=hM.ns;have n2:=hM.np;have n3:=hM.na;have hl:=hM.l;refine .bp (qA hT (by decide) (by decide)) fun k T1 h1=>?_;have hJ0:kP (z8 fu (mH fu) (nG fu) (3 - e) k) (pV (fun b=>b=false->1<=e) (fun _=>False)):=by unfold z8;exact .ite (fun c=>.go fun z=>(by cases z)) fun c=>.go fun _=>by omega
    refine .el hJ0 (fun b hb=>?_) fun _ z=>z.elim;refine .ite (fun _=>?_) fun hb0=>?_
    · exact .bp (Vb h1.2) fun v T2 h2=>.bd (EU h2.1) fun x hx=>.mk ⟨hx.mono (by omega),rfl,h2.2⟩
    have he1:1<=e:=hb (by simpa using hb0);have hJ1:kP (zT fu (mH fu) (nG fu) M k) (pV (fun b=>b=true->0 < M.a.length) (fun _=>False)):=by unfold zT;exact .ite (fun c=>.go fun z=>by have:=Ed z;omega) fun c=>.go fun z=>(by cases z)
    refine .el hJ1 (fun b hb=>?_) fun _ z=>z.elim;refine .ite (fun hb0=>?_) fun hb0=>?_
    · have:=hb hb0;exact EH h1.2 (by omega) (by omega) fun s T2 hs h2=>.bd (xI (n1.2 s hs)) fun x hx=>.mk ⟨hx.mono (by omega),rfl,h2⟩
    have hJ2:kP (zQ fu (mH fu) (nG fu) M k) (pV (fun b=>b=true->0 < M.d.length) (fun _=>False)):=by unfold zQ;exact .ite (fun c=>.go fun z=>by have:=Ed z;omega) fun c=>.go fun z=>(by cases z)
    refine .el hJ2 (fun b hb=>?_) fun _ z=>z.elim;refine .ite (fun hb0=>?_) fun hb0=>?_
    · have:=hb hb0;exact EH h1.2 (by omega) (by omega) fun s T2 hs h2=>.bp (qA h2 (by decide) (by decide)) fun v T3 h3=>.bd (.ix h3.1.1 h3.1.2) fun f hf=>.mk ⟨GE.mk0 (n2.2 s hs) (Nt f (xu hf)),rfl,h3.2⟩
    have hJ3:kP (zV fu (mH fu) (nG fu) M k) (pV (fun b=>b=true->0 < M.c.length) (fun _=>False)):=by unfold zV;exact .ite (fun c=>.go fun z=>by have:=Ed z;omega) fun c=>.go fun z=>(by cases z)
    refine .el hJ3 (fun b hb3=>?_) fun _ z=>z.elim;obtain ⟨e,rfl⟩:∃ e',e=e'+1:=⟨e - 1,by omega⟩;have hw:wr ((3:Int) - ((e+1:Nat):Int)+1)=3 - (e:Int):=by rw [mg (by omega) (by omega)];omega
    rw [hw];refine .ite (fun hb0=>?_) fun hb0=>?_
    · refine .bp (ih.2 M T1 e hM h1.2 (by omega) (by omega) (hb3 hb0)) fun x r hx=>.pp hx fun M' T' hx=>.mk ?_;exact hx
    refine .ite (fun _=>?_) fun _=>?_
    · refine .bp (qA h1.2 (by decide) (by decide)) fun v T2 h2=>.bp (ih.1 M T2 e hM h2.2 (by omega) (by omega)) fun x r hx=>.pp hx fun M' T' hx=>.mk ⟨?_,hx.2⟩;exact GE.mk1 (uW _) (uW _) hx.1
    · refine .bp (qA h1.2 (by decide) (by decide)) fun v T2 h2=>.bp (ih.1 M T2 e hM h2.2 (by omega) (by omega)) fun x r hx=>.pp hx fun M' T' hx=>?_;obtain ⟨hx1,rfl,hx3⟩:=hx;refine .bp (ih.1 M' T' e hM hx3 (by omega) (by omega)) fun y r hy=>.pp hy fun M2 T3 hy=>.mk ⟨?_,hy.2⟩;exact GE.mk2 (uW _) (uW _) hx1 hy.1
  · intro M T e hM hT he hf ha;show kP (wY fu (mH fu) (nG fu) M T _) _;unfold wY;have n3:=hM.na;have hl:=hM.l;refine EH hT (by omega) (by omega) fun s T1 hs h1=>.bp (qA h1 (by decide) (by decide)) fun v T2 h2=>?_;refine .ite (fun _=>?_) fun _=>?_
    · exact .bp (qA h2.2 (by decide) (by decide)) fun v3 T3 h3=>.bd (EU ⟨h3.1.1,by have:=h3.1.2;omega⟩) fun x hx=>.mk ⟨GE.mk1 (n3.2 s hs) (uW _) (hx.mono (by omega)),rfl,h3.2⟩
    · exact .bp (ih.1 M T2 e hM h2.2 (by omega) (by omega)) fun x r hx=>.pp hx fun M' T' hx=>.mk ⟨GE.mk1 (n3.2 s hs) (uW _) hx.1,hx.2⟩
theorem EJ {fu:Nat}(hf:9<=fu){M:lM}{T:jN}(hM:MP M)(hT:TQ T){d:Int}(h0:0<=d)(h3:d<=3):kP (mH fu M T d) (XP 4 M):=by have h:=(RZ fu).1 M T (3 - d.toNat) hM hT (by omega) (by omega);rw [show (3:Int) - ((3 - d.toNat:Nat):Int)=d from by omega] at h;exact h.imp fun v hv=>⟨hv.1.mono (by omega),hv.2⟩
theorem Ua {fu:Nat}(hf:8<=fu){M:lM}{T:jN}(hM:MP M)(hT:TQ T)(ha:0 < M.c.length):kP (nG fu M T 1) (XP 4 M):=(RZ fu).2 M T 2 hM hT (by decide) (by omega) ha
def GS:Nat→jA→Prop
 | 0,_=>False
 | k+1,x=>(x.c.size<=4/\x.j.size<=4/\x.k.size<=4/\0<=x.m/\x.m<=9)/\(x.e.length<=1/\∀ y ∈ x.e,GE 4 y)/\(x.a.length<=4/\∀ y ∈ x.a,GE 4 y)/\(x.d.length<=9/\∀ y ∈ x.d,GS k y)/\(x.h.length<=9/\∀ y ∈ x.h,GS k y)
theorem GS.mono:∀ {n m:Nat}{x:jA},GS n x→n≤m→GS m x
 | 0,_,_,h,_=>h.elim
 | n+1,0,_,h,k=>by omega
 | n+1,m+1,x,h,k=>⟨h.1,h.2.1,h.2.2.1,⟨h.2.2.2.1.1,fun y hy=>GS.mono (h.2.2.2.1.2 y hy) (by omega)⟩,⟨h.2.2.2.2.1,fun y hy=>GS.mono (h.2.2.2.2.2 y hy) (by omega)⟩⟩
theorem GS.mk {j:Nat}{kd ln id len vr ca:Int}{nm ty fn:ByteArray}{tg ar:List jB}{bo el:List jA}(h1:nm.size<=4)(h2:ty.size<=4)(h3:fn.size<=4)(h4:0<=len/\len<=9)(h5:tg.length<=1/\∀ y ∈ tg,GE 4 y)(h6:ar.length<=4/\∀ y ∈ ar,GE 4 y)(h7:bo.length<=9/\∀ y ∈ bo,GS j y)(h8:el.length<=9/\∀ y ∈ el,GS j y):GS (j+1) ⟨kd,ln,id,nm,ty,len,vr,tg,fn,ca,ar,bo,el⟩:=⟨⟨h1,h2,h3,h4.1,h4.2⟩,h5,h6,h7,h8⟩
theorem z9:(0:Int)<=0/\(0:Int)<=9:=by decide
theorem b0:be.size<=4:=uW _
theorem XU {α:Type}{p:α->Prop}{l:List α}{a b:Nat}(h:l.length<=a/\∀ y ∈ l,p y)(k:a<=b):l.length<=b/\∀ y ∈ l,p y:=⟨rT h.1 k,h.2⟩
structure Mr (M M':lM):Prop where
 f:M'.f=M.f
 fn:M'.e=M.e
 pr:M'.b=M.b
 s:M.a.length<=M'.a.length/\(M'.a.length:Int)+M'.h<=M.a.length+M.h
 p:M.d.length<=M'.d.length/\(M'.d.length:Int)+M'.h<=M.d.length+M.h
 a:M.c.length<=M'.c.length/\(M'.c.length:Int)+M'.h<=M.c.length+M.h
 c:M.g<=M'.g/\M'.g+M'.h<=M.g+M.h
 l:0<=M'.h
 n1:∀ n ∈ M'.a,n.size<=4
 n2:∀ n ∈ M'.d,n.size<=4
 n3:∀ n ∈ M'.c,n.size<=4
theorem Mr.mp {M M':lM}(k:Mr M M')(h:MP M):MP M':=by obtain ⟨a1,a2,a3,a4,a5,a6,a7,a8,a9,a10,a11⟩:=k;obtain ⟨c1,c2,c3,c4,c5,c6,c7⟩:=h;exact ⟨by rw [a3];exact c1,by rw [a1,a2];exact c2,⟨by omega,a9⟩,⟨by omega,a10⟩,⟨by omega,a11⟩,by omega,a8⟩
theorem Mr.rfl' {M:lM}(h:MP M):Mr M M:=⟨rfl,rfl,rfl,⟨ng _,vG _⟩,⟨ng _,vG _⟩,⟨ng _,vG _⟩,⟨vG _,vG _⟩,h.l,h.ns.2,h.np.2,h.na.2⟩
theorem Mr.trans {M M' M2:lM}(k:Mr M M')(j:Mr M' M2):Mr M M2:=by obtain ⟨a1,a2,a3,a4,a5,a6,a7,a8,a9,a10,a11⟩:=k;obtain ⟨c1,c2,c3,c4,c5,c6,c7,c8,c9,c10,c11⟩:=j;exact ⟨c1.trans a1,c2.trans a2,c3.trans a3,by omega,by omega,by omega,by omega,c8,c9,c10,c11⟩
def yg (M:lM):lM:=⟨M.f,M.e,M.b,M.a,M.d,M.c,M.g,M.h - 1⟩
theorem Mr.dn {M:lM}(h:MP M)(h1:0 < M.h):Mr M (yg M):=⟨rfl,rfl,rfl,⟨Nat.le_refl _,by dsimp only [yg];omega⟩,⟨Nat.le_refl _,by dsimp only [yg];omega⟩,⟨Nat.le_refl _,by dsimp only [yg];omega⟩,⟨Int.le_refl _,by dsimp only [yg];omega⟩,by dsimp only [yg];omega,h.ns.2,h.np.2,h.na.2⟩
def SP (b k:Nat)(M:lM)(r:List jA × lM × jN):Prop:=jy r fun l r=>jy r fun M' T'=>(l.length<=b/\∀ y ∈ l,GS k y)/\Mr M M'/\TQ T'
def SX (M:lM)(r:jA × lM × jN):Prop:=jy r fun x r=>jy r fun M' T'=>GS 1 x/\M'=M/\TQ T'
theorem M6:∀ x ∈ ([(⟨#[102]⟩:ByteArray),(⟨#[103]⟩:ByteArray),(⟨#[104]⟩:ByteArray),(⟨#[107]⟩:ByteArray)]:List ByteArray),x.size<=4:=by intro x hx;simp only [qg,Cm,or_false] at hx;rcases hx with rfl | rfl | rfl | rfl <;> decide
theorem Ms {fu:Nat}(hf:9≤fu){M:lM}(hM:MP M){k p:Int}(hk:0≤k)(hp:M.b[k.toNat]?=some p)(hp4:p≤4){O:Bool × lM × jN × jA→Prop}:∀ (n i:Nat)(T:jN)(out:List jB),TQ T→p+1≤n+i→(i:Int)≤4→(out.length=i∧∀ y ∈ out,GE 4 y)→1≤n→
  kP (uJ fu k n i M.f M.e M.b M.g M.h T.l T.a M.a M.d M.c out) (pV (fun r=>jy r fun _ r=>jy r fun f r=>jy r fun fn r=>jy r fun pr r=>jy r fun c r=>jy r fun l r=>jy r fun tl r=>jy r fun ta r=>jy r fun s r=>jy r fun p r=>jy r fun a o=>(⟨f,fn,pr,s,p,a,c,l⟩:lM)=M/\TQ ⟨tl,ta⟩/\o.length<=4/\∀ y ∈ o,GE 4 y) O)
 | 0,_,_,_,_,_,_,_,h=>by omega
 | n+1,i,T,out,hT,hn,hi,ho,_=>by
  rw [uJ];have hlt:=kN hp;refine .Xh (.ix hk (by omega)) fun e _ he=>?_;rw [hp] at he;cases he;refine .ite (fun c=>?_) fun _=>.go ⟨rfl,hT,by omega,ho.2⟩;refine .bp (EJ hf hM hT (by decide) (by decide)) fun x r hx=>.pp hx fun M' T' hx=>?_;obtain ⟨hx1,rfl,hx3⟩:=hx;refine .Xh (.app (by simp only [uX,zh];omega)) fun r _ hr=>?_;subst hr;refine .bd (.ix (by omega) (by rw [kV];omega)) fun _ _=>.bd (.st ⟨by omega,by rw [kV];omega⟩) fun r hr=>?_;rw [mg (by omega) (by omega)];refine Ms hf hM hk hp hp4 n (i+1) T' r hx3 (by omega) (by omega) ⟨by rw [hr,yK,kV,ho.1],fun y hy=>?_⟩ (by omega);rw [hr] at hy;rcases GX hy with hy | hy
  · exact oF ho.2 (GE.mk0 (uW _) (uW _)) y hy
  · rw [hy];exact hx1
theorem g_call {fu:Nat}(hf:9<=fu){M:lM}{T:jN}(hM:MP M)(hT:TQ T){x:jA}(hx:GS 1 x)(ha:x.a=[]):kP (zF fu M T x) (fun r=>jy r fun b r=>jy r fun M' r=>jy r fun T' x'=>M'=M/\TQ T'/\GS 1 x'):=by
 unfold zF;obtain ⟨f1,f2,f3⟩:=hM.f;have hJ:kP (zK fu M T x) (pV (fun r=>jy r fun k r=>jy r fun l a=>(0<=k/\k < 4)/\TQ ⟨l,a⟩) (fun r=>jy r fun b r=>jy r fun M' r=>jy r fun T' x'=>M'=M/\TQ T'/\GS 1 x')):=by
  unfold zK;rw [mg (n:=M.f+1) (by omega) (by omega)];refine .ite (fun c=>?_) fun c=>?_
  · rw [mg (by omega) (by omega)];refine .bp (qA hT (by omega) (by omega)) fun v T1 h1=>.go ⟨?_,h1.2⟩;rw [mg (by omega) (by omega)];omega
  · refine .bp (qA hT (by decide) (by decide)) fun v T1 h1=>.ite (fun _=>.out ⟨rfl,h1.2,hx⟩) fun _=>?_;exact .bp (qA h1.2 (by omega) (by omega)) fun v T2 h2=>.go ⟨by omega,h2.2⟩
 refine .el hJ (fun r hr=>.pp hr fun k r hr=>.pp hr fun tl ta hr=>?_) fun o ho=>.mk ho;refine .bd (.ix hr.1.1 hr.1.2) fun fn hfn=>?_;obtain ⟨p,hp⟩:=mI (l:=M.b) (k:=k.toNat) (by rw [hM.b.1];omega);have hp4:=hM.b.2 p (xu hp);rw [ha];refine .el (Ms hf hM hr.1.1 hp hp4.2 (O:=fun _=>False) fu 0 ⟨tl,ta⟩ [] hr.2 (by omega) (by omega) ⟨rfl,fun y hy=>(by cases hy)⟩ (by omega)) (fun r hr=>?_) fun _ z=>z.elim;refine .pp hr fun a1 r hr=>.pp hr fun a1 r hr=>.pp hr fun a1 r hr=>.pp hr fun a1 r hr=>.pp hr fun a1 r hr=>.pp hr fun a1 r hr=>.pp hr fun a1 r hr=>.pp hr fun a1 r hr=>.pp hr fun a1 r hr=>.pp hr fun a1 r hr=>.pp hr fun a1 a2 hr=>.mk ⟨hr.1,hr.2.1,?_⟩;exact GS.mk hx.1.1 hx.1.2.1 (M6 fn (xu hfn)) ⟨hx.1.2.2.2.1,hx.1.2.2.2.2⟩ hx.2.1 hr.2.2 hx.2.2.2.1 hx.2.2.2.2
theorem Kq {l:List ByteArray}{x:ByteArray}:((l ++ [x]).length:Int)=l.length+1:=by rw [kV];omega
theorem Uw {fu:Nat}(hf:9<=fu){M:lM}{T:jN}(hM:MP M)(hl:0 < M.h)(hT:TQ T):kP (wW fu (yg M) T) (fun r=>jy r fun x r=>jy r fun M' T'=>GS 1 x/\Mr M M'/\TQ T'):=by
 unfold wW;obtain ⟨c1,c2,c3,c4,c5,c6,c7⟩:=hM;refine .bp (Oe (M:=yg M) (by omega) c6.1 (by show M.g<=30;omega)) fun s M1 h1=>.bp (qA hT (by decide) (by decide)) fun v T1 h2=>?_;obtain ⟨h1,rfl⟩:=h1;have n1:=c3.1;have n2:=c4.1;have n3:=c5.1;refine .ite (fun _=>?_) fun _=>.ite (fun _=>?_) fun _=>?_
 · refine .bd (.app (by show M.d.length+1<=_;omega)) fun r hr=>.mk ⟨GS.mk h1 (by decide) b0 z9 nA nA nA nA,?_,h2.2⟩;subst hr;exact ⟨rfl,rfl,rfl,⟨Nat.le_refl _,by show _+(M.h - 1)<=_;exact (by dsimp only [yg];omega)⟩,⟨by dsimp only [yg];rw [kV];omega,by dsimp only [yg];rw [Kq];omega⟩,⟨Nat.le_refl _,by dsimp only [yg];omega⟩,⟨by dsimp only [yg];omega,by dsimp only [yg];omega⟩,by dsimp only [yg];omega,c3.2,oF c4.2 h1,c5.2⟩
 · refine .bd (.app (by show M.c.length+1<=_;omega)) fun r hr=>.mk ⟨GS.mk h1 b0 b0 (by decide) nA nA nA nA,?_,h2.2⟩;subst hr;exact ⟨rfl,rfl,rfl,⟨Nat.le_refl _,by dsimp only [yg];omega⟩,⟨Nat.le_refl _,by dsimp only [yg];omega⟩,⟨by dsimp only [yg];rw [kV];omega,by dsimp only [yg];rw [Kq];omega⟩,⟨by dsimp only [yg];omega,by dsimp only [yg];omega⟩,by dsimp only [yg];omega,c3.2,c4.2,oF c5.2 h1⟩
 · refine .bd (.app (by show M.a.length+1<=_;omega)) fun r hr=>.mk ⟨GS.mk h1 b0 b0 z9 nA nA nA nA,?_,h2.2⟩;subst hr;exact ⟨rfl,rfl,rfl,⟨by dsimp only [yg];rw [kV];omega,by dsimp only [yg];rw [Kq];omega⟩,⟨Nat.le_refl _,by dsimp only [yg];omega⟩,⟨Nat.le_refl _,by dsimp only [yg];omega⟩,⟨by dsimp only [yg];omega,by dsimp only [yg];omega⟩,by dsimp only [yg];omega,oF c3.2 h1,c4.2,c5.2⟩
theorem GS.nil {kd:Int}:GS 1 ⟨kd,0,0,be,be,0,0,[],be,0,[],[],[]⟩:=GS.mk b0 b0 b0 z9 nA nA nA nA
theorem VH {fu:Nat}(hf:9<=fu){M:lM}{T:jN}(hM:MP M)(hT:TQ T):kP (x9 fu M T) (SX M):=by
 unfold x9;obtain ⟨n1,m1⟩:=hM.ns;obtain ⟨n2,m2⟩:=hM.np;obtain ⟨n3,m3⟩:=hM.na;have hl:=hM.l;refine .bp (qA hT (by decide) (by decide)) fun k T1 h1=>?_;have hJ0:kP (xB fu M k T1) (pV (fun r=>jy r fun _ r=>jy r fun tl r=>jy r fun ta r=>jy r fun _ r=>jy r fun _ r=>jy r fun _ r=>jy r fun _ r=>jy r fun _ r=>jy r fun _ r=>jy r fun _ r=>jy r fun _ r=>jy r fun _ r=>jy r fun _ r=>jy r fun _ r=>jy r fun _ r=>jy r fun f r=>jy r fun fn r=>jy r fun pr r=>jy r fun c r=>jy r fun l r=>jy r fun s r=>jy r fun p a=>(⟨f,fn,pr,s,p,a,c,l⟩:lM)=M/\TQ ⟨tl,ta⟩) (SX M)):=by unfold xB;refine .ite (fun c=>?_) fun c=>.go ⟨rfl,h1.2⟩;refine .bp (g_call hf hM h1.2 GS.nil rfl) fun b r hr=>.pp hr fun M' r hr=>.pp hr fun T2 x hr=>?_;obtain ⟨rfl,h2,hx⟩:=hr;refine .ite (fun _=>?_) fun _=>.go ⟨rfl,h2⟩;refine .ite (fun c=>?_) fun _=>.out ⟨hx,rfl,h2⟩;refine .bp (qA h2 (by decide) (by decide)) fun v T3 h3=>.ite (fun _=>?_) fun _=>.out ⟨hx,rfl,h3.2⟩;refine EH h3.2 (by omega) (by omega) fun s T4 hs h4=>.bd (xI (m1 s hs)) fun y hy=>.out ⟨?_,rfl,h4⟩;exact GS.mk hx.1.1 hx.1.2.1 hx.1.2.2.1 ⟨hx.1.2.2.2.1,hx.1.2.2.2.2⟩ (len1 (hy.mono (by decide)) (by decide)) hx.2.2.1 hx.2.2.2.1 hx.2.2.2.2
 refine .el hJ0 (fun r hr=>?_) fun o ho=>.mk ho;refine .pp hr fun a1 r hr=>.pp hr fun tl r hr=>.pp hr fun ta r hr=>.pp hr fun a1 r hr=>.pp hr fun a1 r hr=>.pp hr fun a1 r hr=>.pp hr fun a1 r hr=>.pp hr fun a1 r hr=>.pp hr fun a1 r hr=>.pp hr fun a1 r hr=>.pp hr fun a1 r hr=>.pp hr fun a1 r hr=>.pp hr fun a1 r hr=>.pp hr fun a1 r hr=>.pp hr fun a1 r hr=>.pp hr fun a1 r hr=>.pp hr fun a2 r hr=>.pp hr fun a3 r hr=>.pp hr fun a4 r hr=>.pp hr fun a5 r hr=>.pp hr fun a6 r hr=>.pp hr fun a7 a8 hr=>?_;obtain ⟨rfl,hT2⟩:=hr;dsimp only at n1 m1 n2 m2 n3 m3 hl;have hJ1:kP (xD fu k tl ta a1 a2 a3 a4 a5 a6 a7 a8) (pV (fun r=>jy r fun tg r=>jy r fun tl r=>jy r fun ta r=>jy r fun f r=>jy r fun fn r=>jy r fun pr r=>jy r fun c r=>jy r fun l r=>jy r fun s r=>jy r fun p a=>(⟨f,fn,pr,s,p,a,c,l⟩:lM)=⟨a1,a2,a3,a6,a7,a8,a4,a5⟩/\TQ ⟨tl,ta⟩/\tg.length<=1/\∀ y ∈ tg,GE 4 y) (SX ⟨a1,a2,a3,a6,a7,a8,a4,a5⟩)):=by
  unfold xD;have hJ2:kP (xA fu k a7) (pV (fun b=>b=true->0 < a7.length) (SX ⟨a1,a2,a3,a6,a7,a8,a4,a5⟩)):=by unfold xA;exact .ite (fun c=>.go fun z=>by have:=Ed z;omega) fun c=>.go fun z=>(by cases z)
  refine .Fa hJ2 fun b hb=>.ite (fun z=>?_) fun _=>?_
  · have:=hb z;exact EH hT2 (by omega) (by omega) fun s T3 hs h3=>.bp (qA h3 (by decide) (by decide)) fun v T4 h4=>.bd (.ix h4.1.1 h4.1.2) fun e he=>.go ⟨rfl,h4.2,len1 (GE.mk0 (m2 s hs) (Nt e (xu he))) (by decide)⟩
  have hJ3:kP (xE fu k a8) (pV (fun b=>b=true->0 < a8.length) (SX ⟨a1,a2,a3,a6,a7,a8,a4,a5⟩)):=by unfold xE;exact .ite (fun c=>.go fun z=>by have:=Ed z;omega) fun c=>.go fun z=>(by cases z)
  refine .Fa hJ3 fun b hb=>.ite (fun z=>?_) fun _=>.ite (fun c=>?_) fun _=>?_
  · refine .bp (Ua (by omega) hM hT2 (hb z)) fun x r hx=>.pp hx fun M' T' hx=>.go ⟨?_,hx.2.2,len1 hx.1 (by decide)⟩;exact hx.2.1
  · exact EH hT2 (by omega) (by omega) fun s T3 hs h3=>.bd (xI (m1 s hs)) fun y hy=>.go ⟨rfl,h3,len1 (hy.mono (by decide)) (by decide)⟩
  · exact .bp (EJ hf hM hT2 (by decide) (by decide)) fun x r hx=>.pp hx fun M' T' hx=>.out ⟨GS.mk b0 b0 b0 z9 nA (len1 hx.1 (by decide)) nA nA,hx.2⟩
 refine .el hJ1 (fun r hr=>?_) fun o ho=>.mk ho;refine .pp hr fun tg r hr=>.pp hr fun tl r hr=>.pp hr fun ta r hr=>.pp hr fun b1 r hr=>.pp hr fun b2 r hr=>.pp hr fun b3 r hr=>.pp hr fun b4 r hr=>.pp hr fun b5 r hr=>.pp hr fun b6 r hr=>.pp hr fun b7 b8 hr=>?_;obtain ⟨h1,h2,h3⟩:=hr;rw [h1];exact .bp (EJ hf hM h2 (by decide) (by decide)) fun x r hx=>.pp hx fun M' T' hx=>.mk ⟨GS.mk b0 b0 b0 z9 h3 (len1 hx.1 (by decide)) nA nA,hx.2⟩
end Go.Proofs.YtdkneekpdecjbaaGreat
