/- What the checker of the specification finds out: statements, functions, sources. -/
import Derived.Test.YtdkneekpdecjbaaGreatZ25
import Derived.Test.YtdkneekpdecjbaaGreatPf
import Derived.Test.YtdkneekpdecjbaaGreatZ18
set_option linter.unusedVariables false
set_option linter.unusedSimpArgs false
namespace Go.Proofs.YtdkneekpdecjbaaGreat
open Go.RowKit Go.Fw Go.Proofs.Tryz
def CY (l:List kN):List Nat:=l.map fun f=>f.a.length
theorem tq {α:Type}{l:List α}{k:Nat}:ix l (k:Int)=l[k]?:=by unfold Go.Fw.ix;rw [lD (by omega),FJ]
theorem Vr.snoc {V:List gP}{v:gP}:Vr V (V ++ [v]):=fun i x h=>⟨x,by rw [AL (ko h)];exact h,rfl,rfl,rfl,rfl⟩
theorem Ug {S:fV}{V V':List gP}{vs:List (List gP)}(h:Wd S V)(hs:st S.a.c S.f V'=some vs):ix vs S.f=some V'/\(∀ i:Nat,(i:Int)≠S.f->vs[i]?=S.a.c[i]?)/\vs.length=S.a.c.length:=by obtain ⟨k,hk,hl,rfl⟩:=sG hs;rw [hk];refine ⟨by rw [tq,Bz hl],fun i hi=>?_,wU⟩;rw [zu (by omega)]
theorem Dx {fu:Nat}{S S':fV}{ln j:Int}{v:gP}{V:List gP}(h:nK fu S ln v=some (j,S'))(hw:Wd S V)(hv:VO S.a.a.a v)(e:S'.e=0):Up S V S' (V ++ [v])/\j=(V.length:Int)/\S'.a.b=S.a.b:=by
 unfold nK at h;obtain ⟨⟨o,c⟩,_,h⟩:=bs h;rw [pl] at h;obtain ⟨t,ht,h⟩:=bs h;rw [hw.v] at ht;cases ht;rcases jH h with ⟨c1,h⟩|⟨c1,h⟩
 · cases h;exact absurd e c1
 rcases jH h with ⟨c2,h⟩|⟨c2,h⟩
 · obtain ⟨d,hd,h⟩:=bs h;cases h;exact absurd e (tY (by decide) hd).2
 rcases jH h with ⟨c3,h⟩|⟨c3,h⟩
 · obtain ⟨d,hd,h⟩:=bs h;cases h;exact absurd e (tY (by decide) hd).2
 obtain ⟨i,hi,h⟩:=bs h;obtain ⟨_,rfl⟩:=qy hi;obtain ⟨op,_,h⟩:=bs h;obtain ⟨vs,hvs,h⟩:=bs h;cases h;obtain ⟨k1,k2,k3⟩:=Ug hw hvs;exact ⟨⟨Decidable.not_not.1 c1,rfl,rfl,Qk,k1,k2,k3,.snoc,oQ hw.vo hv⟩,rfl,rfl⟩
theorem X0 {fu:Nat}{S S':fV}{x x':jA}(h:qW fu S x=some (S',x')):Nk S S'/\∃ c,x'=⟨x.b,x.g,x.n,x.c,x.j,x.m,x.f,x.e,x.k,c,x.a,x.d,x.h⟩/\(S'.e=0->ix (CY S.a.a.b) c=some x.a.length):=by
 unfold qW at h;rcases jH h with ⟨c1,h⟩|⟨_,h⟩
 · cases h;exact ⟨.rfl',x.i,by cases x;rfl,fun z=>absurd z c1⟩
 · obtain ⟨⟨b,d⟩,_,h⟩:=bs h;rw [pl] at h;rcases jH h with ⟨_,h⟩|⟨_,h⟩
   · obtain ⟨q,hq,h⟩:=bs h;cases h;have k:=tY (by decide) hq;exact ⟨k.1,b,rfl,fun z=>absurd z k.2⟩
   · obtain ⟨fn,hfn,h⟩:=bs h;rcases jH h with ⟨_,h⟩|⟨c2,h⟩
     · obtain ⟨q,hq,h⟩:=bs h;cases h;have k:=tY (by decide) hq;exact ⟨k.1,b,rfl,fun z=>absurd z k.2⟩
     · cases h;refine ⟨.rfl',b,rfl,fun _=>?_⟩;obtain ⟨k,rfl,hk⟩:=kW hfn;rw [tq];unfold CY;rw [BF,hk];exact congrArg some (by dsimp only;omega)
section
variable {fu:Nat}{f:fV->List jA->Option (List jA × fV)}{g:fV->jA->Option (jA × fV)}
def Xb (f:fV->List jA->Option (List jA × fV)):Prop:=∀ S l l' S' V,f S l=some (l',S')->Wd S V->(∀ y ∈ l,∃ n,DL 5000 n y)->S'.e=0->∃ V',Up S V S' V'/\SW S'.a.b V' (CY S.a.a.b) S.f l' S.a.b.length S'.a.b.length
def Eb (f:fV->List jA->Option (List jA × fV)):Prop:=∀ S l l' S',f S l=some (l',S')->S'.e=0->S.e=0
def Xs (g:fV->jA->Option (jA × fV)):Prop:=∀ S x x' S' V,g S x=some (x',S')->Wd S V->(∃ n,DL 5000 n x)->S'.e=0->∃ V',Up S V S' V'/\SW S'.a.b V' (CY S.a.a.b) S.f [x'] S.a.b.length S'.a.b.length
abbrev inS (S:fV)(r8:List jT):fV:=⟨⟨S.a.a,S.a.c,r8⟩,S.f,S.b,S.c,S.e⟩
theorem abY {S:fV}{x:jA}{r8:List jT}{v:Ld (Int × Int × Int) (jA × fV)}(h8:x.m<=8)(h:qZ fu f g S x r8=some v) :(∃ k c n,v=.go (k,c,n)/\∀ nm p a b,VO S.a.a.a ⟨nm,k,c,n,p,a,b⟩)\/∃ y S',v=.out (y,S')/\S'.e≠0:=by
 unfold qZ at h;rcases jH h with ⟨c,h⟩|⟨_,h⟩
 · cases h;exact .inl ⟨_,_,_,rfl,fun _ _ _ _=>.inr (.inr ⟨rfl,c,h8⟩)⟩
 · rcases jH h with ⟨_,h⟩|⟨_,h⟩
   · obtain ⟨⟨c,d⟩,_,h⟩:=bs h;rw [pl] at h;rcases jH h with ⟨_,h⟩|⟨_,h⟩
     · obtain ⟨q,hq,h⟩:=bs h;cases h;exact .inr ⟨_,_,rfl,(tY (by decide) hq).2⟩
     · obtain ⟨r,hr,h⟩:=bs h;cases h;exact .inl ⟨_,_,_,rfl,fun _ _ _ _=>.inr (.inl ⟨rfl,r,hr,rfl⟩)⟩
   · cases h;exact .inl ⟨_,_,_,rfl,fun _ _ _ _=>.inl ⟨rfl,rfl⟩⟩
theorem VJ {S:fV}{x:jA}{r8:List jT}{x':jA}{S':fV}{V:List gP}(h8:x.m<=8)(h:oh fu f g S x r8=some (.out (x',S')))(hw:Wd (inS S r8) V)(e:S'.e=0) :x.b=1/\∃ V' v,Up (inS S r8) V S' V'/\x'=⟨x.b,x.g,(S.a.b.length:Int),x.c,x.j,x.m,v,x.e,x.k,x.i,x.a,x.d,x.h⟩/\S'.a.b=r8/\∃ q,ix V' v=some q:=by
 unfold oh at h;rcases jH h with ⟨hk,h⟩|⟨_,h⟩
 · obtain ⟨v,hv,h⟩:=bs h;rcases abY h8 hv with ⟨k,c,n,rfl,hvo⟩|⟨y,S2,rfl,h2⟩
   · replace h:=gi h;simp only [pl] at h;obtain ⟨⟨j,k⟩,hd,h⟩:=bs h;rw [pl] at h;cases h;obtain ⟨k1,rfl,k3⟩:=Dx hd hw (hvo _ _ _ _) e;exact ⟨hk,_,_,k1,rfl,k3,_,by rw [tq,Du (mO _),Nat.sub_self];rfl⟩
   · cases h;exact absurd e h2
 · rcases jH h with ⟨_,h⟩|⟨_,h⟩
   · rcases jH h with ⟨_,h⟩|⟨_,h⟩
     · obtain ⟨_,_,h⟩:=bs h;rcases jH h with ⟨_,h⟩|⟨_,h⟩
       · obtain ⟨_,_,h⟩:=bs h;cases h
       · cases h
     · cases h
   · cases h
theorem ZX {S:fV}{x:jA}{r8:List jT}{a1:List kg}{a2 a3 a4:Int}{a5:List kN}{a6:List (List gP)}{a7:List jT}{a8:List Int}(h1:x.e.length<=1)(h8:x.m<=8)(h:oh fu f g S x r8=some (.go (a1,a2,a3,a4,a5,a6,a7,a8))):Nk (inS S r8) ⟨⟨⟨a1,a5⟩,a6,a7⟩,a2,a8,a3,a4⟩/\x.b≠1/\(a4=0->x.b=3->∀ y ∈ x.e,y.e=1):=by
 unfold oh at h;rcases jH h with ⟨hk,h⟩|⟨hk,h⟩
 · obtain ⟨v,hv,h⟩:=bs h;rcases abY h8 hv with ⟨k,c,n,rfl,hvo⟩|⟨y,S2,rfl,h2⟩
   · replace h:=gi h;simp only [pl] at h;obtain ⟨⟨j,k⟩,hd,h⟩:=bs h;rw [pl] at h;cases h
   · cases h
 · rcases jH h with ⟨hk3,h⟩|⟨hk3,h⟩
   · rcases jH h with ⟨ht,h⟩|⟨ht,h⟩
     · obtain ⟨t,ht2,h⟩:=bs h;rcases jH h with ⟨_,h⟩|⟨hop,h⟩
       · obtain ⟨q,hq,h⟩:=bs h;cases h;have k:=tY (by decide) hq;exact ⟨k.1,hk,fun z=>absurd z k.2⟩
       · cases h;refine ⟨.rfl',hk,fun _ _ y hy=>?_⟩;obtain ⟨i,hi⟩:=QY hy;have:=ko hi;obtain rfl:i=0:=by omega
         rw [show (0:Int)=((0:Nat):Int) from rfl,tq,hi] at ht2;cases ht2;exact Decidable.not_not.1 hop
     · cases h;exact ⟨.rfl',hk,fun _ _ y hy=>by
         have:=List.length_pos_of_mem hy;omega⟩
   · cases h;exact ⟨.rfl',hk,fun _ z=>absurd z hk3⟩
theorem afF {v:Int}{S:fV}{V:List gP}{A:List (List gP)}(hw:Wd S V)(h:oZ fu f g v S=some (.go A))(e:S.e=0):∃ V',Up S V ⟨⟨S.a.a,A,S.a.b⟩,S.f,S.b,S.c,S.e⟩ V':=by
 unfold oZ at h;rcases jH h with ⟨_,h⟩|⟨c,h⟩
 · obtain ⟨t,ht,h⟩:=bs h;rw [hw.v] at ht;cases ht;obtain ⟨b,hb,h⟩:=bs h;obtain ⟨V',hV',h⟩:=bs h;obtain ⟨vs,hvs,h⟩:=bs h;cases h;obtain ⟨k,rfl,hkl,rfl⟩:=sG hV';rw [tq] at hb;obtain ⟨k1,k2,k3⟩:=Ug hw hvs;refine ⟨_,e,rfl,rfl,Qk,k1,k2,k3,fun i x hx=>?_,fun x hx=>?_⟩
   · by_cases hik:i=k
     · subst hik;rw [hb] at hx;cases hx;exact ⟨_,Bz hkl,rfl,rfl,rfl,rfl⟩
     · exact ⟨x,by rw [zu (by omega)];exact hx,rfl,rfl,rfl,rfl⟩
   · rcases Ie hx with hx | rfl
     · exact hw.vo x hx
     · have:=hw.vo b (vM hb);exact this
 · exact absurd e c
theorem Bd:∀ (l:List jA)(k:Nat)(out:List jA)(a1:List kg)(a2 a3 a4:Int)(a5:List kN)(a6:List (List gP))(a7:List jT)(a8:List Int)(v:Ld (List jA × List kg × Int × Int × Int × List kN × List (List gP) × List jT × List Int) (List jA × fV)),
  a4≠0->lF fu f g l k out a1 a2 a3 a4 a5 a6 a7 a8=some v->v=.go (out,a1,a2,a3,a4,a5,a6,a7,a8)
 | [],_,_,_,_,_,_,_,_,_,_,v,_,h=>by cases h;rfl
 | u :: r,_,_,_,_,_,_,_,_,_,_,v,he,h=>by rw [lF,lG he] at h;cases h;rfl
theorem LK (hg:Xs g){S0:fV}{V0:List gP}:∀ (l:List jA)(k:Nat)(out:List jA)(S:fV)(V:List gP)(o:List jA)(a1:List kg)(a2 a3 a4:Int)(a5:List kN)(a6:List (List gP))(a7:List jT)(a8:List Int),
  Up S0 V0 S V->SW S.a.b V (CY S0.a.a.b) S0.f out S0.a.b.length S.a.b.length->(∀ y ∈ l,∃ n,DL 5000 n y)->
  lF fu f g l k out S.a.a.a S.f S.c S.e S.a.a.b S.a.c S.a.b S.b=some (.go (o,a1,a2,a3,a4,a5,a6,a7,a8))->a4=0->
  ∃ V',Up S0 V0 ⟨⟨⟨a1,a5⟩,a6,a7⟩,a2,a8,a3,a4⟩ V'/\SW a7 V' (CY S0.a.a.b) S0.f o S0.a.b.length a7.length
 | [],_,out,S,V,_,_,_,_,_,_,_,_,_,hU,hW,_,h,e=>by cases h;exact ⟨V,hU,hW⟩
 | u :: r,k,out,S,V,o,a1,a2,a3,a4,a5,a6,a7,a8,hU,hW,hl,h,e=>by
  rw [lF] at h;rcases jH h with ⟨c,h⟩|⟨_,h⟩
  · cases h;exact absurd e c
  obtain ⟨⟨x,S1⟩,h1,h⟩:=bs h;rw [pl] at h;obtain ⟨w,hw,h⟩:=bs h;obtain ⟨_,rfl⟩:=qy hw;by_cases he:S1.e=0
  · obtain ⟨V1,k1,k2⟩:=hg _ _ _ _ V h1 hU.wd (hl u (.head _)) he;rw [hU.pg,hU.f] at k2;exact LK hg r _ _ S1 V1 o a1 a2 a3 a4 a5 a6 a7 a8 (hU.trans k1) ((hW.mono k1.k k1.vr).app k2) (fun y hy=>hl y (.tail _ hy)) h e
  · have:=Bd _ _ _ _ _ _ _ _ _ _ _ _ he h;cases this;exact absurd e he
theorem Ko {c:Int}{d:List jT}{R:List kg}:∀ (l:List Int)(k:Nat)(a a':List (List gP))(V:List gP),mX fu f g c d l k a=some (.go a')→ix a c=some V→(∀ x ∈ V,VO R x)→
  ∃ V',ix a' c=some V'/\Vr V V'/\(∀ x ∈ V',VO R x)/\(∀ i:Nat,(i:Int)≠c->a'[i]?=a[i]?)/\a'.length=a.length
 | [],_,a,a',V,h,hV,ho=>by cases h;exact ⟨V,hV,.rfl',ho,fun _ _=>rfl,rfl⟩
 | e :: r,k,a,a',V,h,hV,ho=>by
  rw [mX] at h;obtain ⟨t,ht,h⟩:=bs h;rw [hV] at ht;cases ht;obtain ⟨b,hb,h⟩:=bs h;obtain ⟨V1,hV1,h⟩:=bs h;obtain ⟨vs,hvs,h⟩:=bs h;obtain ⟨q,rfl,hql,rfl⟩:=sG hV1;rw [tq] at hb;obtain ⟨p,rfl,hpl,rfl⟩:=sG hvs;obtain ⟨V',h1,h2,h3,h4,h5⟩:=Ko r _ _ a' _ h (by rw [tq,Bz hpl]) (fun x hx=>by
    rcases Ie hx with hx | rfl
    · exact ho x hx
    · have:=ho b (vM hb);exact this)
  refine ⟨V',h1,Vr.trans (fun i x hx=>?_) h2,h3,fun i hi=>(h4 i hi).trans (by rw [zu (by omega)]),h5.trans wU⟩;by_cases hik:i=q
  · subst hik;rw [hb] at hx;cases hx;exact ⟨_,Bz hql,rfl,rfl,rfl,rfl⟩
  · exact ⟨x,by rw [zu (by omega)];exact hx,rfl,rfl,rfl,rfl⟩
theorem CU:∀ (l:List jA){k:Nat}{out:List jA}{a1:List kg}{a2 a3 a4:Int}{a5:List kN}{a6:List (List gP)}{a7:List jT}{a8:List Int}{o:List jA × fV},lF fu f g l k out a1 a2 a3 a4 a5 a6 a7 a8=some (.out o)→False
 | [],_,_,_,_,_,_,_,_,_,_,_,h=>by cases h
 | u :: r,_,_,_,_,_,_,_,_,_,_,_,h=>by
  rw [lF] at h;rcases jH h with ⟨c,h⟩|⟨_,h⟩
  · cases h
  obtain ⟨⟨x,S1⟩,h1,h⟩:=bs h;rw [pl] at h;obtain ⟨w,hw,h⟩:=bs h;exact CU r h
theorem YT (hg:Xs g):Xb (nX fu f g):=by
 intro S l l' S' V h hw hl e;unfold nX at h;obtain ⟨v,hv,h⟩:=bs h;cases v with
 | out o=>
  have hd:=CU l hv;exact hd.elim
 | go r=>
 obtain ⟨o,a1,a2,a3,a4,a5,a6,a7,a8⟩:=r;replace h:=gi h;simp only [pl] at h;obtain ⟨_,_,h⟩:=bs h;obtain ⟨v2,hv2,h⟩:=bs h;cases v2 with
 | out q=>exact (zH _ _ _ _ hv2).elim
 | go q=>
  replace h:=gi h;obtain ⟨_,_,h⟩:=bs h;obtain ⟨_,_,h⟩:=bs h;cases h;by_cases hS:S.e=0
  · obtain ⟨V1,k1,k2⟩:=LK hg l 0 [] S V _ _ _ _ _ _ _ _ _ (.rfl' hw hS) .nil hl hv e;have hf:a2=S.f:=k1.f;obtain ⟨V2,h1,h2,h3,h4,h5⟩:=Ko (R:=S.a.a.a) _ _ _ _ V1 hv2 (by rw [hf];exact k1.v) k1.vo;refine ⟨V2,⟨hS,hf,k1.pg,k1.k,by rw [<-hf];exact h1,fun i hi=>(h4 i (by rw [hf];exact hi)).trans (k1.vs i hi),h5.trans k1.vl,k1.vr.trans h2,h3⟩,k2.mono Qk h2⟩
  · have:=Bd _ _ _ _ _ _ _ _ _ _ _ _ hS hv;cases this;exact absurd e hS
theorem Zd:Eb (nX fu f g):=by
 intro S l l' S' h e;unfold nX at h;obtain ⟨v,hv,h⟩:=bs h;cases v with
 | out o=>exact (CU l hv).elim
 | go r=>
 obtain ⟨o,a1,a2,a3,a4,a5,a6,a7,a8⟩:=r;replace h:=gi h;simp only [pl] at h;obtain ⟨_,_,h⟩:=bs h;obtain ⟨v2,hv2,h⟩:=bs h;cases v2 with
 | out q=>exact (zH _ _ _ _ hv2).elim
 | go q=>
  replace h:=gi h;obtain ⟨_,_,h⟩:=bs h;obtain ⟨_,_,h⟩:=bs h;cases h;refine Classical.byContradiction fun hS=>?_;have:=Bd _ _ _ _ _ _ _ _ _ _ _ _ hS hv;cases this;exact hS e
theorem aa4 (hE:Eb f)(hf:Xb f){h' c j:Int}{d k:ByteArray}{l:Int}{m:List jB}{p:ByteArray}{t:Int}{u:List jA}{v:List jB}{w:List jA}{S:fV}{V:List gP}(hw:Wd S V)(hl:∀ y ∈ u,∃ n,DL 5000 n y){r:Ld Unit (jA × fV)}(h:og fu f g h' c j d k l m p t u v w S=some r) :(r=.go ()/\(S.e=0->h'≠8))\/∃ i z S',r=.out (⟨h',c,j,d,k,l,i,m,p,t,v,w,z⟩,S')/\h'=8/\(S'.e=0->∃ V',Up S V S' V'/\SW S'.a.b V' (CY S.a.a.b) S.f z S.a.b.length S'.a.b.length/\∃ q,ix V' i=some q/\q.b=1/\q.e=(S.a.b.length:Int)):=by
 unfold og at h;rcases jH h with ⟨h8,h⟩|⟨h8,h⟩
 · rcases jH h with ⟨he,h⟩|⟨he,h⟩
   · obtain ⟨B,_,h⟩:=bs h;obtain ⟨⟨i,S1⟩,hd,h⟩:=bs h;rw [pl] at h;obtain ⟨⟨z,S2⟩,hz,h⟩:=bs h;rw [pl] at h;obtain ⟨q,hq,h⟩:=bs h;cases q with
     | out o=>exact (aaZ hq).elim
     | go A=>
      replace h:=gi h;cases h;refine .inr ⟨_,_,_,rfl,h8,fun e=>?_⟩;have e2:S2.e=0:=e;by_cases e1:S1.e=0
      · obtain ⟨k1,rfl,k3⟩:=Dx hd hw (.inl ⟨rfl,rfl⟩) e1;obtain ⟨V2,k4,k5⟩:=hf _ _ _ _ _ hz k1.wd hl e2;obtain ⟨V3,k6⟩:=afF k4.wd hq e2;have k7:Up S V ⟨⟨S2.a.a,A,S2.a.b⟩,S2.f,B,S2.c,S2.e⟩ V3:=by have:=(k1.trans k4).trans k6;exact ⟨this.e,this.f,this.pg,this.k,this.v,this.vs,this.vl,this.vr,this.vo⟩
        rw [k1.pg,k1.f,k3] at k5;refine ⟨V3,k7,k5.mono Qk k6.vr,?_⟩;obtain ⟨q',hq',a1,a2,a3,a4⟩:=Uv (k4.vr.trans k6.vr) (i:=(V.length:Int)) (v:=⟨d,1,-1,1,false,(S.a.b.length:Int),0⟩) (by rw [tq,Du (mO _),Nat.sub_self];rfl);exact ⟨q',hq',a1,a4⟩
      · exact absurd (hE _ _ _ _ hz e2) e1
   · cases h;exact .inl ⟨rfl,fun z=>absurd z he⟩
 · cases h;exact .inl ⟨rfl,fun _=>h8⟩
theorem acZ {z:fV}{x:jA}{T:List jB}{S:fV}{V:List gP}(hw:Wd S V){v:Ld (List kg × Int × Int × Int × List kN × List (List gP) × List jT × List Int × Int × Int × Int × ByteArray × ByteArray × Int × Int × List jB × ByteArray × Int × List jB × List jA × List jA) (jA × fV)}(h:ru fu f g z x T S=some v) :∃ S1 cl,v=.go (S1.a.a.a,S1.f,S1.c,S1.e,S1.a.a.b,S1.a.c,S1.a.b,S1.b,x.b,x.g,(z.a.b.length:Int),x.c,x.j,x.m,x.f,T,x.k,cl,x.a,x.d,x.h)/\Nk S S1/\(S1.e=0->x.k≠be->ix (CY S.a.a.b) cl=some x.a.length):=by
 unfold ru at h;rcases jH h with ⟨_,h⟩|⟨c,h⟩
 · obtain ⟨⟨S1,a⟩,ha,h⟩:=bs h;rw [pl] at h;obtain ⟨k1,cc,rfl,k2⟩:=X0 ha;cases h;exact ⟨S1,cc,rfl,k1,fun z _=>k2 z⟩
 · cases h;exact ⟨S,x.i,rfl,.rfl',fun _ z=>absurd (Decidable.not_not.1 c) z⟩
theorem aas (hE:Eb f)(hf:Xb f):Xs (rP fu f g):=by
 intro S x x' S' V h hw ⟨n,hx⟩ e;cases n with
 | zero=>exact hx.elim
 | succ n=>
 obtain ⟨h1,h2,h3,h4,hsh⟩:=hx;have hbo:∀ y ∈ x.d,∃ n,DL 5000 n y:=fun y hy=>⟨n,h3.2 y hy⟩;have hel:∀ y ∈ x.h,∃ n,DL 5000 n y:=fun y hy=>⟨n,h4.2 y hy⟩;unfold rP at h;rcases jH h with ⟨_,h⟩|⟨_,h⟩
 · obtain ⟨q,hq,h⟩:=bs h;cases h;exact absurd e (tY (by decide) hq).2
 obtain ⟨r8,hr8,h⟩:=bs h;obtain ⟨_,rfl⟩:=qy hr8;have hw8:Wd (inS S (S.a.b ++ [⟨S.f,x.b,x.g⟩])) V:=⟨hw.v,hw.vo⟩;have hup:∀ {S2:fV}{V2:List gP},Up (inS S (S.a.b ++ [⟨S.f,x.b,x.g⟩])) V S2 V2->Up S V S2 V2:=fun k=>⟨k.e,k.f,k.pg,(List.prefix_append _ _).trans k.k,k.v,k.vs,k.vl,k.vr,k.vo⟩;have hk8:∀ {K:List jT},S.a.b ++ [⟨S.f,x.b,x.g⟩] <+: K->K[S.a.b.length]?=some ⟨S.f,x.b,x.g⟩:=fun hK=>by obtain ⟨t,rfl⟩:=hK;rw [Fh,Du (mO _),Nat.sub_self];rfl
 obtain ⟨v,hv,h⟩:=bs h;cases v with
 | out o=>
   cases h;obtain ⟨hk,V',q,k1,rfl,k2,q',hq'⟩:=VJ hsh.len hv hw8 e;obtain ⟨t1,t2,t3,t4,t5⟩:=hsh.decl hk;refine ⟨V',hup k1,.cons rfl ?_ ?_ ?_ (fun _=>⟨q',hq'⟩) (fun z=>?_) (fun z=>?_) (fun y z=>?_) (c:=S.a.b.length+1) (d:=S.a.b.length+1) ?_ ?_ ?_⟩
   · rw [k2];exact hk8 Qk
   · dsimp only;rw [t1];intro y hy;cases hy
   · dsimp only;rw [t2];intro y hy;cases hy
   · dsimp only at z;omega
   · dsimp only at z;exact absurd t5 z
   · dsimp only at z;rw [t1] at z;cases z
   · dsimp only;rw [t3];exact .nil
   · dsimp only;rw [t4];exact .nil
   · rw [k2,kr];exact .nil
 | go s=>
   obtain ⟨a1,a2,a3,a4,a5,a6,a7,a8⟩:=s;replace h:=gi h;simp only [pl] at h;obtain ⟨m1,m2,m3⟩:=ZX h1.1 hsh.len hv;obtain ⟨⟨T,S1⟩,hT,h⟩:=bs h;rw [pl] at h;obtain ⟨k1,k2,k3⟩:=(I6 fu).2 _ _ _ _ _ V hT (m1.wd hw8);obtain ⟨v,hv2,h⟩:=bs h;obtain ⟨S2,cl,rfl,k4,k5⟩:=acZ ((m1.trans k1).wd hw8) hv2;replace h:=gi h;simp only [pl] at h;obtain ⟨⟨A,S3⟩,hA,h⟩:=bs h;rw [pl] at h;have m4:=(m1.trans k1).trans k4;obtain ⟨k6,k7,k8⟩:=(I6 fu).2 _ _ _ _ _ V hA (m4.wd hw8);have m6:=m4.trans k6;obtain ⟨⟨B,S4⟩,hB,h⟩:=bs h;rw [pl] at h;have hlenA:A.length=x.a.length:=by have:=congrArg List.length k7;rwa [Dy,Dy] at this
   have fin:∀ {V4 V5:List gP}{S5:fV}{Z:List jA}{i:Int},Up S3 V S4 V4→SW S4.a.b V4 (CY S3.a.a.b) S3.f B S3.a.b.length S4.a.b.length→Up S4 V4 S5 V5→SW S5.a.b V5 (CY S4.a.a.b) S4.f Z S4.a.b.length S5.a.b.length→(x.b=8→∃ q,ix V5 i=some q∧q.b=1∧q.e=(S4.a.b.length:Int))→
       Up S V S5 V5/\SW S5.a.b V5 (CY S.a.a.b) S.f [⟨x.b,x.g,(S.a.b.length:Int),x.c,x.j,x.m,i,T,x.k,cl,A,B,Z⟩] S.a.b.length S5.a.b.length:=fun {V4 V5 S5 Z i} n1 n2 n3 n4 n5=>by
     have e3:S3.e=0:=n1.e;have u3:Up S V S3 V:=hup (m6.up hw8 e3);have hst:S3.a.b=S.a.b ++ [⟨S.f,x.b,x.g⟩]:=by rw [m6.out]
     rw [u3.pg,u3.f,hst,kr] at n2;rw [n1.pg,n1.f,u3.pg,u3.f] at n4;have vr:=n1.vr.trans n3.vr;refine ⟨(u3.trans n1).trans n3,.cons rfl (hk8 ?_) (fun y hy=>(k3 (k4.e (k6.e e3)) y hy).mono vr) (fun y hy=>(k8 e3 y hy).mono vr) (fun z=>absurd z m2) n5 (fun z=>?_) (fun y hy=>?_) (n2.mono n3.k n3.vr) n4 .nil⟩
     · rw [<-hst];exact n1.k.trans n3.k
     · have:=k5 (k6.e e3) z;rw [(m1.trans k1).out] at this;rw [hlenA];exact this
     · have hop:=m3 (k1.e (k4.e (k6.e e3)));obtain ⟨q,hq⟩:=QY hy;have hq2:(T.map jB.e)[q]?=some y.e:=by rw [BF,hq];rfl
       rw [k2,BF] at hq2;cases hq3:x.e[q]? with
       | none=>rw [hq3] at hq2;cases hq2
       | some y0=>
         rw [hq3] at hq2;have:y0.e=y.e:=JD hq2;rw [<-this];have hm:=vM hq3;exact ⟨fun z=>hop z y0 hm,hsh.tops y0 hm⟩
   obtain ⟨v,hv3,h⟩:=bs h;by_cases e4:S4.e=0
   · obtain ⟨V4,n1,n2⟩:=hf _ _ _ _ _ hB (m6.wd hw8) hbo e4;rcases aa4 hE hf n1.wd hel hv3 with ⟨rfl,h8⟩|⟨i,z,S5,rfl,h8,hz⟩
     · replace h:=gi h;obtain ⟨⟨E,S5⟩,hE2,h⟩:=bs h;rw [pl] at h;cases h;obtain ⟨V5,n3,n4⟩:=hf _ _ _ _ _ hE2 n1.wd hel e;exact ⟨V5,fin n1 n2 n3 n4 fun z=>absurd z (h8 e4)⟩
     · cases h;obtain ⟨V5,n3,n4,n5⟩:=hz e;exact ⟨V5,fin n1 n2 n3 n4 fun _=>n5⟩
   · exfalso;unfold og at hv3;have hg2:v=.go ():=by
       rcases jH hv3 with ⟨_,hv3⟩|⟨_,hv3⟩
       · rw [lD e4] at hv3;cases hv3;rfl
       · cases hv3;rfl
     subst hg2;replace h:=gi h;obtain ⟨⟨E,S5⟩,hE2,h⟩:=bs h;rw [pl] at h;cases h;exact e4 (hE _ _ _ _ hE2 e)
end
theorem AV:∀ fu:Nat,Eb (p9 fu)∧Xb (p9 fu)∧Xs (vW fu)
 | 0=>⟨fun _ _ _ _ h=>(by cases h),fun _ _ _ _ _ h=>(by cases h),fun _ _ _ _ _ h=>(by cases h)⟩
 | fu+1=>⟨Zd,YT (AV fu).2.2,aas (AV fu).1 (AV fu).2.1⟩
theorem Rs {fu:Nat}{m:kN}{S0:fV}{V0:List gP}:∀ (l:List ByteArray)(k:Nat)(S:fV)(V:List gP)(b1:List Int)(b2:List kg)(b3 b4 b5:Int)(b6:List kN)(b7:List (List gP))(b8:List jT),Wd S V→
  kV fu m l k S.b S.a.a.a S.f S.c S.e S.a.a.b S.a.c S.a.b=some (.go (b1,b2,b3,b4,b5,b6,b7,b8))->b5=0->
  ∃ V',Up S V ⟨⟨⟨b2,b6⟩,b7,b8⟩,b3,b1,b4,b5⟩ V'/\b8=S.a.b/\V'.length=V.length+l.length/\∀ (i:Nat)(v:gP),V.length<=i->V'[i]?=some v->v.b=1
 | [],_,S,V,_,_,_,_,_,_,_,_,hw,h,e=>by cases h;exact ⟨V,.rfl' hw e,rfl,rfl,fun i v h1 h2=>by have:=ko h2;omega⟩
 | u :: r,k,S,V,b1,b2,b3,b4,b5,b6,b7,b8,hw,h,e=>by
  rw [kV] at h;obtain ⟨⟨j,S1⟩,h1,h⟩:=bs h;rw [pl] at h;by_cases e1:S1.e=0
  · obtain ⟨k1,_,k3⟩:=Dx h1 hw (.inl ⟨rfl,rfl⟩) e1;obtain ⟨V',k4,k5,k6,k7⟩:=Rs (S0:=S0) (V0:=V0) r _ S1 _ b1 b2 b3 b4 b5 b6 b7 b8 k1.wd h e;refine ⟨V',k1.trans k4,k5.trans k3,by rw [k6,kr,uK];omega,fun i v hi hv=>?_⟩;by_cases hi2:i=V.length
    · subst hi2;obtain ⟨v',h2,a1,_⟩:=k4.vr V.length _ (by rw [Du (mO _),Nat.sub_self];rfl);rw [hv] at h2;cases h2;exact a1
    · exact k7 i v (by rw [kr];omega) hv
  · exfalso;have hn:∀ (l:List ByteArray)(k:Nat)(S:fV) b1 b2 b3 b4 b5 b6 b7 b8,S.e≠0->kV fu m l k S.b S.a.a.a S.f S.c S.e S.a.a.b S.a.c S.a.b=some (.go (b1,b2,b3,b4,b5,b6,b7,b8))->b5≠0:=fun l=>by
      induction l with
      | nil=>intro k S b1 b2 b3 b4 b5 b6 b7 b8 h1 h2;cases h2;exact h1
      | cons y l ih=>
       intro k S b1 b2 b3 b4 b5 b6 b7 b8 h1 h2;rw [kV] at h2;obtain ⟨⟨j,S2⟩,h3,h2⟩:=bs h2;rw [pl] at h2;refine ih _ S2 _ _ _ _ _ _ _ _ (fun z=>?_) h2;unfold nK at h3;obtain ⟨⟨o,c⟩,_,h3⟩:=bs h3;rw [pl] at h3;obtain ⟨t,ht,h3⟩:=bs h3;rw [lG h1] at h3;cases h3;exact h1 z
    exact hn _ _ _ _ _ _ _ _ _ _ _ e1 h e
theorem P9 {fu:Nat}{S:fV}{R:List kg}:∀ (l:List ByteArray)(k:Nat)(a a':List (List gP))(V:List gP),lW fu S l k a=some (.go a')→ix a S.f=some V→(∀ x ∈ V,VO R x)→
  ∃ V',ix a' S.f=some V'/\Vr V V'/\(∀ x ∈ V',VO R x)/\(∀ i:Nat,(i:Int)≠S.f->a'[i]?=a[i]?)/\a'.length=a.length
 | [],_,a,a',V,h,hV,ho=>by cases h;exact ⟨V,hV,.rfl',ho,fun _ _=>rfl,rfl⟩
 | e :: r,k,a,a',V,h,hV,ho=>by
  rw [lW] at h;obtain ⟨t,ht,h⟩:=bs h;rw [hV] at ht;cases ht;obtain ⟨b,hb,h⟩:=bs h;obtain ⟨V1,hV1,h⟩:=bs h;obtain ⟨vs,hvs,h⟩:=bs h;obtain ⟨q,hq,hql,rfl⟩:=sG hV1;rw [hq,tq] at hb;obtain ⟨p,hp,hpl,rfl⟩:=sG hvs;obtain ⟨V',h1,h2,h3,h4,h5⟩:=P9 r _ _ a' _ h (by rw [hp,tq,Bz hpl]) (fun x hx=>by
    rcases Ie hx with hx | rfl
    · exact ho x hx
    · have:=ho b (vM hb);exact this)
  refine ⟨V',h1,Vr.trans (fun i x hx=>?_) h2,h3,fun i hi=>(h4 i hi).trans (by rw [zu (by omega)]),h5.trans wU⟩;by_cases hik:i=q
  · subst hik;rw [hb] at hx;cases hx;exact ⟨_,Bz hql,rfl,rfl,rfl,rfl⟩
  · exact ⟨x,by rw [zu (by omega)];exact hx,rfl,rfl,rfl,rfl⟩
def FW (R:List kg)(K:List jT)(V:List gP)(Ps:List Nat)(f:Int)(fn:kN)(a b:Nat):Prop:=(∀ x ∈ V,VO R x)/\SW K V Ps f fn.d a b/\(∀ i:Nat,i < fn.a.length->∃ v,V[i]?=some v/\v.b=1)/\∃ l e,fn.d=l ++ [e]/\e.b=10
theorem FW.mono {R:List kg}{K K':List jT}{V:List gP}{Ps:List Nat}{f:Int}{fn:kN}{a b:Nat}(h:FW R K V Ps f fn a b)(hk:K <+: K'):FW R K' V Ps f fn a b:=by obtain ⟨h1,h2,h3⟩:=h;exact ⟨h1,h2.mono hk .rfl',h3⟩
theorem Ke {fu:Nat}{S S':fV}{x x':kN}(h:nU fu S x=some (x',S'))(hw:Wd S [])(hx:YJ 5000 x)(e:S'.e=0):∃ V',Up S [] S' V'/\FW S.a.a.a S'.a.b V' (CY S.a.a.b) S.f x' S.a.b.length S'.a.b.length/\x'.a=x.a:=by
 unfold nU at h;rcases jH h with ⟨_,h⟩|⟨_,h⟩
 · obtain ⟨q,hq,h⟩:=bs h;cases h;exact absurd e (tY (by decide) hq).2
 obtain ⟨v,hv,h⟩:=bs h;cases v with
 | out o=>exact (Hy _ _ _ _ _ _ _ _ _ _ _ hv).elim
 | go s=>
   obtain ⟨a1,a2,a3,a4,a5,a6,a7,a8⟩:=s;replace h:=gi h;simp only [pl] at h;rcases jH h with ⟨c,h⟩|⟨c,h⟩
   · have hw0:Wd ⟨S.a,S.f,[],S.c,S.e⟩ []:=⟨hw.v,hw.vo⟩;obtain ⟨V1,k1,k2,k3,k4⟩:=Rs (S0:=S) (V0:=[]) x.a 0 ⟨S.a,S.f,[],S.c,S.e⟩ [] _ _ _ _ _ _ _ _ hw0 hv c;obtain ⟨⟨t,S2⟩,ht,h⟩:=bs h;rw [pl] at h;obtain ⟨v,hv2,h⟩:=bs h;cases v with
     | out o=>exact (Ir _ _ _ _ hv2).elim
     | go u=>
      replace h:=gi h;cases h;obtain ⟨V2,k5,k6⟩:=(AV fu).2.1 _ _ _ _ _ ht k1.wd (fun y hy=>⟨10,hx.el y hy⟩) e;have k7:=k1.trans k5;obtain ⟨V3,h1,h2,h3,h4,h5⟩:=P9 (R:=S.a.a.a) _ _ _ _ V2 hv2 (by rw [k7.f];exact k7.v) k7.vo;have hf:S2.f=S.f:=k7.f;rw [hf] at h1 h4;have hp:(CY a6)=CY S.a.a.b:=by have:=congrArg jV.b k1.pg;dsimp only at this;rw [this]
      have hf3:a3=S.f:=k1.f;dsimp only at k6;rw [hp,hf3] at k6;refine ⟨V3,⟨k1.e,hf,k7.pg,k7.k,h1,fun i hi=>(h4 i hi).trans (k7.vs i hi),h5.trans k7.vl,k7.vr.trans h2,h3⟩,⟨h3,by have q:=k6.mono Qk h2;rw [k2] at q;exact q,fun i hi=>?_,?_⟩,rfl⟩
      · have hi:i < x.a.length:=hi;obtain ⟨v1,hv1⟩:=mF (l:=V1) (k:=i) (by rw [k3,xX];omega);obtain ⟨v2,q1,b1,_⟩:=(k5.vr.trans h2) i v1 hv1;exact ⟨v2,q1,b1.trans (k4 i v1 (uN _) hv1)⟩
      · obtain ⟨l,en,hb,hk⟩:=hx.en;have hkk:=YG ht (YJ.x hx) e;rw [hb] at hkk;obtain ⟨m,y,h1,h2⟩:=Xi hkk;exact ⟨m,y,h1,h2.trans hk⟩
   · cases h;exact absurd e c
def aa7 (s:jR):Prop:=s.c.length=s.a.b.length/\(∃ B:Nat->Nat,B 0=0/\B s.a.b.length=s.b.length/\∀ (k:Nat)(fn:kN),s.a.b[k]?=some fn->∃ V,s.c[k]?=some V/\FW s.a.a s.b V (CY s.a.b) k fn (B k) (B (k+1)))/\∀ u ∈ s.a.a,u.a.length<=4
theorem XE {l:List kN}{k:Nat}{fn fn':kN}(h:l[k]?=some fn)(hp:fn'.a=fn.a):CY (l.set k fn')=CY l:=by unfold CY;rw [List.map_set];exact set_self (by rw [BF,h,hp];rfl)
theorem LU {fu:Nat}{p:jV}(hp:Vl 5000 p):∀ (n:Nat)(B:Nat->Nat)(i:Nat)(a:List kg)(b c d:Int)(e:List kN)(vs:List (List gP))(g:List jT)(h:List Int)(j:Int)(a':List kg)(b' c' d':Int)(e':List kN)(vs':List (List gP))(g':List jT)(h':List Int),
  B 0=0->B i=g.length->e.length=p.b.length->vs.length=i->i<=p.b.length->(∀ (k:Nat)(fn:kN),k < i->e[k]?=some fn->∃ V,vs[k]?=some V/\FW a g V (CY e) k fn (B k) (B (k+1)))->(∀ (k:Nat),i<=k->e[k]?=p.b[k]?)->(∀ u ∈ a,u.a.length<=4)->
  l8 fu p n i a b c d e vs g h=some (.go (j,a',b',c',d',e',vs',g',h'))->d'=0->aa7 ⟨⟨a',e'⟩,vs',g'⟩
 | 0,_,_,_,_,_,_,_,_,_,_,_,_,_,_,_,_,_,_,_,_,_,_,_,_,_,_,_,h,_=>by cases h
 | n+1,B,i,a,b,c,d,e,vs,g,h,j,a',b',c',d',e',vs',g',h',hB0,hBi,h1,h2,h3,h4,h5,h6,hm,hd=>by
  have hlen:=hp.e;rw [l8] at hm;rcases jH hm with ⟨hi,hm⟩|⟨hi,hm⟩
  · rcases jH hm with ⟨he,hm⟩|⟨he,hm⟩
    · obtain ⟨r,hr,hm⟩:=bs hm;obtain ⟨_,rfl⟩:=qy hr;obtain ⟨fn,hfn,hm⟩:=bs hm;rw [tq] at hfn;obtain ⟨⟨fn',S'⟩,hF,hm⟩:=bs hm;rw [pl] at hm;obtain ⟨q,hq,hm⟩:=bs hm;obtain ⟨w,hw,hm⟩:=bs hm;rw [mo (by omega) (by omega)] at hm;have hwd:Wd ⟨⟨⟨a,e⟩,vs ++ [[]],g⟩,(i:Int),h,c,d⟩ []:=⟨by dsimp only;rw [tq,<-h2,List.getElem?_append_right (Nat.le_refl _),Nat.sub_self];rfl,fun x hx=>by cases hx⟩;by_cases e1:S'.e=0
      · obtain ⟨V',k1,k2,k3⟩:=Ke hF hwd (hp.el fn (vM hfn)) e1;obtain ⟨q2,hq2,hql,rfl⟩:=sG hw;obtain rfl:i=q2:=by omega
        have hpg:S'.a.a=⟨a,e⟩:=k1.pg;have hPF:S'.a.a.b=e:=by rw [hpg]
        have hPR:S'.a.a.a=a:=by rw [hpg]
        have hei:e[i]?=some fn:=(h5 i (mO _)).trans hfn;have hps:CY (e.set i fn')=CY e:=XE hei k3;have hvl:S'.a.c.length=i+1:=by rw [k1.vl];dsimp only;rw [kr,h2]
        rw [show ((i:Int)+1)=((i+1:Nat):Int) from by omega] at hm;refine LU hp n (fun k=>if k<=i then B k else S'.a.b.length) (i+1) _ _ _ _ _ _ _ _ j a' b' c' d' e' vs' g' h' (by rw [lG (uN _)];exact hB0) (by rw [lD (by omega)]) (by rw [wU,hPF];exact h1) hvl (by omega) (fun k fk hk hfk=>?_) (fun k hk=>?_) (by rw [hPR];exact h6) hm hd
        · rw [hPF] at hfk;rw [hPR,hPF,hps];by_cases hki:k=i
          · subst hki;rw [Bz (by rw [h1];omega)] at hfk;cases hfk;have:=k1.v;dsimp only at this;rw [tq] at this;refine ⟨V',this,?_⟩;rw [lG (mO _),lD (by omega),hBi];exact k2
          · rw [zu (by omega)] at hfk;obtain ⟨V,hV,hW⟩:=h4 k fk (by omega) hfk;have:=k1.vs k (by dsimp only;omega);dsimp only at this;refine ⟨V,by rw [this,AL (ko hV)];exact hV,?_⟩;rw [lG (by omega),lG (by omega)];exact hW.mono k1.k
        · rw [hPF,zu (by omega)];exact h5 k (by omega)
      · exfalso;cases n with
        | zero=>cases hm
        | succ n=>
          rw [l8] at hm;rcases jH hm with ⟨_,hm⟩|⟨_,hm⟩
          · rw [lD e1] at hm;cases hm;exact e1 hd
          · cases hm;exact e1 hd
    · cases hm;exact absurd hd he
  · cases hm;have hi2:i=p.b.length:=by omega
    refine ⟨by dsimp only;omega,⟨B,hB0,by dsimp only;rw [h1,<-hi2];exact hBi,fun k fn hk=>?_⟩,h6⟩;have:=ko hk;exact h4 k fn (by dsimp only at this;omega) hk
theorem Oc {fu:Nat}{p:jV}{o:jR × Int × Int}:∀ (n:Nat)(i:Int)(a:List kg)(b c d:Int)(e:List kN)(vs:List (List gP))(g:List jT)(h:List Int),l8 fu p n i a b c d e vs g h=some (.out o)→False
 | 0,_,_,_,_,_,_,_,_,_,h=>by cases h
 | n+1,_,_,_,_,_,_,_,_,_,h=>by
  rw [l8] at h;rcases jH h with ⟨_,h⟩|⟨_,h⟩
  · rcases jH h with ⟨_,h⟩|⟨_,h⟩
    · obtain ⟨_,_,h⟩:=bs h;obtain ⟨_,_,h⟩:=bs h;obtain ⟨⟨_,_⟩,_,h⟩:=bs h;rw [pl] at h;obtain ⟨_,_,h⟩:=bs h;obtain ⟨_,_,h⟩:=bs h;exact Oc n _ _ _ _ _ _ _ _ _ h
    · cases h
  · cases h
theorem Ta {fu:Nat}{p:jV}:∀ (n:Nat){i:Int}{a:List kg}{b c d:Int}{e:List kN}{vs:List (List gP)}{g:List jT}{h:List Int}{r:Int × List kg × Int × Int × Int × List kN × List (List gP) × List jT × List Int},
  l8 fu p n i a b c d e vs g h=some (.go r)->r.2.2.2.2.1=0->d=0
 | 0,_,_,_,_,_,_,_,_,_,_,h,_=>by cases h
 | n+1,_,_,_,_,_,_,_,_,_,_,h,z=>by
  rw [l8] at h;rcases jH h with ⟨_,h⟩|⟨_,h⟩
  · rcases jH h with ⟨c,h⟩|⟨_,h⟩
    · exact c
    · cases h;exact z
  · cases h;exact z
theorem ZC {fu:Nat}{p:jV}(hf:5002<=fu)(hp:Vl 5000 p){s:jR}{ln:Int}(h:qY fu p=some (s,ln,0)):aa7 s:=by
 unfold qY at h;obtain ⟨r,hr,h⟩:=bs h;obtain ⟨_,rfl⟩:=qy hr;obtain ⟨S,hS,h⟩:=bs h;have hs:=(Ol hf (S:=⟨⟨⟨p.a,[] ++ p.b⟩,[],[]⟩,0,[],0,0⟩) hp.recs hp.fields hp.e).of' hS;obtain ⟨v,hv,h⟩:=bs h;cases v with
 | out o=>exact (Oc _ _ _ _ _ _ _ _ _ _ hv).elim
 | go r=>
  have he:=Ta fu hv;obtain ⟨j,a',b',c',d',e',vs',g',h'⟩:=r;replace h:=gi h;simp only [pl] at h;have ho:=hs.out;rcases jH h with ⟨c,h⟩|⟨c,h⟩
  · cases h;exact absurd rfl c
  · cases h;have h4:=YZ hf hp.recs hp.fields hp.e hS (he (Decidable.not_not.1 c));rw [ho] at hv;exact LU hp fu (fun _=>0) 0 _ _ _ _ _ _ _ _ _ _ _ _ _ _ _ _ _ rfl rfl rfl rfl (uN _) (fun k fn hk=>by omega) (fun k _=>rfl) h4 hv (Decidable.not_not.1 c)
def NV:List Int→List jA→List Int
 | O,[]=>O
 | O,x :: l=>NV (if x.b=1 then O ++ [x.f] else O) l
theorem Qf:∀ {l m:List jA}{O:List Int},NV O (l ++ m)=NV (NV O l) m
 | [],_,_=>rfl
 | x :: l,m,O=>Qf (l:=l)
theorem KZ:∀ {l:List jA}{O:List Int},∃ N,NV O l=O ++ N
 | [],O=>⟨[],(ER _).symm⟩
 | x :: l,O=>by
  unfold NV;split
  · obtain ⟨N,h⟩:=KZ (l:=l) (O:=O ++ [x.f]);exact ⟨[x.f] ++ N,by rw [h,Fh]⟩
  · exact KZ
inductive Sc (V:List gP):List Int→List jA→Nat→Nat→Prop
 | nil {O:List Int} {a:Nat}:Sc V O [] a a
 | cons {O:List Int} {x:jA} {l:List jA} {a c d b:Nat} (id:x.n=a) (vi:um a V 0=O) (bo:Sc V O x.d (a+1) c) (el:Sc V (if x.b=8 then O ++ [x.f] else O) x.h c d) (nx:Sc V (if x.b=1 then O ++ [x.f] else O) l d b):Sc V O (x :: l) a b
theorem Sc.app {V:List gP}{O:List Int}{l m:List jA}{a b c:Nat}(h:Sc V O l a b):Sc V (NV O l) m b c->Sc V O (l ++ m) a c:=by
 induction h with
 | nil=>exact id
 | cons i vi bo el _ _ _ ih=>exact fun k=>.cons i vi bo el (ih k)
theorem Sc.le {V:List gP}{O:List Int}{l:List jA}{a b:Nat}(h:Sc V O l a b):a<=b:=by
 induction h with
 | nil=>exact mO _
 | cons _ _ _ _ _ i1 i2 i3=>omega
structure OS (S:fV)(V:List gP):Prop where
 up:S.b.Pairwise (· < ·)
 lt:∀ j ∈ S.b,0<=j/\j < V.length
 fr:∀ (n:Nat) v,V[n]?=some v->v.e<=S.a.b.length/\((n:Int) ∈ S.b\/v.d < S.a.b.length)
 sl:S.a.b.length<=1000000000
structure Uo (S:fV)(V:List gP)(S':fV)(V':List gP):Prop where
 ln:V.length<=V'.length
 sm:∀ n,n < V.length->V'[n]?=V[n]?
 nw:∀ (n:Nat) v,V.length<=n->V'[n]?=some v->(S.a.b.length:Int) < v.e
 st:S.a.b.length<=S'.a.b.length
 op:∃ N,S'.b=S.b ++ N/\∀ j ∈ N,(V.length:Int)<=j
 os:OS S' V'
theorem Uo.rfl' {S:fV}{V:List gP}(h:OS S V):Uo S V S V:=⟨mO _,fun _ _=>rfl,fun n v h1 h2=>by have:=ko h2;omega,mO _,⟨[],by simp,fun j hj=>(by cases hj)⟩,h⟩
theorem Uo.trans {S S1 S2:fV}{V V1 V2:List gP}(h:Uo S V S1 V1)(k:Uo S1 V1 S2 V2):Uo S V S2 V2:=by
 refine ⟨rE h.ln k.ln,fun n hn=>(k.sm n (Nat.lt_of_lt_of_le hn h.ln)).trans (h.sm n hn),fun n v h1 h2=>?_,rE h.st k.st,?_,k.os⟩
 · by_cases c:n < V1.length
   · rw [k.sm n c] at h2;exact h.nw n v h1 h2
   · have:=k.nw n v (by omega) h2;have:=h.st;omega
 · obtain ⟨N,h1,h2⟩:=h.op;obtain ⟨M,k1,k2⟩:=k.op;refine ⟨N ++ M,by rw [k1,h1,Fh],fun j hj=>?_⟩;rcases pX.1 hj with hj | hj
   · exact h2 j hj
   · have:=k2 j hj;have:=h.ln;omega
structure Fin' (VF V:List gP)(O:List Int)(b:Nat):Prop where
 op:∀ n:Nat,(n:Int) ∈ O->∃ v w,V[n]?=some v/\VF[n]?=some w/\w.e=v.e/\(b:Int)<=w.d+1
 cl:∀ n:Nat,n < V.length->(n:Int) ∉ O->VF[n]?=V[n]?
 nx:∀ (n:Nat) w,V.length<=n->VF[n]?=some w->(b:Int)<=w.e
theorem Uo.new {S S':fV}{V V':List gP}(k:Uo S V S' V')(os:OS S V){n:Nat}(hn:(n:Int) ∈ S'.b)(h:n < V.length):(n:Int) ∈ S.b:=by
 obtain ⟨N,h1,h2⟩:=k.op;rw [h1] at hn;rcases pX.1 hn with hn | hn
 · exact hn
 · have:=h2 _ hn;omega
theorem Fin'.back {VF V V':List gP}{S S':fV}(h:Fin' VF V' S'.b S'.a.b.length)(k:Uo S V S' V')(os:OS S V):Fin' VF V S.b S.a.b.length:=by
 have hst:=k.st;refine ⟨fun n hn=>?_,fun n hn ho=>?_,fun n w hn hw=>?_⟩
 · have hl:=os.lt _ hn;obtain ⟨v,w,h1,h2,h3,h4⟩:=h.op n (by obtain ⟨N,e,_⟩:=k.op;rw [e];exact List.mem_append_left _ hn);rw [k.sm n (by omega)] at h1;exact ⟨v,w,h1,h2,h3,by omega⟩
 · rw [h.cl n (Nat.lt_of_lt_of_le hn k.ln) fun c=>ho (k.new os c hn)];exact k.sm n hn
 · by_cases c:n < V'.length
   · by_cases d:(n:Int) ∈ S'.b
     · obtain ⟨v,w',h1,h2,h3,h4⟩:=h.op n d;rw [hw] at h2;cases h2;have:=k.nw n v hn h1;omega
     · rw [h.cl n c d] at hw;have:=k.nw n w hn hw;omega
   · have:=h.nx n w (by omega) hw;omega
theorem TW {i:Int}:∀ (r:List gP)(k j:Nat)(x:gP),r[j]?=some x→x.e≤i→i≤x.d→((k+j:Nat):Int) ∈ um i r k
 | [],_,_,_,h,_,_=>by simp at h
 | y :: r,k,0,x,h,h1,h2=>by cases h;unfold um;rw [lG ⟨h1,h2⟩];exact .head _
 | y :: r,k,j+1,x,h,h1,h2=>by
  have:=TW r (k+1) j x h h1 h2;unfold um;rw [show k+(j+1)=k+1+j by omega];split
  · exact .tail _ this
  · exact this
theorem Na:∀ {l m:List Int},l.Pairwise (· < ·)→m.Pairwise (· < ·)→(∀ x,x ∈ l ↔ x ∈ m)→l=m
 | [],[],_,_,_=>rfl
 | [],y :: m,_,_,h=>by have:=(h y).2 (.head _);cases this
 | x :: l,[],_,_,h=>by have:=(h x).1 (.head _);cases this
 | x :: l,y :: m,h1,h2,h=>by
  obtain ⟨a1,a2⟩:=Bu.1 h1;obtain ⟨b1,b2⟩:=Bu.1 h2;have hxy:x=y:=by
    rcases oM.1 ((h x).1 (.head _)) with c | c
    · exact c
    · rcases oM.1 ((h y).2 (.head _)) with d | d
      · exact d.symm
      · have:=b1 x c;have:=a1 y d;omega
  subst hxy;rw [Na a2 b2 fun z=>⟨fun hz=>?_,fun hz=>?_⟩]
  · rcases oM.1 ((h z).1 (.tail _ hz)) with c | c
    · have:=a1 z hz;omega
    · exact c
  · rcases oM.1 ((h z).2 (.tail _ hz)) with c | c
    · have:=b1 z hz;omega
    · exact c
theorem S9 {VF V V':List gP}{S S':fV}(h:Fin' VF V' S'.b S'.a.b.length)(k:Uo S V S' V')(os:OS S V)(hlt:S.a.b.length < S'.a.b.length):um S.a.b.length VF 0=S.b:=by
 refine Na (TU _ _) os.up fun q=>⟨fun hq=>?_,fun hq=>?_⟩
 · obtain ⟨n,x,rfl,hx,h1,h2⟩:=Ht _ _ hq;rw [DV];by_cases c:n < V'.length
   · by_cases d:(n:Int) ∈ S'.b
     · by_cases g:n < V.length
       · exact k.new os d g
       · obtain ⟨v,w',a1,a2,a3,a4⟩:=h.op n d;rw [hx] at a2;cases a2;have:=k.nw n v (by omega) a1;omega
     · rw [h.cl n c d] at hx;by_cases g:n < V.length
       · rw [k.sm n g] at hx;rcases (os.fr n x hx).2 with a | a
         · exact a
         · omega
       · have:=k.nw n x (by omega) hx;omega
   · have:=h.nx n x (by omega) hx;omega
 · have hl:=os.lt _ hq;obtain ⟨n,rfl⟩:∃ n:Nat,q=n:=⟨q.toNat,by omega⟩;obtain ⟨v,w,h1,h2,h3,h4⟩:=h.op n (by obtain ⟨N,e,_⟩:=k.op;rw [e];exact List.mem_append_left _ hq);rw [k.sm n (by omega)] at h1;have:=(os.fr n v h1).1;have:=TW (i:=S.a.b.length) VF 0 n w h2 (by omega) (by omega)
   rwa [DV] at this
theorem IB {fu:Nat}{S S':fV}{ln j:Int}{v:gP}{V:List gP}(h:nK fu S ln v=some (j,S'))(hw:Wd S V)(e:S'.e=0):j=(V.length:Int)/\S'.f=S.f/\S'.a.b=S.a.b/\S'.b=S.b ++ [(V.length:Int)]/\ix S'.a.c S.f=some (V ++ [v]):=by
 unfold nK at h;obtain ⟨⟨o,c⟩,_,h⟩:=bs h;rw [pl] at h;obtain ⟨t,ht,h⟩:=bs h;rw [hw.v] at ht;cases ht;rcases jH h with ⟨c1,h⟩|⟨c1,h⟩
 · cases h;exact absurd e c1
 rcases jH h with ⟨c2,h⟩|⟨c2,h⟩
 · obtain ⟨d,hd,h⟩:=bs h;cases h;exact absurd e (tY (by decide) hd).2
 rcases jH h with ⟨c3,h⟩|⟨c3,h⟩
 · obtain ⟨d,hd,h⟩:=bs h;cases h;exact absurd e (tY (by decide) hd).2
 obtain ⟨i,hi,h⟩:=bs h;obtain ⟨_,rfl⟩:=qy hi;obtain ⟨op,hop,h⟩:=bs h;obtain ⟨_,rfl⟩:=qy hop;obtain ⟨vs,hvs,h⟩:=bs h;cases h;exact ⟨rfl,rfl,rfl,rfl,(Ug hw hvs).1⟩
theorem OS.decl {S S':fV}{V:List gP}{v:gP}(h:OS S V)(hs:S.a.b.length<=S'.a.b.length)(ho:S'.b=S.b ++ [(V.length:Int)])(hf:v.e<=S'.a.b.length)(hl:S'.a.b.length<=1000000000):OS S' (V ++ [v]):=by
 refine ⟨?_,fun j hj=>?_,fun n x hx=>?_,hl⟩
 · rw [ho];exact List.pairwise_append.2 ⟨h.up,List.pairwise_singleton _ _,fun a ha b hb=>by rw [List.mem_singleton.1 hb];exact (h.lt a ha).2⟩
 · rw [ho] at hj;rw [kr];rcases pX.1 hj with hj | hj
   · have:=h.lt j hj;omega
   · rw [List.mem_singleton.1 hj];omega
 · rw [ho];by_cases c:n < V.length
   · rw [AL c] at hx;obtain ⟨h1,h2⟩:=h.fr n x hx;refine ⟨by omega,?_⟩;rcases h2 with h2 | h2
     · exact .inl (List.mem_append_left _ h2)
     · exact .inr (by omega)
   · have hn:n=V.length:=by have:=ko hx;rw [kr] at this;omega
     subst hn;rw [Du (mO _),Nat.sub_self] at hx;cases hx;exact ⟨hf,.inl (List.mem_append_right _ (.head _))⟩
theorem OS.grow {S S':fV}{V:List gP}(h:OS S V)(hs:S.a.b.length<=S'.a.b.length)(ho:S'.b=S.b)(hl:S'.a.b.length<=1000000000):OS S' V:=
 ⟨by rw [ho];exact h.up,by rw [ho];exact h.lt,fun n x hx=>by
  obtain ⟨h1,h2⟩:=h.fr n x hx;refine ⟨by omega,?_⟩;rw [ho];rcases h2 with h2 | h2
  · exact .inl h2
  · exact .inr (by omega),hl⟩
section
variable {fu:Nat}{f:fV->List jA->Option (List jA × fV)}{g:fV->jA->Option (jA × fV)}
def Yb' (f:fV->List jA->Option (List jA × fV)):Prop:=∀ S l l' S' V,f S l=some (l',S')->Wd S V->OS S V->(∀ y ∈ l,∃ n,DL 5000 n y)->S'.e=0-> ∃ V',ix S'.a.c S.f=some V'/\Uo S V S' V'/\S'.b=S.b/\∀ VF,Fin' VF V' S'.b S'.a.b.length->Sc VF S.b l' S.a.b.length S'.a.b.length
def Ys' (g:fV->jA->Option (jA × fV)):Prop:=∀ S x x' S' V,g S x=some (x',S')->Wd S V->OS S V->(∃ n,DL 5000 n x)->S'.e=0-> ∃ V',ix S'.a.c S.f=some V'/\Uo S V S' V'/\S'.b=(if x'.b=1 then S.b ++ [x'.f] else S.b)/\∀ VF,Fin' VF V' S'.b S'.a.b.length->Sc VF S.b [x'] S.a.b.length S'.a.b.length
theorem Lj (hg:Xs g)(hy:Ys' g){S0:fV}{V0:List gP}:∀ (l:List jA)(k:Nat)(out:List jA)(S:fV)(V:List gP)(o:List jA)(a1:List kg)(a2 a3 a4:Int)(a5:List kN)(a6:List (List gP))(a7:List jT)(a8:List Int),
  S.f=S0.f->Wd S V->Uo S0 V0 S V->S.b=NV S0.b out->(∀ VF,Fin' VF V S.b S.a.b.length->Sc VF S0.b out S0.a.b.length S.a.b.length)->(∀ y ∈ l,∃ n,DL 5000 n y)->
  lF fu f g l k out S.a.a.a S.f S.c S.e S.a.a.b S.a.c S.a.b S.b=some (.go (o,a1,a2,a3,a4,a5,a6,a7,a8))->a4=0->
  ∃ V',Wd ⟨⟨⟨a1,a5⟩,a6,a7⟩,a2,a8,a3,a4⟩ V'/\a2=S0.f/\Uo S0 V0 ⟨⟨⟨a1,a5⟩,a6,a7⟩,a2,a8,a3,a4⟩ V'/\a8=NV S0.b o/\∀ VF,Fin' VF V' a8 a7.length->Sc VF S0.b o S0.a.b.length a7.length
 | [],_,out,S,V,_,_,_,_,_,_,_,_,_,hf,hw,hU,hO,hS,_,h,e=>by cases h;exact ⟨V,hw,hf,hU,hO,hS⟩
 | u :: r,k,out,S,V,o,a1,a2,a3,a4,a5,a6,a7,a8,hf,hw,hU,hO,hS,hl,h,e=>by
  rw [lF] at h;rcases jH h with ⟨c,h⟩|⟨_,h⟩
  · cases h;exact absurd e c
  obtain ⟨⟨x,S1⟩,h1,h⟩:=bs h;rw [pl] at h;obtain ⟨w,hw2,h⟩:=bs h;obtain ⟨_,rfl⟩:=qy hw2;by_cases he:S1.e=0
  · obtain ⟨V1,k1,k2⟩:=hg _ _ _ _ V h1 hw (hl u (.head _)) he;obtain ⟨V1',j1,j2,j3,j4⟩:=hy _ _ _ _ V h1 hw hU.os (hl u (.head _)) he;have hv:=k1.v;rw [j1] at hv;cases hv;refine Lj hg hy r _ _ S1 V1 o a1 a2 a3 a4 a5 a6 a7 a8 (k1.f.trans hf) k1.wd (hU.trans j2) ?_ (fun VF hF=>?_) (fun y hy=>hl y (.tail _ hy)) h e
    · rw [Qf,<-hO,j3];rfl
    · refine (hS VF (hF.back j2 hU.os)).app ?_;rw [<-hO];exact j4 VF hF
  · have:=Bd _ _ _ _ _ _ _ _ _ _ _ _ he h;cases this;exact absurd e he
theorem Kj {c:Int}{d:List jT}{m:Int}(hm:wr ((d.length:Int) - 1)=m):∀ (l:List Int)(k:Nat)(a a':List (List gP))(V:List gP),mX fu f g c d l k a=some (.go a')→ix a c=some V→l.Pairwise (· < ·)→
  ∃ V',ix a' c=some V'/\V'.length=V.length/\(∀ n:Nat,(n:Int) ∉ l->V'[n]?=V[n]?)/\∀ n:Nat,(n:Int) ∈ l->∃ v w,V[n]?=some v/\V'[n]?=some w/\w.e=v.e/\w.d=m
 | [],_,a,a',V,h,hV,_=>by cases h;exact ⟨V,hV,rfl,fun _ _=>rfl,fun n hn=>by cases hn⟩
 | e :: r,k,a,a',V,h,hV,hp=>by
  rw [mX] at h;obtain ⟨t,ht,h⟩:=bs h;rw [hV] at ht;cases ht;obtain ⟨b,hb,h⟩:=bs h;obtain ⟨V1,hV1,h⟩:=bs h;obtain ⟨vs,hvs,h⟩:=bs h;obtain ⟨q,rfl,hql,rfl⟩:=sG hV1;rw [tq] at hb;obtain ⟨p,rfl,hpl,rfl⟩:=sG hvs;obtain ⟨p1,p2⟩:=Bu.1 hp;obtain ⟨V',h1,h2,h3,h4⟩:=Kj hm r _ _ a' _ h (by rw [tq,Bz hpl]) p2;have hq:(q:Int) ∉ r:=fun z=>by have:=p1 _ z;omega
  refine ⟨V',h1,h2.trans wU,fun n hn=>?_,fun n hn=>?_⟩
  · rw [h3 n fun z=>hn (.tail _ z),zu fun z=>hn (by rw [z];exact .head _)]
  · by_cases hnq:n=q
    · subst hnq;exact ⟨b,{ b with d:=wr ((d.length:Int) - 1) },hb,by rw [h3 n hq];exact Bz hql,rfl,hm⟩
    · rcases oM.1 hn with z | z
      · omega
      · obtain ⟨v,w,z1,z2⟩:=h4 n z;rw [zu (fun z=>hnq z.symm)] at z1;exact ⟨v,w,z1,z2⟩
theorem PK {S S1 S2:fV}{V V1 V2:List gP}{O N:List Int}(hO:S.b=O)(os:OS S V)(k:Uo S V S1 V1)(ho:S1.b=O ++ N)(h2:S2.b=O)(hst:S2.a.b=S1.a.b)(hlt:N≠[]->1<=S1.a.b.length)(hl:V2.length=V1.length)(h3:∀ n:Nat,(n:Int) ∉ N->V2[n]?=V1[n]?)(h4:∀ n:Nat,(n:Int) ∈ N->∃ v w,V1[n]?=some v/\V2[n]?=some w/\w.e=v.e/\w.d=(S1.a.b.length:Int) - 1) :Uo S V S2 V2/\∀ VF,Fin' VF V2 O S2.a.b.length->Fin' VF V1 (O ++ N) S1.a.b.length:=by
 have hN:∀ n:Nat,(n:Int) ∈ N->V.length<=n:=fun n hn=>by obtain ⟨N',e,hN'⟩:=k.op;rw [ho,hO] at e;have:=List.append_cancel_left e;subst this;have:=hN' _ hn;omega
 have hs:N.Pairwise (· < ·):=by have:=k.os.up;rw [ho] at this;exact (List.pairwise_append.1 this).2.1
 have hnO:∀ n:Nat,(n:Int) ∈ N->(n:Int) ∉ O:=fun n hn hc=>by have:=os.lt n (by rw [hO];exact hc);have:=hN n hn;omega
 refine ⟨⟨by rw [hl];exact k.ln,fun n hn=>?_,fun n v h1 hv=>?_,by rw [hst];exact k.st,⟨[],by rw [h2,hO];simp,fun j hj=>by cases hj⟩,?_⟩,fun VF hF=>⟨fun n hn=>?_,fun n hn hc=>?_,fun n w hn hw=>?_⟩⟩
 · rw [h3 n fun c=>by have:=hN n c;omega];exact k.sm n hn
 · by_cases c:(n:Int) ∈ N
   · obtain ⟨v',w,a1,a2,a3,_⟩:=h4 n c;rw [hv] at a2;cases a2;have:=k.nw n v' h1 a1;omega
   · rw [h3 n c] at hv;exact k.nw n v h1 hv
 · refine ⟨by rw [h2,<-hO];exact os.up,fun j hj=>?_,fun n v hv=>?_,by rw [hst];exact k.os.sl⟩
   · rw [h2,<-hO] at hj;have:=os.lt j hj;have:=k.ln;omega
   · rw [h2,hst];by_cases c:(n:Int) ∈ N
     · obtain ⟨v',w,a1,a2,a3,a4⟩:=h4 n c;rw [hv] at a2;cases a2;have:=(k.os.fr n v' a1).1;exact ⟨by omega,.inr (by omega)⟩
     · rw [h3 n c] at hv;obtain ⟨b1,b2⟩:=k.os.fr n v hv;refine ⟨b1,?_⟩;rw [ho] at b2;rcases b2 with b2 | b2
       · rcases pX.1 b2 with b2 | b2
         · exact .inl b2
         · exact absurd b2 c
       · exact .inr b2
 · rcases pX.1 hn with hn | hn
   · obtain ⟨v,w,a1,a2⟩:=hF.op n hn;rw [h3 n fun c=>hnO n c hn] at a1;rw [hst] at a2;exact ⟨v,w,a1,a2⟩
   · obtain ⟨v,w,a1,a2,a3,a4⟩:=h4 n hn;have:=hF.cl n (ko a2) (hnO n hn);rw [a2] at this;exact ⟨v,w,a1,this,a3,by omega⟩
 · rw [hF.cl n (by rw [hl];exact hn) fun c=>hc (List.mem_append_left _ c)];exact h3 n fun c=>hc (List.mem_append_right _ c)
 · have:=hF.nx n w (by rw [hl];exact hn) hw;rw [hst] at this;exact this
theorem YO (hg:Xs g)(hy:Ys' g):Yb' (nX fu f g):=by
 intro S l l' S' V h hw hos hl e;unfold nX at h;obtain ⟨v,hv,h⟩:=bs h;cases v with
 | out o=>exact (CU l hv).elim
 | go r=>
 obtain ⟨o,a1,a2,a3,a4,a5,a6,a7,a8⟩:=r;replace h:=gi h;simp only [pl] at h;obtain ⟨rest,hr,h⟩:=bs h;obtain ⟨v2,hv2,h⟩:=bs h;cases v2 with
 | out q=>exact (zH _ _ _ _ hv2).elim
 | go q=>
  replace h:=gi h;obtain ⟨pre,hpre,h⟩:=bs h;obtain ⟨op2,hop,h⟩:=bs h;obtain ⟨_,rfl⟩:=qy hop;cases h;by_cases hS:S.e=0
  · obtain ⟨V1,w1,hf,k1,k2,k3⟩:=Lj hg hy l 0 [] S V _ _ _ _ _ _ _ _ _ rfl hw (.rfl' hos) rfl (fun VF _=>.nil) hl hv e;obtain ⟨N,hN⟩:=KZ (l:=l') (O:=S.b);rw [<-k2] at hN;have hpr:pre=S.b:=by
     obtain ⟨i,j,hi,hj,_,_,rfl⟩:=wX hpre;obtain rfl:i=0:=by omega
     obtain rfl:j=S.b.length:=by omega
     rw [hN];simp
    have hre:rest=N:=by
     obtain ⟨i,j,hi,hj,_,_,rfl⟩:=wX hr;obtain rfl:i=S.b.length:=by omega
     obtain rfl:j=a8.length:=by omega
     rw [hN];simp
    subst hpr hre;have hsl:a7.length<=1000000000:=k1.os.sl;have hNs:rest.Pairwise (· < ·):=by have:=k1.os.up;dsimp only at this;rw [hN] at this;exact (List.pairwise_append.1 this).2.1
    obtain ⟨V2,h1,h2,h3,h4⟩:=Kj (m:=(a7.length:Int) - 1) (by unfold wr;rw [Ru (by omega) (by omega)]) _ _ _ _ V1 hv2 w1.v hNs;obtain ⟨q1,q2⟩:=PK (S2:=⟨⟨⟨a1,a5⟩,q,a7⟩,a2,S.b,a3,a4⟩) rfl hos k1 hN rfl rfl (fun hne=>by
     obtain ⟨j,hj⟩:=List.exists_mem_of_ne_nil _ hne;obtain ⟨N',e2,hN'⟩:=k1.op;dsimp only at e2;rw [hN] at e2;have:=List.append_cancel_left e2;subst this;have:=hN' j hj;have:=k1.os.lt j (by dsimp only;rw [hN];exact List.mem_append_right _ hj);obtain ⟨v,hv⟩:=mF (l:=V1) (k:=j.toNat) (by omega);have b1:=k1.nw j.toNat v (by omega) hv;have b2:=(k1.os.fr j.toNat v hv).1;dsimp only at b1 b2 ⊢;omega) h2 h3 h4
    refine ⟨V2,by dsimp only;rw [hf] at h1;exact h1,by simpa using q1,by simp,fun VF hF=>?_⟩;refine k3 VF ?_;rw [hN];exact q2 VF (by simpa using hF)
  · have:=Bd _ _ _ _ _ _ _ _ _ _ _ _ hS hv;cases this;exact absurd e hS
end
end Go.Proofs.YtdkneekpdecjbaaGreat
