/- What the checker of the specification finds out: statements, functions, sources. -/
import Derived.Test.YtdkneekpdecjbaaGreatZ22
import Derived.Test.YtdkneekpdecjbaaGreatLc
set_option linter.unusedVariables false
set_option linter.unusedSimpArgs false
namespace Go.Proofs.YtdkneekpdecjbaaGreat
open Go.RowKit Go.Fw Go.Proofs.Tryz
def Cu (l:List kV):List Nat:=l.map fun f=>f.a.length
theorem y7 {α:Type}{l:List α}{k:Nat}:ix l (k:Int)=l[k]?:=by unfold Go.Fw.ix;rw [mO (by omega),MV]
theorem Vr.snoc {V:List iA}{v:iA}:Vr V (V ++ [v]):=fun i x h=>⟨x,by rw [JE (kP h)];exact h,rfl,rfl,rfl,rfl⟩
theorem YA {S:fV}{V V':List iA}{vs:List (List iA)}(h:Wd S V)(hs:st S.a.c S.f V'=some vs):ix vs S.f=some V'/\(∀ i:Nat,(i:Int)≠S.f->vs[i]?=S.a.c[i]?)/\vs.length=S.a.c.length:=by obtain ⟨k,hk,hl,rfl⟩:=wh hs;rw [hk];refine ⟨by rw [y7,F4 hl],fun i hi=>?_,zP⟩;rw [E5 (by omega)]
theorem H7 {fu:Nat}{S S':fV}{ln j:Int}{v:iA}{V:List iA}(h:oG fu S ln v=some (j,S'))(hw:Wd S V)(hv:VO S.a.a.a v)(e:S'.e=0):Up S V S' (V ++ [v])/\j=(V.length:Int)/\S'.a.b=S.a.b:=by
 unfold oG at h;obtain ⟨⟨o,c⟩,_,h⟩:=bs h;rw [pl] at h;obtain ⟨t,ht,h⟩:=bs h;rw [hw.v] at ht;cases ht;rcases jN h with ⟨c1,h⟩|⟨c1,h⟩
 · cases h;exact absurd e c1
 rcases jN h with ⟨c2,h⟩|⟨c2,h⟩
 · obtain ⟨d,hd,h⟩:=bs h;cases h;exact absurd e (wo (by decide) hd).2
 rcases jN h with ⟨c3,h⟩|⟨c3,h⟩
 · obtain ⟨d,hd,h⟩:=bs h;cases h;exact absurd e (wo (by decide) hd).2
 obtain ⟨i,hi,h⟩:=bs h;obtain ⟨_,rfl⟩:=vQ hi;obtain ⟨op,_,h⟩:=bs h;obtain ⟨vs,hvs,h⟩:=bs h;cases h;obtain ⟨k1,k2,k3⟩:=YA hw hvs;exact ⟨⟨Decidable.not_not.1 c1,rfl,rfl,Oy,k1,k2,k3,.snoc,ow hw.vo hv⟩,rfl,rfl⟩
theorem Ut {fu:Nat}{S S':fV}{x x':jB}(h:qI fu S x=some (S',x')):Lx S S'/\∃ c,x'=⟨x.c,x.f,x.n,x.b,x.j,x.m,x.g,x.d,x.k,c,x.a,x.e,x.i⟩/\(S'.e=0->ix (Cu S.a.a.b) c=some x.a.length):=by
 unfold qI at h;rcases jN h with ⟨c1,h⟩|⟨_,h⟩
 · cases h;exact ⟨.rfl',x.h,by cases x;rfl,fun z=>absurd z c1⟩
 · obtain ⟨⟨b,d⟩,_,h⟩:=bs h;rw [pl] at h;rcases jN h with ⟨_,h⟩|⟨_,h⟩
   · obtain ⟨q,hq,h⟩:=bs h;cases h;have k:=wo (by decide) hq;exact ⟨k.1,b,rfl,fun z=>absurd z k.2⟩
   · obtain ⟨fn,hfn,h⟩:=bs h;rcases jN h with ⟨_,h⟩|⟨c2,h⟩
     · obtain ⟨q,hq,h⟩:=bs h;cases h;have k:=wo (by decide) hq;exact ⟨k.1,b,rfl,fun z=>absurd z k.2⟩
     · cases h;refine ⟨.rfl',b,rfl,fun _=>?_⟩;obtain ⟨k,rfl,hk⟩:=lq hfn;rw [y7];unfold Cu;rw [AU,hk];exact congrArg some (by dsimp only;omega)
section
variable {fu:Nat}{f:fV->List jB->Option (List jB × fV)}{g:fV->jB->Option (jB × fV)}
def Xb (f:fV->List jB->Option (List jB × fV)):Prop:=∀ S l l' S' V,f S l=some (l',S')->Wd S V->(∀ y ∈ l,∃ n,EC 5000 n y)->S'.e=0->∃ V',Up S V S' V'/\SW S'.a.b V' (Cu S.a.a.b) S.f l' S.a.b.length S'.a.b.length
def Eb (f:fV->List jB->Option (List jB × fV)):Prop:=∀ S l l' S',f S l=some (l',S')->S'.e=0->S.e=0
def Xs (g:fV->jB->Option (jB × fV)):Prop:=∀ S x x' S' V,g S x=some (x',S')->Wd S V->(∃ n,EC 5000 n x)->S'.e=0->∃ V',Up S V S' V'/\SW S'.a.b V' (Cu S.a.a.b) S.f [x'] S.a.b.length S'.a.b.length
abbrev inS (S:fV)(r8:List jU):fV:=⟨⟨S.a.a,S.a.c,r8⟩,S.f,S.b,S.c,S.e⟩
theorem abI {S:fV}{x:jB}{r8:List jU}{v:Ld (Int × Int × Int) (jB × fV)}(h8:x.m<=8)(h:qM fu f g S x r8=some v) :(∃ k c n,v=.go (k,c,n)/\∀ nm p a b,VO S.a.a.a ⟨nm,k,c,n,p,a,b⟩)\/∃ y S',v=.out (y,S')/\S'.e≠0:=by
 unfold qM at h;rcases jN h with ⟨c,h⟩|⟨_,h⟩
 · cases h;exact .inl ⟨_,_,_,rfl,fun _ _ _ _=>.inr (.inr ⟨rfl,c,h8⟩)⟩
 · rcases jN h with ⟨_,h⟩|⟨_,h⟩
   · obtain ⟨⟨c,d⟩,_,h⟩:=bs h;rw [pl] at h;rcases jN h with ⟨_,h⟩|⟨_,h⟩
     · obtain ⟨q,hq,h⟩:=bs h;cases h;exact .inr ⟨_,_,rfl,(wo (by decide) hq).2⟩
     · obtain ⟨r,hr,h⟩:=bs h;cases h;exact .inl ⟨_,_,_,rfl,fun _ _ _ _=>.inr (.inl ⟨rfl,r,hr,rfl⟩)⟩
   · cases h;exact .inl ⟨_,_,_,rfl,fun _ _ _ _=>.inl ⟨rfl,rfl⟩⟩
theorem YQ {S:fV}{x:jB}{r8:List jU}{x':jB}{S':fV}{V:List iA}(h8:x.m<=8)(h:oH fu f g S x r8=some (.out (x',S')))(hw:Wd (inS S r8) V)(e:S'.e=0) :x.c=1/\∃ V' v,Up (inS S r8) V S' V'/\x'=⟨x.c,x.f,(S.a.b.length:Int),x.b,x.j,x.m,v,x.d,x.k,x.h,x.a,x.e,x.i⟩/\S'.a.b=r8/\∃ q,ix V' v=some q:=by
 unfold oH at h;rcases jN h with ⟨hk,h⟩|⟨_,h⟩
 · obtain ⟨v,hv,h⟩:=bs h;rcases abI h8 hv with ⟨k,c,n,rfl,hvo⟩|⟨y,S2,rfl,h2⟩
   · replace h:=gi h;simp only [pl] at h;obtain ⟨⟨j,k⟩,hd,h⟩:=bs h;rw [pl] at h;cases h;obtain ⟨k1,rfl,k3⟩:=H7 hd hw (hvo _ _ _ _) e;exact ⟨hk,_,_,k1,rfl,k3,_,by rw [y7,IK (nJ _),Nat.sub_self];rfl⟩
   · cases h;exact absurd e h2
 · rcases jN h with ⟨_,h⟩|⟨_,h⟩
   · rcases jN h with ⟨_,h⟩|⟨_,h⟩
     · obtain ⟨_,_,h⟩:=bs h;rcases jN h with ⟨_,h⟩|⟨_,h⟩
       · obtain ⟨_,_,h⟩:=bs h;cases h
       · cases h
     · cases h
   · cases h
theorem abb {S:fV}{x:jB}{r8:List jU}{a1:List kr}{a2 a3 a4:Int}{a5:List kV}{a6:List (List iA)}{a7:List jU}{a8:List Int}(h1:x.d.length<=1)(h8:x.m<=8)(h:oH fu f g S x r8=some (.go (a1,a2,a3,a4,a5,a6,a7,a8))):Lx (inS S r8) ⟨⟨⟨a1,a5⟩,a6,a7⟩,a2,a8,a3,a4⟩/\x.c≠1/\(a4=0->x.c=3->∀ y ∈ x.d,y.e=1):=by
 unfold oH at h;rcases jN h with ⟨hk,h⟩|⟨hk,h⟩
 · obtain ⟨v,hv,h⟩:=bs h;rcases abI h8 hv with ⟨k,c,n,rfl,hvo⟩|⟨y,S2,rfl,h2⟩
   · replace h:=gi h;simp only [pl] at h;obtain ⟨⟨j,k⟩,hd,h⟩:=bs h;rw [pl] at h;cases h
   · cases h
 · rcases jN h with ⟨hk3,h⟩|⟨hk3,h⟩
   · rcases jN h with ⟨ht,h⟩|⟨ht,h⟩
     · obtain ⟨t,ht2,h⟩:=bs h;rcases jN h with ⟨_,h⟩|⟨hop,h⟩
       · obtain ⟨q,hq,h⟩:=bs h;cases h;have k:=wo (by decide) hq;exact ⟨k.1,hk,fun z=>absurd z k.2⟩
       · cases h;refine ⟨.rfl',hk,fun _ _ y hy=>?_⟩;obtain ⟨i,hi⟩:=Tz hy;have:=kP hi;obtain rfl:i=0:=by omega
         rw [show (0:Int)=((0:Nat):Int) from rfl,y7,hi] at ht2;cases ht2;exact Decidable.not_not.1 hop
     · cases h;exact ⟨.rfl',hk,fun _ _ y hy=>by
         have:=List.length_pos_of_mem hy;omega⟩
   · cases h;exact ⟨.rfl',hk,fun _ z=>absurd z hk3⟩
theorem adJ {v:Int}{S:fV}{V:List iA}{A:List (List iA)}(hw:Wd S V)(h:qN fu f g v S=some (.go A))(e:S.e=0):∃ V',Up S V ⟨⟨S.a.a,A,S.a.b⟩,S.f,S.b,S.c,S.e⟩ V':=by
 unfold qN at h;rcases jN h with ⟨_,h⟩|⟨c,h⟩
 · obtain ⟨t,ht,h⟩:=bs h;rw [hw.v] at ht;cases ht;obtain ⟨b,hb,h⟩:=bs h;obtain ⟨V',hV',h⟩:=bs h;obtain ⟨vs,hvs,h⟩:=bs h;cases h;obtain ⟨k,rfl,hkl,rfl⟩:=wh hV';rw [y7] at hb;obtain ⟨k1,k2,k3⟩:=YA hw hvs;refine ⟨_,e,rfl,rfl,Oy,k1,k2,k3,fun i x hx=>?_,fun x hx=>?_⟩
   · by_cases hik:i=k
     · subst hik;rw [hb] at hx;cases hx;exact ⟨_,F4 hkl,rfl,rfl,rfl,rfl⟩
     · exact ⟨x,by rw [E5 (by omega)];exact hx,rfl,rfl,rfl,rfl⟩
   · rcases JO hx with hx | rfl
     · exact hw.vo x hx
     · have:=hw.vo b (zn hb);exact this
 · exact absurd e c
theorem DW:∀ (l:List jB)(k:Nat)(out:List jB)(a1:List kr)(a2 a3 a4:Int)(a5:List kV)(a6:List (List iA))(a7:List jU)(a8:List Int)(v:Ld (List jB × List kr × Int × Int × Int × List kV × List (List iA) × List jU × List Int) (List jB × fV)),
  a4≠0->lJ fu f g l k out a1 a2 a3 a4 a5 a6 a7 a8=some v->v=.go (out,a1,a2,a3,a4,a5,a6,a7,a8)
 | [],_,_,_,_,_,_,_,_,_,_,v,_,h=>by cases h;rfl
 | u :: r,_,_,_,_,_,_,_,_,_,_,v,he,h=>by rw [lJ,mF he] at h;cases h;rfl
theorem I5 (hg:Xs g){S0:fV}{V0:List iA}:∀ (l:List jB)(k:Nat)(out:List jB)(S:fV)(V:List iA)(o:List jB)(a1:List kr)(a2 a3 a4:Int)(a5:List kV)(a6:List (List iA))(a7:List jU)(a8:List Int),
  Up S0 V0 S V->SW S.a.b V (Cu S0.a.a.b) S0.f out S0.a.b.length S.a.b.length->(∀ y ∈ l,∃ n,EC 5000 n y)->
  lJ fu f g l k out S.a.a.a S.f S.c S.e S.a.a.b S.a.c S.a.b S.b=some (.go (o,a1,a2,a3,a4,a5,a6,a7,a8))->a4=0->
  ∃ V',Up S0 V0 ⟨⟨⟨a1,a5⟩,a6,a7⟩,a2,a8,a3,a4⟩ V'/\SW a7 V' (Cu S0.a.a.b) S0.f o S0.a.b.length a7.length
 | [],_,out,S,V,_,_,_,_,_,_,_,_,_,hU,hW,_,h,e=>by cases h;exact ⟨V,hU,hW⟩
 | u :: r,k,out,S,V,o,a1,a2,a3,a4,a5,a6,a7,a8,hU,hW,hl,h,e=>by
  rw [lJ] at h;rcases jN h with ⟨c,h⟩|⟨_,h⟩
  · cases h;exact absurd e c
  obtain ⟨⟨x,S1⟩,h1,h⟩:=bs h;rw [pl] at h;obtain ⟨w,hw,h⟩:=bs h;obtain ⟨_,rfl⟩:=vQ hw;by_cases he:S1.e=0
  · obtain ⟨V1,k1,k2⟩:=hg _ _ _ _ V h1 hU.wd (hl u (.head _)) he;rw [hU.pg,hU.f] at k2;exact I5 hg r _ _ S1 V1 o a1 a2 a3 a4 a5 a6 a7 a8 (hU.trans k1) ((hW.mono k1.k k1.vr).app k2) (fun y hy=>hl y (.tail _ hy)) h e
  · have:=DW _ _ _ _ _ _ _ _ _ _ _ _ he h;cases this;exact absurd e he
theorem JH {c:Int}{d:List jU}{R:List kr}:∀ (l:List Int)(k:Nat)(a a':List (List iA))(V:List iA),nM fu f g c d l k a=some (.go a')→ix a c=some V→(∀ x ∈ V,VO R x)→
  ∃ V',ix a' c=some V'/\Vr V V'/\(∀ x ∈ V',VO R x)/\(∀ i:Nat,(i:Int)≠c->a'[i]?=a[i]?)/\a'.length=a.length
 | [],_,a,a',V,h,hV,ho=>by cases h;exact ⟨V,hV,.rfl',ho,fun _ _=>rfl,rfl⟩
 | e :: r,k,a,a',V,h,hV,ho=>by
  rw [nM] at h;obtain ⟨t,ht,h⟩:=bs h;rw [hV] at ht;cases ht;obtain ⟨b,hb,h⟩:=bs h;obtain ⟨V1,hV1,h⟩:=bs h;obtain ⟨vs,hvs,h⟩:=bs h;obtain ⟨q,rfl,hql,rfl⟩:=wh hV1;rw [y7] at hb;obtain ⟨p,rfl,hpl,rfl⟩:=wh hvs;obtain ⟨V',h1,h2,h3,h4,h5⟩:=JH r _ _ a' _ h (by rw [y7,F4 hpl]) (fun x hx=>by
    rcases JO hx with hx | rfl
    · exact ho x hx
    · have:=ho b (zn hb);exact this)
  refine ⟨V',h1,Vr.trans (fun i x hx=>?_) h2,h3,fun i hi=>(h4 i hi).trans (by rw [E5 (by omega)]),h5.trans zP⟩;by_cases hik:i=q
  · subst hik;rw [hb] at hx;cases hx;exact ⟨_,F4 hql,rfl,rfl,rfl,rfl⟩
  · exact ⟨x,by rw [E5 (by omega)];exact hx,rfl,rfl,rfl,rfl⟩
theorem Ef:∀ (l:List jB){k:Nat}{out:List jB}{a1:List kr}{a2 a3 a4:Int}{a5:List kV}{a6:List (List iA)}{a7:List jU}{a8:List Int}{o:List jB × fV},lJ fu f g l k out a1 a2 a3 a4 a5 a6 a7 a8=some (.out o)→False
 | [],_,_,_,_,_,_,_,_,_,_,_,h=>by cases h
 | u :: r,_,_,_,_,_,_,_,_,_,_,_,h=>by
  rw [lJ] at h;rcases jN h with ⟨c,h⟩|⟨_,h⟩
  · cases h
  obtain ⟨⟨x,S1⟩,h1,h⟩:=bs h;rw [pl] at h;obtain ⟨w,hw,h⟩:=bs h;exact Ef r h
theorem WV (hg:Xs g):Xb (oq fu f g):=by
 intro S l l' S' V h hw hl e;unfold oq at h;obtain ⟨v,hv,h⟩:=bs h;cases v with
 | out o=>
  have hd:=Ef l hv;exact hd.elim
 | go r=>
 obtain ⟨o,a1,a2,a3,a4,a5,a6,a7,a8⟩:=r;replace h:=gi h;simp only [pl] at h;obtain ⟨_,_,h⟩:=bs h;obtain ⟨v2,hv2,h⟩:=bs h;cases v2 with
 | out q=>exact (BI _ _ _ _ hv2).elim
 | go q=>
  replace h:=gi h;obtain ⟨_,_,h⟩:=bs h;obtain ⟨_,_,h⟩:=bs h;cases h;by_cases hS:S.e=0
  · obtain ⟨V1,k1,k2⟩:=I5 hg l 0 [] S V _ _ _ _ _ _ _ _ _ (.rfl' hw hS) .nil hl hv e;have hf:a2=S.f:=k1.f;obtain ⟨V2,h1,h2,h3,h4,h5⟩:=JH (R:=S.a.a.a) _ _ _ _ V1 hv2 (by rw [hf];exact k1.v) k1.vo;refine ⟨V2,⟨hS,hf,k1.pg,k1.k,by rw [<-hf];exact h1,fun i hi=>(h4 i (by rw [hf];exact hi)).trans (k1.vs i hi),h5.trans k1.vl,k1.vr.trans h2,h3⟩,k2.mono Oy h2⟩
  · have:=DW _ _ _ _ _ _ _ _ _ _ _ _ hS hv;cases this;exact absurd e hS
theorem Xg:Eb (oq fu f g):=by
 intro S l l' S' h e;unfold oq at h;obtain ⟨v,hv,h⟩:=bs h;cases v with
 | out o=>exact (Ef l hv).elim
 | go r=>
 obtain ⟨o,a1,a2,a3,a4,a5,a6,a7,a8⟩:=r;replace h:=gi h;simp only [pl] at h;obtain ⟨_,_,h⟩:=bs h;obtain ⟨v2,hv2,h⟩:=bs h;cases v2 with
 | out q=>exact (BI _ _ _ _ hv2).elim
 | go q=>
  replace h:=gi h;obtain ⟨_,_,h⟩:=bs h;obtain ⟨_,_,h⟩:=bs h;cases h;refine Classical.byContradiction fun hS=>?_;have:=DW _ _ _ _ _ _ _ _ _ _ _ _ hS hv;cases this;exact hS e
theorem adM (hE:Eb f)(hf:Xb f){h' c j:Int}{d k:ByteArray}{l:Int}{m:List jA}{p:ByteArray}{t:Int}{u:List jB}{v:List jA}{w:List jB}{S:fV}{V:List iA}(hw:Wd S V)(hl:∀ y ∈ u,∃ n,EC 5000 n y){r:Ld Unit (jB × fV)}(h:pW fu f g h' c j d k l m p t u v w S=some r) :(r=.go ()/\(S.e=0->h'≠8))\/∃ i z S',r=.out (⟨h',c,j,d,k,l,i,m,p,t,v,w,z⟩,S')/\h'=8/\(S'.e=0->∃ V',Up S V S' V'/\SW S'.a.b V' (Cu S.a.a.b) S.f z S.a.b.length S'.a.b.length/\∃ q,ix V' i=some q/\q.c=1/\q.f=(S.a.b.length:Int)):=by
 unfold pW at h;rcases jN h with ⟨h8,h⟩|⟨h8,h⟩
 · rcases jN h with ⟨he,h⟩|⟨he,h⟩
   · obtain ⟨B,_,h⟩:=bs h;obtain ⟨⟨i,S1⟩,hd,h⟩:=bs h;rw [pl] at h;obtain ⟨⟨z,S2⟩,hz,h⟩:=bs h;rw [pl] at h;obtain ⟨q,hq,h⟩:=bs h;cases q with
     | out o=>exact (acg hq).elim
     | go A=>
      replace h:=gi h;cases h;refine .inr ⟨_,_,_,rfl,h8,fun e=>?_⟩;have e2:S2.e=0:=e;by_cases e1:S1.e=0
      · obtain ⟨k1,rfl,k3⟩:=H7 hd hw (.inl ⟨rfl,rfl⟩) e1;obtain ⟨V2,k4,k5⟩:=hf _ _ _ _ _ hz k1.wd hl e2;obtain ⟨V3,k6⟩:=adJ k4.wd hq e2;have k7:Up S V ⟨⟨S2.a.a,A,S2.a.b⟩,S2.f,B,S2.c,S2.e⟩ V3:=by have:=(k1.trans k4).trans k6;exact ⟨this.e,this.f,this.pg,this.k,this.v,this.vs,this.vl,this.vr,this.vo⟩
        rw [k1.pg,k1.f,k3] at k5;refine ⟨V3,k7,k5.mono Oy k6.vr,?_⟩;obtain ⟨q',hq',a1,a2,a3,a4⟩:=RY (k4.vr.trans k6.vr) (i:=(V.length:Int)) (v:=⟨d,1,-1,1,false,(S.a.b.length:Int),0⟩) (by rw [y7,IK (nJ _),Nat.sub_self];rfl);exact ⟨q',hq',a1,a4⟩
      · exact absurd (hE _ _ _ _ hz e2) e1
   · cases h;exact .inl ⟨rfl,fun z=>absurd z he⟩
 · cases h;exact .inl ⟨rfl,fun _=>h8⟩
theorem adV {z:fV}{x:jB}{T:List jA}{S:fV}{V:List iA}(hw:Wd S V){v:Ld (List kr × Int × Int × Int × List kV × List (List iA) × List jU × List Int × Int × Int × Int × ByteArray × ByteArray × Int × Int × List jA × ByteArray × Int × List jA × List jB × List jB) (jB × fV)}(h:qL fu f g z x T S=some v) :∃ S1 cl,v=.go (S1.a.a.a,S1.f,S1.c,S1.e,S1.a.a.b,S1.a.c,S1.a.b,S1.b,x.c,x.f,(z.a.b.length:Int),x.b,x.j,x.m,x.g,T,x.k,cl,x.a,x.e,x.i)/\Lx S S1/\(S1.e=0->x.k≠be->ix (Cu S.a.a.b) cl=some x.a.length):=by
 unfold qL at h;rcases jN h with ⟨_,h⟩|⟨c,h⟩
 · obtain ⟨⟨S1,a⟩,ha,h⟩:=bs h;rw [pl] at h;obtain ⟨k1,cc,rfl,k2⟩:=Ut ha;cases h;exact ⟨S1,cc,rfl,k1,fun z _=>k2 z⟩
 · cases h;exact ⟨S,x.h,rfl,.rfl',fun _ z=>absurd (Decidable.not_not.1 c) z⟩
theorem aai (hE:Eb f)(hf:Xb f):Xs (tO fu f g):=by
 intro S x x' S' V h hw ⟨n,hx⟩ e;cases n with
 | zero=>exact hx.elim
 | succ n=>
 obtain ⟨h1,h2,h3,h4,hsh⟩:=hx;have hbo:∀ y ∈ x.e,∃ n,EC 5000 n y:=fun y hy=>⟨n,h3.2 y hy⟩;have hel:∀ y ∈ x.i,∃ n,EC 5000 n y:=fun y hy=>⟨n,h4.2 y hy⟩;unfold tO at h;rcases jN h with ⟨_,h⟩|⟨_,h⟩
 · obtain ⟨q,hq,h⟩:=bs h;cases h;exact absurd e (wo (by decide) hq).2
 obtain ⟨r8,hr8,h⟩:=bs h;obtain ⟨_,rfl⟩:=vQ hr8;have hw8:Wd (inS S (S.a.b ++ [⟨S.f,x.c,x.f⟩])) V:=⟨hw.v,hw.vo⟩;have hup:∀ {S2:fV}{V2:List iA},Up (inS S (S.a.b ++ [⟨S.f,x.c,x.f⟩])) V S2 V2->Up S V S2 V2:=fun k=>⟨k.e,k.f,k.pg,(List.prefix_append _ _).trans k.k,k.v,k.vs,k.vl,k.vr,k.vo⟩;have hk8:∀ {K:List jU},S.a.b ++ [⟨S.f,x.c,x.f⟩] <+: K->K[S.a.b.length]?=some ⟨S.f,x.c,x.f⟩:=fun hK=>by obtain ⟨t,rfl⟩:=hK;rw [GD,IK (nJ _),Nat.sub_self];rfl
 obtain ⟨v,hv,h⟩:=bs h;cases v with
 | out o=>
   cases h;obtain ⟨hk,V',q,k1,rfl,k2,q',hq'⟩:=YQ hsh.len hv hw8 e;obtain ⟨t1,t2,t3,t4,t5⟩:=hsh.decl hk;refine ⟨V',hup k1,.cons rfl ?_ ?_ ?_ (fun _=>⟨q',hq'⟩) (fun z=>?_) (fun z=>?_) (fun y z=>?_) (c:=S.a.b.length+1) (d:=S.a.b.length+1) ?_ ?_ ?_⟩
   · rw [k2];exact hk8 Oy
   · dsimp only;rw [t1];intro y hy;cases hy
   · dsimp only;rw [t2];intro y hy;cases hy
   · dsimp only at z;omega
   · dsimp only at z;exact absurd t5 z
   · dsimp only at z;rw [t1] at z;cases z
   · dsimp only;rw [t3];exact .nil
   · dsimp only;rw [t4];exact .nil
   · rw [k2,kY];exact .nil
 | go s=>
   obtain ⟨a1,a2,a3,a4,a5,a6,a7,a8⟩:=s;replace h:=gi h;simp only [pl] at h;obtain ⟨m1,m2,m3⟩:=abb h1.1 hsh.len hv;obtain ⟨⟨T,S1⟩,hT,h⟩:=bs h;rw [pl] at h;obtain ⟨k1,k2,k3⟩:=(NW fu).2 _ _ _ _ _ V hT (m1.wd hw8);obtain ⟨v,hv2,h⟩:=bs h;obtain ⟨S2,cl,rfl,k4,k5⟩:=adV ((m1.trans k1).wd hw8) hv2;replace h:=gi h;simp only [pl] at h;obtain ⟨⟨A,S3⟩,hA,h⟩:=bs h;rw [pl] at h;have m4:=(m1.trans k1).trans k4;obtain ⟨k6,k7,k8⟩:=(NW fu).2 _ _ _ _ _ V hA (m4.wd hw8);have m6:=m4.trans k6;obtain ⟨⟨B,S4⟩,hB,h⟩:=bs h;rw [pl] at h;have hlenA:A.length=x.a.length:=by have:=congrArg List.length k7;rwa [Cw,Cw] at this
   have fin:∀ {V4 V5:List iA}{S5:fV}{Z:List jB}{i:Int},Up S3 V S4 V4→SW S4.a.b V4 (Cu S3.a.a.b) S3.f B S3.a.b.length S4.a.b.length→Up S4 V4 S5 V5→SW S5.a.b V5 (Cu S4.a.a.b) S4.f Z S4.a.b.length S5.a.b.length→(x.c=8→∃ q,ix V5 i=some q∧q.c=1∧q.f=(S4.a.b.length:Int))→
       Up S V S5 V5/\SW S5.a.b V5 (Cu S.a.a.b) S.f [⟨x.c,x.f,(S.a.b.length:Int),x.b,x.j,x.m,i,T,x.k,cl,A,B,Z⟩] S.a.b.length S5.a.b.length:=fun {V4 V5 S5 Z i} n1 n2 n3 n4 n5=>by
     have e3:S3.e=0:=n1.e;have u3:Up S V S3 V:=hup (m6.up hw8 e3);have hst:S3.a.b=S.a.b ++ [⟨S.f,x.c,x.f⟩]:=by rw [m6.out]
     rw [u3.pg,u3.f,hst,kY] at n2;rw [n1.pg,n1.f,u3.pg,u3.f] at n4;have vr:=n1.vr.trans n3.vr;refine ⟨(u3.trans n1).trans n3,.cons rfl (hk8 ?_) (fun y hy=>(k3 (k4.e (k6.e e3)) y hy).mono vr) (fun y hy=>(k8 e3 y hy).mono vr) (fun z=>absurd z m2) n5 (fun z=>?_) (fun y hy=>?_) (n2.mono n3.k n3.vr) n4 .nil⟩
     · rw [<-hst];exact n1.k.trans n3.k
     · have:=k5 (k6.e e3) z;rw [(m1.trans k1).out] at this;rw [hlenA];exact this
     · have hop:=m3 (k1.e (k4.e (k6.e e3)));obtain ⟨q,hq⟩:=Tz hy;have hq2:(T.map jA.e)[q]?=some y.e:=by rw [AU,hq];rfl
       rw [k2,AU] at hq2;cases hq3:x.d[q]? with
       | none=>rw [hq3] at hq2;cases hq2
       | some y0=>
         rw [hq3] at hq2;have:y0.e=y.e:=Od hq2;rw [<-this];have hm:=zn hq3;exact ⟨fun z=>hop z y0 hm,hsh.tops y0 hm⟩
   obtain ⟨v,hv3,h⟩:=bs h;by_cases e4:S4.e=0
   · obtain ⟨V4,n1,n2⟩:=hf _ _ _ _ _ hB (m6.wd hw8) hbo e4;rcases adM hE hf n1.wd hel hv3 with ⟨rfl,h8⟩|⟨i,z,S5,rfl,h8,hz⟩
     · replace h:=gi h;obtain ⟨⟨E,S5⟩,hE2,h⟩:=bs h;rw [pl] at h;cases h;obtain ⟨V5,n3,n4⟩:=hf _ _ _ _ _ hE2 n1.wd hel e;exact ⟨V5,fin n1 n2 n3 n4 fun z=>absurd z (h8 e4)⟩
     · cases h;obtain ⟨V5,n3,n4,n5⟩:=hz e;exact ⟨V5,fin n1 n2 n3 n4 fun _=>n5⟩
   · exfalso;unfold pW at hv3;have hg2:v=.go ():=by
       rcases jN hv3 with ⟨_,hv3⟩|⟨_,hv3⟩
       · rw [mO e4] at hv3;cases hv3;rfl
       · cases hv3;rfl
     subst hg2;replace h:=gi h;obtain ⟨⟨E,S5⟩,hE2,h⟩:=bs h;rw [pl] at h;cases h;exact e4 (hE _ _ _ _ hE2 e)
end
theorem Gy:∀ fu:Nat,Eb (qm fu)∧Xb (qm fu)∧Xs (wX fu)
 | 0=>⟨fun _ _ _ _ h=>(by cases h),fun _ _ _ _ _ h=>(by cases h),fun _ _ _ _ _ h=>(by cases h)⟩
 | fu+1=>⟨Xg,WV (Gy fu).2.2,aai (Gy fu).1 (Gy fu).2.1⟩
theorem Pq {fu:Nat}{m:kV}{S0:fV}{V0:List iA}:∀ (l:List ByteArray)(k:Nat)(S:fV)(V:List iA)(b1:List Int)(b2:List kr)(b3 b4 b5:Int)(b6:List kV)(b7:List (List iA))(b8:List jU),Wd S V→
  lN fu m l k S.b S.a.a.a S.f S.c S.e S.a.a.b S.a.c S.a.b=some (.go (b1,b2,b3,b4,b5,b6,b7,b8))->b5=0->
  ∃ V',Up S V ⟨⟨⟨b2,b6⟩,b7,b8⟩,b3,b1,b4,b5⟩ V'/\b8=S.a.b/\V'.length=V.length+l.length/\∀ (i:Nat)(v:iA),V.length<=i->V'[i]?=some v->v.c=1
 | [],_,S,V,_,_,_,_,_,_,_,_,hw,h,e=>by cases h;exact ⟨V,.rfl' hw e,rfl,rfl,fun i v h1 h2=>by have:=kP h2;omega⟩
 | u :: r,k,S,V,b1,b2,b3,b4,b5,b6,b7,b8,hw,h,e=>by
  rw [lN] at h;obtain ⟨⟨j,S1⟩,h1,h⟩:=bs h;rw [pl] at h;by_cases e1:S1.e=0
  · obtain ⟨k1,_,k3⟩:=H7 h1 hw (.inl ⟨rfl,rfl⟩) e1;obtain ⟨V',k4,k5,k6,k7⟩:=Pq (S0:=S0) (V0:=V0) r _ S1 _ b1 b2 b3 b4 b5 b6 b7 b8 k1.wd h e;refine ⟨V',k1.trans k4,k5.trans k3,by rw [k6,kY,uN];omega,fun i v hi hv=>?_⟩;by_cases hi2:i=V.length
    · subst hi2;obtain ⟨v',h2,a1,_⟩:=k4.vr V.length _ (by rw [IK (nJ _),Nat.sub_self];rfl);rw [hv] at h2;cases h2;exact a1
    · exact k7 i v (by rw [kY];omega) hv
  · exfalso;have hn:∀ (l:List ByteArray)(k:Nat)(S:fV) b1 b2 b3 b4 b5 b6 b7 b8,S.e≠0->lN fu m l k S.b S.a.a.a S.f S.c S.e S.a.a.b S.a.c S.a.b=some (.go (b1,b2,b3,b4,b5,b6,b7,b8))->b5≠0:=fun l=>by
      induction l with
      | nil=>intro k S b1 b2 b3 b4 b5 b6 b7 b8 h1 h2;cases h2;exact h1
      | cons y l ih=>
       intro k S b1 b2 b3 b4 b5 b6 b7 b8 h1 h2;rw [lN] at h2;obtain ⟨⟨j,S2⟩,h3,h2⟩:=bs h2;rw [pl] at h2;refine ih _ S2 _ _ _ _ _ _ _ _ (fun z=>?_) h2;unfold oG at h3;obtain ⟨⟨o,c⟩,_,h3⟩:=bs h3;rw [pl] at h3;obtain ⟨t,ht,h3⟩:=bs h3;rw [mF h1] at h3;cases h3;exact h1 z
    exact hn _ _ _ _ _ _ _ _ _ _ _ e1 h e
theorem O7 {fu:Nat}{S:fV}{R:List kr}:∀ (l:List ByteArray)(k:Nat)(a a':List (List iA))(V:List iA),mg fu S l k a=some (.go a')→ix a S.f=some V→(∀ x ∈ V,VO R x)→
  ∃ V',ix a' S.f=some V'/\Vr V V'/\(∀ x ∈ V',VO R x)/\(∀ i:Nat,(i:Int)≠S.f->a'[i]?=a[i]?)/\a'.length=a.length
 | [],_,a,a',V,h,hV,ho=>by cases h;exact ⟨V,hV,.rfl',ho,fun _ _=>rfl,rfl⟩
 | e :: r,k,a,a',V,h,hV,ho=>by
  rw [mg] at h;obtain ⟨t,ht,h⟩:=bs h;rw [hV] at ht;cases ht;obtain ⟨b,hb,h⟩:=bs h;obtain ⟨V1,hV1,h⟩:=bs h;obtain ⟨vs,hvs,h⟩:=bs h;obtain ⟨q,hq,hql,rfl⟩:=wh hV1;rw [hq,y7] at hb;obtain ⟨p,hp,hpl,rfl⟩:=wh hvs;obtain ⟨V',h1,h2,h3,h4,h5⟩:=O7 r _ _ a' _ h (by rw [hp,y7,F4 hpl]) (fun x hx=>by
    rcases JO hx with hx | rfl
    · exact ho x hx
    · have:=ho b (zn hb);exact this)
  refine ⟨V',h1,Vr.trans (fun i x hx=>?_) h2,h3,fun i hi=>(h4 i hi).trans (by rw [E5 (by omega)]),h5.trans zP⟩;by_cases hik:i=q
  · subst hik;rw [hb] at hx;cases hx;exact ⟨_,F4 hql,rfl,rfl,rfl,rfl⟩
  · exact ⟨x,by rw [E5 (by omega)];exact hx,rfl,rfl,rfl,rfl⟩
def FW (R:List kr)(K:List jU)(V:List iA)(Ps:List Nat)(f:Int)(fn:kV)(a b:Nat):Prop:=(∀ x ∈ V,VO R x)/\SW K V Ps f fn.e a b/\(∀ i:Nat,i < fn.a.length->∃ v,V[i]?=some v/\v.c=1)/\∃ l e,fn.e=l ++ [e]/\e.c=10
theorem FW.mono {R:List kr}{K K':List jU}{V:List iA}{Ps:List Nat}{f:Int}{fn:kV}{a b:Nat}(h:FW R K V Ps f fn a b)(hk:K <+: K'):FW R K' V Ps f fn a b:=by obtain ⟨h1,h2,h3⟩:=h;exact ⟨h1,h2.mono hk .rfl',h3⟩
theorem QH {fu:Nat}{S S':fV}{x x':kV}(h:oP fu S x=some (x',S'))(hw:Wd S [])(hx:X8 5000 x)(e:S'.e=0):∃ V',Up S [] S' V'/\FW S.a.a.a S'.a.b V' (Cu S.a.a.b) S.f x' S.a.b.length S'.a.b.length/\x'.a=x.a:=by
 unfold oP at h;rcases jN h with ⟨_,h⟩|⟨_,h⟩
 · obtain ⟨q,hq,h⟩:=bs h;cases h;exact absurd e (wo (by decide) hq).2
 obtain ⟨v,hv,h⟩:=bs h;cases v with
 | out o=>exact (I8 _ _ _ _ _ _ _ _ _ _ _ hv).elim
 | go s=>
   obtain ⟨a1,a2,a3,a4,a5,a6,a7,a8⟩:=s;replace h:=gi h;simp only [pl] at h;rcases jN h with ⟨c,h⟩|⟨c,h⟩
   · have hw0:Wd ⟨S.a,S.f,[],S.c,S.e⟩ []:=⟨hw.v,hw.vo⟩;obtain ⟨V1,k1,k2,k3,k4⟩:=Pq (S0:=S) (V0:=[]) x.a 0 ⟨S.a,S.f,[],S.c,S.e⟩ [] _ _ _ _ _ _ _ _ hw0 hv c;obtain ⟨⟨t,S2⟩,ht,h⟩:=bs h;rw [pl] at h;obtain ⟨v,hv2,h⟩:=bs h;cases v with
     | out o=>exact (Jw _ _ _ _ hv2).elim
     | go u=>
      replace h:=gi h;cases h;obtain ⟨V2,k5,k6⟩:=(Gy fu).2.1 _ _ _ _ _ ht k1.wd (fun y hy=>⟨10,hx.el y hy⟩) e;have k7:=k1.trans k5;obtain ⟨V3,h1,h2,h3,h4,h5⟩:=O7 (R:=S.a.a.a) _ _ _ _ V2 hv2 (by rw [k7.f];exact k7.v) k7.vo;have hf:S2.f=S.f:=k7.f;rw [hf] at h1 h4;have hp:(Cu a6)=Cu S.a.a.b:=by have:=congrArg jV.b k1.pg;dsimp only at this;rw [this]
      have hf3:a3=S.f:=k1.f;dsimp only at k6;rw [hp,hf3] at k6;refine ⟨V3,⟨k1.e,hf,k7.pg,k7.k,h1,fun i hi=>(h4 i hi).trans (k7.vs i hi),h5.trans k7.vl,k7.vr.trans h2,h3⟩,⟨h3,by have q:=k6.mono Oy h2;rw [k2] at q;exact q,fun i hi=>?_,?_⟩,rfl⟩
      · have hi:i < x.a.length:=hi;obtain ⟨v1,hv1⟩:=mU (l:=V1) (k:=i) (by rw [k3,yQ];omega);obtain ⟨v2,q1,b1,_⟩:=(k5.vr.trans h2) i v1 hv1;exact ⟨v2,q1,b1.trans (k4 i v1 (uS _) hv1)⟩
      · obtain ⟨l,en,hb,hk⟩:=hx.en;have hkk:=XC ht (X8.x hx) e;rw [hb] at hkk;obtain ⟨m,y,h1,h2⟩:=Uv hkk;exact ⟨m,y,h1,h2.trans hk⟩
   · cases h;exact absurd e c
def ZL (s:jW):Prop:=s.c.length=s.a.b.length/\(∃ B:Nat->Nat,B 0=0/\B s.a.b.length=s.b.length/\∀ (k:Nat)(fn:kV),s.a.b[k]?=some fn->∃ V,s.c[k]?=some V/\FW s.a.a s.b V (Cu s.a.b) k fn (B k) (B (k+1)))/\∀ u ∈ s.a.a,u.a.length<=4
theorem Ux {l:List kV}{k:Nat}{fn fn':kV}(h:l[k]?=some fn)(hp:fn'.a=fn.a):Cu (l.set k fn')=Cu l:=by unfold Cu;rw [List.map_set];exact set_self (by rw [AU,h,hp];rfl)
theorem JZ {fu:Nat}{p:jV}(hp:Wz 5000 p):∀ (n:Nat)(B:Nat->Nat)(i:Nat)(a:List kr)(b c d:Int)(e:List kV)(vs:List (List iA))(g:List jU)(h:List Int)(j:Int)(a':List kr)(b' c' d':Int)(e':List kV)(vs':List (List iA))(g':List jU)(h':List Int),
  B 0=0->B i=g.length->e.length=p.b.length->vs.length=i->i<=p.b.length->(∀ (k:Nat)(fn:kV),k < i->e[k]?=some fn->∃ V,vs[k]?=some V/\FW a g V (Cu e) k fn (B k) (B (k+1)))->(∀ (k:Nat),i<=k->e[k]?=p.b[k]?)->(∀ u ∈ a,u.a.length<=4)->
  mJ fu p n i a b c d e vs g h=some (.go (j,a',b',c',d',e',vs',g',h'))->d'=0->ZL ⟨⟨a',e'⟩,vs',g'⟩
 | 0,_,_,_,_,_,_,_,_,_,_,_,_,_,_,_,_,_,_,_,_,_,_,_,_,_,_,_,h,_=>by cases h
 | n+1,B,i,a,b,c,d,e,vs,g,h,j,a',b',c',d',e',vs',g',h',hB0,hBi,h1,h2,h3,h4,h5,h6,hm,hd=>by
  have hlen:=hp.e;rw [mJ] at hm;rcases jN hm with ⟨hi,hm⟩|⟨hi,hm⟩
  · rcases jN hm with ⟨he,hm⟩|⟨he,hm⟩
    · obtain ⟨r,hr,hm⟩:=bs hm;obtain ⟨_,rfl⟩:=vQ hr;obtain ⟨fn,hfn,hm⟩:=bs hm;rw [y7] at hfn;obtain ⟨⟨fn',S'⟩,hF,hm⟩:=bs hm;rw [pl] at hm;obtain ⟨q,hq,hm⟩:=bs hm;obtain ⟨w,hw,hm⟩:=bs hm;rw [lZ (by omega) (by omega)] at hm;have hwd:Wd ⟨⟨⟨a,e⟩,vs ++ [[]],g⟩,(i:Int),h,c,d⟩ []:=⟨by dsimp only;rw [y7,<-h2,List.getElem?_append_right (Nat.le_refl _),Nat.sub_self];rfl,fun x hx=>by cases hx⟩;by_cases e1:S'.e=0
      · obtain ⟨V',k1,k2,k3⟩:=QH hF hwd (hp.el fn (zn hfn)) e1;obtain ⟨q2,hq2,hql,rfl⟩:=wh hw;obtain rfl:i=q2:=by omega
        have hpg:S'.a.a=⟨a,e⟩:=k1.pg;have hPF:S'.a.a.b=e:=by rw [hpg]
        have hPR:S'.a.a.a=a:=by rw [hpg]
        have hei:e[i]?=some fn:=(h5 i (nJ _)).trans hfn;have hps:Cu (e.set i fn')=Cu e:=Ux hei k3;have hvl:S'.a.c.length=i+1:=by rw [k1.vl];dsimp only;rw [kY,h2]
        rw [show ((i:Int)+1)=((i+1:Nat):Int) from by omega] at hm;refine JZ hp n (fun k=>if k<=i then B k else S'.a.b.length) (i+1) _ _ _ _ _ _ _ _ j a' b' c' d' e' vs' g' h' (by rw [mF (uS _)];exact hB0) (by rw [mO (by omega)]) (by rw [zP,hPF];exact h1) hvl (by omega) (fun k fk hk hfk=>?_) (fun k hk=>?_) (by rw [hPR];exact h6) hm hd
        · rw [hPF] at hfk;rw [hPR,hPF,hps];by_cases hki:k=i
          · subst hki;rw [F4 (by rw [h1];omega)] at hfk;cases hfk;have:=k1.v;dsimp only at this;rw [y7] at this;refine ⟨V',this,?_⟩;rw [mF (nJ _),mO (by omega),hBi];exact k2
          · rw [E5 (by omega)] at hfk;obtain ⟨V,hV,hW⟩:=h4 k fk (by omega) hfk;have:=k1.vs k (by dsimp only;omega);dsimp only at this;refine ⟨V,by rw [this,JE (kP hV)];exact hV,?_⟩;rw [mF (by omega),mF (by omega)];exact hW.mono k1.k
        · rw [hPF,E5 (by omega)];exact h5 k (by omega)
      · exfalso;cases n with
        | zero=>cases hm
        | succ n=>
          rw [mJ] at hm;rcases jN hm with ⟨_,hm⟩|⟨_,hm⟩
          · rw [mO e1] at hm;cases hm;exact e1 hd
          · cases hm;exact e1 hd
    · cases hm;exact absurd hd he
  · cases hm;have hi2:i=p.b.length:=by omega
    refine ⟨by dsimp only;omega,⟨B,hB0,by dsimp only;rw [h1,<-hi2];exact hBi,fun k fn hk=>?_⟩,h6⟩;have:=kP hk;exact h4 k fn (by dsimp only at this;omega) hk
theorem Sk {fu:Nat}{p:jV}{o:jW × Int × Int}:∀ (n:Nat)(i:Int)(a:List kr)(b c d:Int)(e:List kV)(vs:List (List iA))(g:List jU)(h:List Int),mJ fu p n i a b c d e vs g h=some (.out o)→False
 | 0,_,_,_,_,_,_,_,_,_,h=>by cases h
 | n+1,_,_,_,_,_,_,_,_,_,h=>by
  rw [mJ] at h;rcases jN h with ⟨_,h⟩|⟨_,h⟩
  · rcases jN h with ⟨_,h⟩|⟨_,h⟩
    · obtain ⟨_,_,h⟩:=bs h;obtain ⟨_,_,h⟩:=bs h;obtain ⟨⟨_,_⟩,_,h⟩:=bs h;rw [pl] at h;obtain ⟨_,_,h⟩:=bs h;obtain ⟨_,_,h⟩:=bs h;exact Sk n _ _ _ _ _ _ _ _ _ h
    · cases h
  · cases h
theorem Qi {fu:Nat}{p:jV}:∀ (n:Nat){i:Int}{a:List kr}{b c d:Int}{e:List kV}{vs:List (List iA)}{g:List jU}{h:List Int}{r:Int × List kr × Int × Int × Int × List kV × List (List iA) × List jU × List Int},
  mJ fu p n i a b c d e vs g h=some (.go r)->r.2.2.2.2.1=0->d=0
 | 0,_,_,_,_,_,_,_,_,_,_,h,_=>by cases h
 | n+1,_,_,_,_,_,_,_,_,_,_,h,z=>by
  rw [mJ] at h;rcases jN h with ⟨_,h⟩|⟨_,h⟩
  · rcases jN h with ⟨c,h⟩|⟨_,h⟩
    · exact c
    · cases h;exact z
  · cases h;exact z
theorem WK {fu:Nat}{p:jV}(hf:5002<=fu)(hp:Wz 5000 p){s:jW}{ln:Int}(h:tC fu p=some (s,ln,0)):ZL s:=by
 unfold tC at h;obtain ⟨r,hr,h⟩:=bs h;obtain ⟨_,rfl⟩:=vQ hr;obtain ⟨S,hS,h⟩:=bs h;have hs:=(RI hf (S:=⟨⟨⟨p.a,[] ++ p.b⟩,[],[]⟩,0,[],0,0⟩) hp.recs hp.fields hp.e).of' hS;obtain ⟨v,hv,h⟩:=bs h;cases v with
 | out o=>exact (Sk _ _ _ _ _ _ _ _ _ _ hv).elim
 | go r=>
  have he:=Qi fu hv;obtain ⟨j,a',b',c',d',e',vs',g',h'⟩:=r;replace h:=gi h;simp only [pl] at h;have ho:=hs.out;rcases jN h with ⟨c,h⟩|⟨c,h⟩
  · cases h;exact absurd rfl c
  · cases h;have h4:=WO hf hp.recs hp.fields hp.e hS (he (Decidable.not_not.1 c));rw [ho] at hv;exact JZ hp fu (fun _=>0) 0 _ _ _ _ _ _ _ _ _ _ _ _ _ _ _ _ _ rfl rfl rfl rfl (uS _) (fun k fn hk=>by omega) (fun k _=>rfl) h4 hv (Decidable.not_not.1 c)
structure TQ (T:jL):Prop where
 lo:0<=T.a
 hi:T.a<=T.l.length
 len:T.l.length<=1000
def GE:Nat→jA→Prop
 | 0,_=>False
 | d+1,x=>(x.b.size<=4/\x.c.size<=4/\0<=x.d/\x.d<=999999999999999999)/\x.a.length<=2/\∀ y ∈ x.a,GE d y
theorem GE.mono:∀ {n m:Nat}{x:jA},GE n x→n≤m→GE m x
 | 0,_,_,h,_=>h.elim
 | n+1,0,_,h,k=>by omega
 | n+1,m+1,x,h,k=>⟨h.1,h.2.1,fun y hy=>GE.mono (h.2.2 y hy) (by omega)⟩
structure MP (M:lM):Prop where
 a:M.a.length=4/\∀ p ∈ M.a,0<=p/\p<=4
 f:0<=M.f/\M.f < M.e/\M.e<=4
 ns:(M.c.length:Int)+M.h<=40/\∀ n ∈ M.c,n.size<=4
 np:(M.d.length:Int)+M.h<=40/\∀ n ∈ M.d,n.size<=4
 na:(M.b.length:Int)+M.h<=40/\∀ n ∈ M.b,n.size<=4
 c:0<=M.g/\M.g+M.h<=22
 l:0<=M.h
theorem abX {fu:Nat}{n k:Int}(h1:1<=k)(h2:k<=1000000000):kS (CP fu n k) (fun v=>0<=v/\v < k):=by
 unfold CP;have e1:n.tmod k < k:=Int.tmod_lt_of_pos n (by omega);have e2:-k < n.tmod k:=by have h:=Int.natAbs_tmod n k;have h3:n.natAbs % k.natAbs < k.natAbs:=Nat.mod_lt _ (by omega);omega
 rw [mO (by omega)];refine .ite (fun c=>.mk ?_) fun c=>.mk ⟨by omega,e1⟩;rw [lZ (by omega) (by omega)];omega
theorem pY {fu:Nat}{T:jL}{k:Int}(h:TQ T)(h1:1<=k)(h2:k<=1000):kS (kE fu T k) (fun r=>jy r fun v T'=>(0<=v/\v < k)/\TQ T'):=by have h3:=h.lo;have h4:=h.hi;have h5:=h.len;unfold kE;refine .ite (fun c=>.mk ⟨⟨wC _,by omega⟩,h⟩) fun c=>?_;rw [lZ (n:=T.a+1) (by omega) (by omega),lZ (n:=T.a+1 - 1) (by omega) (by omega)];refine .bd (.ix (by omega) (by omega)) fun e _=>.bd (abX h1 (by omega)) fun v hv=>.mk ⟨hv,⟨by dsimp only;omega,by dsimp only;omega,h5⟩⟩
theorem ZA {fu:Nat}{T:jL}:kS (Dq fu T) (fun _=>True):=.mk kJ
theorem DL {α:Type}{fu:Nat}{T:jL}{l:List α}{β:Type}{f:α->jL->Option β}{P:β->Prop}(h:TQ T)(h1:1<=l.length)(h2:l.length<=1000)(k:∀ x T',x ∈ l->TQ T'->kS (f x T') P):kS ((kE fu T ((l.length:Nat):Int)).bind fun r=>jy r fun v T'=>(ix l v).bind fun x=>f x T') P:=
 .bp (pY h (by omega) (by omega)) fun v T' hv=>.bd (.ix hv.1.1 hv.1.2) fun x hx=>k x T' (zn hx) hv.2
theorem Um {fu:Nat}{T:jL}(h:TQ T):kS (yw fu T) (fun r=>jy r fun v T'=>(0<=v/\v<=999999999999999999)/\TQ T'):=by unfold yw;refine DL h (by decide) (by decide) fun x T' hx hT=>.mk ⟨?_,hT⟩;revert x;decide
theorem Ev {fu:Nat}{n:Int}(h:0<=n/\n<=999999999999999999):kS (rZ fu n) (fun x=>GE 1 x):=.mk ⟨⟨uS _,uS _,h.1,h.2⟩,uS _,fun y hy=>(by cases hy)⟩
theorem wW {fu:Nat}{n:ByteArray}(h:n.size<=4):kS (nW fu n) (fun x=>GE 1 x):=.mk ⟨⟨h,uS _,(by decide:(0:Int)<=0),(by decide:(0:Int)<=999999999999999999)⟩,uS _,fun y hy=>(by cases hy)⟩
theorem Jf:∀ (l:List Int)(r:ByteArray),(l.foldl (fun r n=>r.push (UInt8.ofNat n.toNat)) r).size=r.size+l.length
 | [],r=>rfl
 | x :: l,r=>by rw [List.foldl_cons,Jf l,ByteArray.size_push,uN];omega
theorem VQ {l:List G5}:(pq l).size=l.length:=by unfold pq Go.Fw.strOf;rw [Jf,Cw];exact Dm _
theorem DY:∀ {d fu:Nat}{n:Int},0≤n→n < 10 ^ d→1≤d→d≤18→d≤fu→kS (rR fu n) (fun s=>s.size≤d)
 | 0,_,_,_,_,h,_,_=>by omega
 | d+1,0,_,_,_,_,_,h=>by omega
 | d+1,fu+1,n,h0,h1,_,h3,h4=>by
  show kS (xI fu (rR fu) n) _;unfold xI;rw [mO (by omega)];refine .ite (fun c=>.mk (by rw [VQ];exact Nat.succ_le_succ (uS _))) fun c=>?_;have hd:1<=d:=by
   rcases d with _ | d
   · omega
   · omega
  have e1:n.tdiv 10=n / 10:=Int.tdiv_eq_ediv_of_nonneg h0;have e2:n.tmod 10=n % 10:=Int.tmod_eq_emod_of_nonneg h0;have e3:n / 10 < 10 ^ d:=by rw [Int.pow_succ] at h1;omega
  have e4:(10:Int) ^ d<=10 ^ 17:=by
   have h5:(10:Nat) ^ d<=10 ^ 17:=Nat.pow_le_pow_right (by decide) (by omega)
   exact_mod_cast h5
  rw [e1,e2,lZ (by omega) (by omega)];refine .bd (DY (d:=d) (by omega) e3 hd (by omega) (by omega)) fun s hs=>?_;refine .bd (DY (d:=1) (by omega) (by omega) (by omega) (by omega) (by omega)) fun t ht=>?_;refine .bd (.cat (by omega)) fun r hr=>.mk ?_;rw [hr,Ei];omega
theorem NK {fu:Nat}{M:lM}{T:jL}(hf:3<=fu)(h0:0<=M.g)(h1:M.g<=30):kS (vB fu M T) (fun r=>jy r fun s M'=>s.size<=4/\M'=⟨M.f,M.e,M.a,M.c,M.d,M.b,M.g+1,M.h⟩):=by unfold vB;rw [lZ (by omega) (by omega)];refine .bd (DY (d:=2) (by omega) (by omega) (by omega) (by omega) (by omega)) fun s hs=>?_;refine .bd (.cat (by have:(⟨#[118]⟩:ByteArray).size=1:=rfl;omega)) fun r hr=>.mk ⟨?_,rfl⟩;have:(⟨#[118]⟩:ByteArray).size=1:=rfl;rw [hr,Ei];omega
def XP (d:Nat)(M:lM)(r:jA × lM × jL):Prop:=jy r fun x r=>jy r fun M' T'=>GE d x/\M'=M/\TQ T'
theorem GE.mk1 {d:Nat}{op:Int}{n f:ByteArray}{y:jA}(h1:n.size<=4)(h2:f.size<=4)(h:GE d y):GE (d+1) ⟨op,0,0,n,f,[y]⟩:=⟨⟨h1,h2,(by decide:(0:Int)<=0),(by decide:(0:Int)<=999999999999999999)⟩,(by decide:1<=2),fun z hz=>by
 simp only [qz,BP,or_false] at hz;subst hz;exact h⟩
theorem GE.mk2 {d:Nat}{op:Int}{n f:ByteArray}{y y':jA}(h1:n.size<=4)(h2:f.size<=4)(h:GE d y)(h':GE d y'):GE (d+1) ⟨op,0,0,n,f,[y,y']⟩:=⟨⟨h1,h2,(by decide:(0:Int)<=0),(by decide:(0:Int)<=999999999999999999)⟩,(by decide:2<=2),fun z hz=>by
 simp only [qz,BP,or_false] at hz;rcases hz with hz | hz <;> subst hz
 · exact h
 · exact h'⟩
theorem GE.mk0 {d:Nat}{op:Int}{n f:ByteArray}(h1:n.size<=4)(h2:f.size<=4):GE (d+1) ⟨op,0,0,n,f,[]⟩:=⟨⟨h1,h2,(by decide:(0:Int)<=0),(by decide:(0:Int)<=999999999999999999)⟩,(by decide:0<=2),fun z hz=>by cases hz⟩
theorem Nc:∀ x ∈ ([(⟨#[120]⟩:ByteArray),(⟨#[121]⟩:ByteArray)]:List ByteArray),x.size<=4:=by intro x hx;simp only [qz,BP,or_false] at hx;rcases hx with rfl | rfl <;> decide
def Z8 (fu:Nat):Prop:=∀ (M:lM)(T:jL)(e:Nat),MP M->TQ T->e<=3->2 * e+3<=fu->kS (mq fu M T (3 - e)) (XP (e+1) M)
def aeb (fu:Nat):Prop:=∀ (M:lM)(T:jL)(e:Nat),MP M->TQ T->e<=2->2 * e+4<=fu->0 < M.b.length->kS (nA fu M T (3 - e)) (XP (e+2) M)
theorem Z8.dn {fu:Nat}(h:Z8 fu){M:lM}{T:jL}{e:Nat}{x:Int}(h1:MP M)(h2:TQ T)(h3:e<=3)(h4:2 * e+3<=fu)(hx:x=3 - e):kS (mq fu M T x) (XP (e+1) M):=by subst hx;exact h M T e h1 h2 h3 h4
theorem Qv:∀ (fu:Nat),Z8 fu∧aeb fu
 | 0=>⟨fun _ _ _ _ _ _ h=>by omega,fun _ _ _ _ _ _ h=>by omega⟩
 | fu+1=>by
  have ih:=Qv fu;constructor
  · intro M T e hM hT he hf;show kS (BJ fu (mq fu) (nA fu) M T _) _;unfold BJ;have n1:=hM.ns;have n2:=hM.np;have n3:=hM.na;have hl:=hM.l;refine .bp (pY hT (by decide) (by decide)) fun k T1 h1=>?_;have hJ0:kS (zC fu (mq fu) (nA fu) (3 - e) k) (pG (fun b=>b=false->1<=e) (fun _=>False)):=by unfold zC;exact .ite (fun c=>.go fun z=>(by cases z)) fun c=>.go fun _=>by omega
    refine .el hJ0 (fun b hb=>?_) fun _ z=>z.elim;refine .ite (fun _=>?_) fun hb0=>?_
    · exact .bp (Um h1.2) fun v T2 h2=>.bd (Ev h2.1) fun x hx=>.mk ⟨hx.mono (by omega),rfl,h2.2⟩
    have he1:1<=e:=hb (by simpa using hb0);have hJ1:kS (zB fu (mq fu) (nA fu) M k) (pG (fun b=>b=true->0 < M.c.length) (fun _=>False)):=by unfold zB;exact .ite (fun c=>.go fun z=>by have:=Dy z;omega) fun c=>.go fun z=>(by cases z)
    refine .el hJ1 (fun b hb=>?_) fun _ z=>z.elim;refine .ite (fun hb0=>?_) fun hb0=>?_
    · have:=hb hb0;exact DL h1.2 (by omega) (by omega) fun s T2 hs h2=>.bd (wW (n1.2 s hs)) fun x hx=>.mk ⟨hx.mono (by omega),rfl,h2⟩
    have hJ2:kS (zi fu (mq fu) (nA fu) M k) (pG (fun b=>b=true->0 < M.d.length) (fun _=>False)):=by unfold zi;exact .ite (fun c=>.go fun z=>by have:=Dy z;omega) fun c=>.go fun z=>(by cases z)
    refine .el hJ2 (fun b hb=>?_) fun _ z=>z.elim;refine .ite (fun hb0=>?_) fun hb0=>?_
    · have:=hb hb0;exact DL h1.2 (by omega) (by omega) fun s T2 hs h2=>.bp (pY h2 (by decide) (by decide)) fun v T3 h3=>.bd (.ix h3.1.1 h3.1.2) fun f hf=>.mk ⟨GE.mk0 (n2.2 s hs) (Nc f (zn hf)),rfl,h3.2⟩
    have hJ3:kS (zo fu (mq fu) (nA fu) M k) (pG (fun b=>b=true->0 < M.b.length) (fun _=>False)):=by unfold zo;exact .ite (fun c=>.go fun z=>by have:=Dy z;omega) fun c=>.go fun z=>(by cases z)
    refine .el hJ3 (fun b hb3=>?_) fun _ z=>z.elim;obtain ⟨e,rfl⟩:∃ e',e=e'+1:=⟨e - 1,by omega⟩;have hw:wr ((3:Int) - ((e+1:Nat):Int)+1)=3 - (e:Int):=by rw [lZ (by omega) (by omega)];omega
    rw [hw];refine .ite (fun hb0=>?_) fun hb0=>?_
    · refine .bp (ih.2 M T1 e hM h1.2 (by omega) (by omega) (hb3 hb0)) fun x r hx=>.pp hx fun M' T' hx=>.mk ?_;exact hx
    refine .ite (fun _=>?_) fun _=>?_
    · refine .bp (pY h1.2 (by decide) (by decide)) fun v T2 h2=>.bp (ih.1 M T2 e hM h2.2 (by omega) (by omega)) fun x r hx=>.pp hx fun M' T' hx=>.mk ⟨?_,hx.2⟩;exact GE.mk1 (uS _) (uS _) hx.1
    · refine .bp (pY h1.2 (by decide) (by decide)) fun v T2 h2=>.bp (ih.1 M T2 e hM h2.2 (by omega) (by omega)) fun x r hx=>.pp hx fun M' T' hx=>?_;obtain ⟨hx1,rfl,hx3⟩:=hx;refine .bp (ih.1 M' T' e hM hx3 (by omega) (by omega)) fun y r hy=>.pp hy fun M2 T3 hy=>.mk ⟨?_,hy.2⟩;exact GE.mk2 (uS _) (uS _) hx1 hy.1
  · intro M T e hM hT he hf ha;show kS (wF fu (mq fu) (nA fu) M T _) _;unfold wF;have n3:=hM.na;have hl:=hM.l;refine DL hT (by omega) (by omega) fun s T1 hs h1=>.bp (pY h1 (by decide) (by decide)) fun v T2 h2=>?_;refine .ite (fun _=>?_) fun _=>?_
    · exact .bp (pY h2.2 (by decide) (by decide)) fun v3 T3 h3=>.bd (Ev ⟨h3.1.1,by have:=h3.1.2;omega⟩) fun x hx=>.mk ⟨GE.mk1 (n3.2 s hs) (uS _) (hx.mono (by omega)),rfl,h3.2⟩
    · exact .bp (ih.1 M T2 e hM h2.2 (by omega) (by omega)) fun x r hx=>.pp hx fun M' T' hx=>.mk ⟨GE.mk1 (n3.2 s hs) (uS _) hx.1,hx.2⟩
theorem Er {fu:Nat}(hf:9<=fu){M:lM}{T:jL}(hM:MP M)(hT:TQ T){d:Int}(h0:0<=d)(h3:d<=3):kS (mq fu M T d) (XP 4 M):=by have h:=(Qv fu).1 M T (3 - d.toNat) hM hT (by omega) (by omega);rw [show (3:Int) - ((3 - d.toNat:Nat):Int)=d from by omega] at h;exact h.imp fun v hv=>⟨hv.1.mono (by omega),hv.2⟩
theorem TD {fu:Nat}(hf:8<=fu){M:lM}{T:jL}(hM:MP M)(hT:TQ T)(ha:0 < M.b.length):kS (nA fu M T 1) (XP 4 M):=(Qv fu).2 M T 2 hM hT (by decide) (by omega) ha
def GS:Nat→jB→Prop
 | 0,_=>False
 | k+1,x=>(x.b.size<=4/\x.j.size<=4/\x.k.size<=4/\0<=x.m/\x.m<=9)/\(x.d.length<=1/\∀ y ∈ x.d,GE 4 y)/\(x.a.length<=4/\∀ y ∈ x.a,GE 4 y)/\(x.e.length<=9/\∀ y ∈ x.e,GS k y)/\(x.i.length<=9/\∀ y ∈ x.i,GS k y)
theorem GS.mono:∀ {n m:Nat}{x:jB},GS n x→n≤m→GS m x
 | 0,_,_,h,_=>h.elim
 | n+1,0,_,h,k=>by omega
 | n+1,m+1,x,h,k=>⟨h.1,h.2.1,h.2.2.1,⟨h.2.2.2.1.1,fun y hy=>GS.mono (h.2.2.2.1.2 y hy) (by omega)⟩,⟨h.2.2.2.2.1,fun y hy=>GS.mono (h.2.2.2.2.2 y hy) (by omega)⟩⟩
theorem GS.mk {j:Nat}{kd ln id len vr ca:Int}{nm ty fn:ByteArray}{tg ar:List jA}{bo el:List jB}(h1:nm.size<=4)(h2:ty.size<=4)(h3:fn.size<=4)(h4:0<=len/\len<=9)(h5:tg.length<=1/\∀ y ∈ tg,GE 4 y)(h6:ar.length<=4/\∀ y ∈ ar,GE 4 y)(h7:bo.length<=9/\∀ y ∈ bo,GS j y)(h8:el.length<=9/\∀ y ∈ el,GS j y):GS (j+1) ⟨kd,ln,id,nm,ty,len,vr,tg,fn,ca,ar,bo,el⟩:=⟨⟨h1,h2,h3,h4.1,h4.2⟩,h5,h6,h7,h8⟩
theorem z9:(0:Int)<=0/\(0:Int)<=9:=by decide
theorem b0:be.size<=4:=uS _
theorem Xq {α:Type}{p:α->Prop}{l:List α}{a b:Nat}(h:l.length<=a/\∀ y ∈ l,p y)(k:a<=b):l.length<=b/\∀ y ∈ l,p y:=⟨rA h.1 k,h.2⟩
structure Mr (M M':lM):Prop where
 f:M'.f=M.f
 fn:M'.e=M.e
 pr:M'.a=M.a
 s:M.c.length<=M'.c.length/\(M'.c.length:Int)+M'.h<=M.c.length+M.h
 p:M.d.length<=M'.d.length/\(M'.d.length:Int)+M'.h<=M.d.length+M.h
 a:M.b.length<=M'.b.length/\(M'.b.length:Int)+M'.h<=M.b.length+M.h
 c:M.g<=M'.g/\M'.g+M'.h<=M.g+M.h
 l:0<=M'.h
 n1:∀ n ∈ M'.c,n.size<=4
 n2:∀ n ∈ M'.d,n.size<=4
 n3:∀ n ∈ M'.b,n.size<=4
theorem Mr.mp {M M':lM}(k:Mr M M')(h:MP M):MP M':=by obtain ⟨a1,a2,a3,a4,a5,a6,a7,a8,a9,a10,a11⟩:=k;obtain ⟨c1,c2,c3,c4,c5,c6,c7⟩:=h;exact ⟨by rw [a3];exact c1,by rw [a1,a2];exact c2,⟨by omega,a9⟩,⟨by omega,a10⟩,⟨by omega,a11⟩,by omega,a8⟩
theorem Mr.rfl' {M:lM}(h:MP M):Mr M M:=⟨rfl,rfl,rfl,⟨nJ _,wC _⟩,⟨nJ _,wC _⟩,⟨nJ _,wC _⟩,⟨wC _,wC _⟩,h.l,h.ns.2,h.np.2,h.na.2⟩
theorem Mr.trans {M M' M2:lM}(k:Mr M M')(j:Mr M' M2):Mr M M2:=by obtain ⟨a1,a2,a3,a4,a5,a6,a7,a8,a9,a10,a11⟩:=k;obtain ⟨c1,c2,c3,c4,c5,c6,c7,c8,c9,c10,c11⟩:=j;exact ⟨c1.trans a1,c2.trans a2,c3.trans a3,by omega,by omega,by omega,by omega,c8,c9,c10,c11⟩
def xS (M:lM):lM:=⟨M.f,M.e,M.a,M.c,M.d,M.b,M.g,M.h - 1⟩
theorem Mr.dn {M:lM}(h:MP M)(h1:0 < M.h):Mr M (xS M):=⟨rfl,rfl,rfl,⟨Nat.le_refl _,by dsimp only [xS];omega⟩,⟨Nat.le_refl _,by dsimp only [xS];omega⟩,⟨Nat.le_refl _,by dsimp only [xS];omega⟩,⟨Int.le_refl _,by dsimp only [xS];omega⟩,by dsimp only [xS];omega,h.ns.2,h.np.2,h.na.2⟩
def SP (b k:Nat)(M:lM)(r:List jB × lM × jL):Prop:=jy r fun l r=>jy r fun M' T'=>(l.length<=b/\∀ y ∈ l,GS k y)/\Mr M M'/\TQ T'
def SX (M:lM)(r:jB × lM × jL):Prop:=jy r fun x r=>jy r fun M' T'=>GS 1 x/\M'=M/\TQ T'
theorem LP:∀ x ∈ ([(⟨#[102]⟩:ByteArray),(⟨#[103]⟩:ByteArray),(⟨#[104]⟩:ByteArray),(⟨#[107]⟩:ByteArray)]:List ByteArray),x.size<=4:=by intro x hx;simp only [qz,BP,or_false] at hx;rcases hx with rfl | rfl | rfl | rfl <;> decide
theorem Mh {fu:Nat}(hf:9≤fu){M:lM}(hM:MP M){k p:Int}(hk:0≤k)(hp:M.a[k.toNat]?=some p)(hp4:p≤4){O:Bool × lM × jL × jB→Prop}:∀ (n i:Nat)(T:jL)(out:List jA),TQ T→p+1≤n+i→(i:Int)≤4→(out.length=i∧∀ y ∈ out,GE 4 y)→1≤n→
  kS (um fu k n i M.f M.e M.a M.g M.h T.l T.a M.c M.d M.b out) (pG (fun r=>jy r fun _ r=>jy r fun f r=>jy r fun fn r=>jy r fun pr r=>jy r fun c r=>jy r fun l r=>jy r fun tl r=>jy r fun ta r=>jy r fun s r=>jy r fun p r=>jy r fun a o=>(⟨f,fn,pr,s,p,a,c,l⟩:lM)=M/\TQ ⟨tl,ta⟩/\o.length<=4/\∀ y ∈ o,GE 4 y) O)
 | 0,_,_,_,_,_,_,_,h=>by omega
 | n+1,i,T,out,hT,hn,hi,ho,_=>by
  rw [um];have hlt:=kP hp;refine .U3 (.ix hk (by omega)) fun e _ he=>?_;rw [hp] at he;cases he;refine .ite (fun c=>?_) fun _=>.go ⟨rfl,hT,by omega,ho.2⟩;refine .bp (Er hf hM hT (by decide) (by decide)) fun x r hx=>.pp hx fun M' T' hx=>?_;obtain ⟨hx1,rfl,hx3⟩:=hx;refine .U3 (.app (by simp only [uN,yQ];omega)) fun r _ hr=>?_;subst hr;refine .bd (.ix (by omega) (by rw [kY];omega)) fun _ _=>.bd (.st ⟨by omega,by rw [kY];omega⟩) fun r hr=>?_;rw [lZ (by omega) (by omega)];refine Mh hf hM hk hp hp4 n (i+1) T' r hx3 (by omega) (by omega) ⟨by rw [hr,zP,kY,ho.1],fun y hy=>?_⟩ (by omega);rw [hr] at hy;rcases JO hy with hy | hy
  · exact ow ho.2 (GE.mk0 (uS _) (uS _)) y hy
  · rw [hy];exact hx1
theorem g_call {fu:Nat}(hf:9<=fu){M:lM}{T:jL}(hM:MP M)(hT:TQ T){x:jB}(hx:GS 1 x)(ha:x.a=[]):kS (yY fu M T x) (fun r=>jy r fun b r=>jy r fun M' r=>jy r fun T' x'=>M'=M/\TQ T'/\GS 1 x'):=by
 unfold yY;obtain ⟨f1,f2,f3⟩:=hM.f;have hJ:kS (zx fu M T x) (pG (fun r=>jy r fun k r=>jy r fun l a=>(0<=k/\k < 4)/\TQ ⟨l,a⟩) (fun r=>jy r fun b r=>jy r fun M' r=>jy r fun T' x'=>M'=M/\TQ T'/\GS 1 x')):=by
  unfold zx;rw [lZ (n:=M.f+1) (by omega) (by omega)];refine .ite (fun c=>?_) fun c=>?_
  · rw [lZ (by omega) (by omega)];refine .bp (pY hT (by omega) (by omega)) fun v T1 h1=>.go ⟨?_,h1.2⟩;rw [lZ (by omega) (by omega)];omega
  · refine .bp (pY hT (by decide) (by decide)) fun v T1 h1=>.ite (fun _=>.out ⟨rfl,h1.2,hx⟩) fun _=>?_;exact .bp (pY h1.2 (by omega) (by omega)) fun v T2 h2=>.go ⟨by omega,h2.2⟩
 refine .el hJ (fun r hr=>.pp hr fun k r hr=>.pp hr fun tl ta hr=>?_) fun o ho=>.mk ho;refine .bd (.ix hr.1.1 hr.1.2) fun fn hfn=>?_;obtain ⟨p,hp⟩:=mU (l:=M.a) (k:=k.toNat) (by rw [hM.a.1];omega);have hp4:=hM.a.2 p (zn hp);rw [ha];refine .el (Mh hf hM hr.1.1 hp hp4.2 (O:=fun _=>False) fu 0 ⟨tl,ta⟩ [] hr.2 (by omega) (by omega) ⟨rfl,fun y hy=>(by cases hy)⟩ (by omega)) (fun r hr=>?_) fun _ z=>z.elim;refine .pp hr fun a1 r hr=>.pp hr fun a1 r hr=>.pp hr fun a1 r hr=>.pp hr fun a1 r hr=>.pp hr fun a1 r hr=>.pp hr fun a1 r hr=>.pp hr fun a1 r hr=>.pp hr fun a1 r hr=>.pp hr fun a1 r hr=>.pp hr fun a1 r hr=>.pp hr fun a1 a2 hr=>.mk ⟨hr.1,hr.2.1,?_⟩;exact GS.mk hx.1.1 hx.1.2.1 (LP fn (zn hfn)) ⟨hx.1.2.2.2.1,hx.1.2.2.2.2⟩ hx.2.1 hr.2.2 hx.2.2.2.1 hx.2.2.2.2
theorem I7 {l:List ByteArray}{x:ByteArray}:((l ++ [x]).length:Int)=l.length+1:=by rw [kY];omega
theorem TF {fu:Nat}(hf:9<=fu){M:lM}{T:jL}(hM:MP M)(hl:0 < M.h)(hT:TQ T):kS (wE fu (xS M) T) (fun r=>jy r fun x r=>jy r fun M' T'=>GS 1 x/\Mr M M'/\TQ T'):=by
 unfold wE;obtain ⟨c1,c2,c3,c4,c5,c6,c7⟩:=hM;refine .bp (NK (M:=xS M) (by omega) c6.1 (by show M.g<=30;omega)) fun s M1 h1=>.bp (pY hT (by decide) (by decide)) fun v T1 h2=>?_;obtain ⟨h1,rfl⟩:=h1;have n1:=c3.1;have n2:=c4.1;have n3:=c5.1;refine .ite (fun _=>?_) fun _=>.ite (fun _=>?_) fun _=>?_
 · refine .bd (.app (by show M.d.length+1<=_;omega)) fun r hr=>.mk ⟨GS.mk h1 (by decide) b0 z9 mY mY mY mY,?_,h2.2⟩;subst hr;exact ⟨rfl,rfl,rfl,⟨Nat.le_refl _,by show _+(M.h - 1)<=_;exact (by dsimp only [xS];omega)⟩,⟨by dsimp only [xS];rw [kY];omega,by dsimp only [xS];rw [I7];omega⟩,⟨Nat.le_refl _,by dsimp only [xS];omega⟩,⟨by dsimp only [xS];omega,by dsimp only [xS];omega⟩,by dsimp only [xS];omega,c3.2,ow c4.2 h1,c5.2⟩
 · refine .bd (.app (by show M.b.length+1<=_;omega)) fun r hr=>.mk ⟨GS.mk h1 b0 b0 (by decide) mY mY mY mY,?_,h2.2⟩;subst hr;exact ⟨rfl,rfl,rfl,⟨Nat.le_refl _,by dsimp only [xS];omega⟩,⟨Nat.le_refl _,by dsimp only [xS];omega⟩,⟨by dsimp only [xS];rw [kY];omega,by dsimp only [xS];rw [I7];omega⟩,⟨by dsimp only [xS];omega,by dsimp only [xS];omega⟩,by dsimp only [xS];omega,c3.2,c4.2,ow c5.2 h1⟩
 · refine .bd (.app (by show M.c.length+1<=_;omega)) fun r hr=>.mk ⟨GS.mk h1 b0 b0 z9 mY mY mY mY,?_,h2.2⟩;subst hr;exact ⟨rfl,rfl,rfl,⟨by dsimp only [xS];rw [kY];omega,by dsimp only [xS];rw [I7];omega⟩,⟨Nat.le_refl _,by dsimp only [xS];omega⟩,⟨Nat.le_refl _,by dsimp only [xS];omega⟩,⟨by dsimp only [xS];omega,by dsimp only [xS];omega⟩,by dsimp only [xS];omega,ow c3.2 h1,c4.2,c5.2⟩
theorem GS.nil {kd:Int}:GS 1 ⟨kd,0,0,be,be,0,0,[],be,0,[],[],[]⟩:=GS.mk b0 b0 b0 z9 mY mY mY mY
theorem Vd {fu:Nat}(hf:9<=fu){M:lM}{T:jL}(hM:MP M)(hT:TQ T):kS (xR fu M T) (SX M):=by
 unfold xR;obtain ⟨n1,m1⟩:=hM.ns;obtain ⟨n2,m2⟩:=hM.np;obtain ⟨n3,m3⟩:=hM.na;have hl:=hM.l;refine .bp (pY hT (by decide) (by decide)) fun k T1 h1=>?_;have hJ0:kS (wR fu M k T1) (pG (fun r=>jy r fun _ r=>jy r fun tl r=>jy r fun ta r=>jy r fun _ r=>jy r fun _ r=>jy r fun _ r=>jy r fun _ r=>jy r fun _ r=>jy r fun _ r=>jy r fun _ r=>jy r fun _ r=>jy r fun _ r=>jy r fun _ r=>jy r fun _ r=>jy r fun _ r=>jy r fun f r=>jy r fun fn r=>jy r fun pr r=>jy r fun c r=>jy r fun l r=>jy r fun s r=>jy r fun p a=>(⟨f,fn,pr,s,p,a,c,l⟩:lM)=M/\TQ ⟨tl,ta⟩) (SX M)):=by unfold wR;refine .ite (fun c=>?_) fun c=>.go ⟨rfl,h1.2⟩;refine .bp (g_call hf hM h1.2 GS.nil rfl) fun b r hr=>.pp hr fun M' r hr=>.pp hr fun T2 x hr=>?_;obtain ⟨rfl,h2,hx⟩:=hr;refine .ite (fun _=>?_) fun _=>.go ⟨rfl,h2⟩;refine .ite (fun c=>?_) fun _=>.out ⟨hx,rfl,h2⟩;refine .bp (pY h2 (by decide) (by decide)) fun v T3 h3=>.ite (fun _=>?_) fun _=>.out ⟨hx,rfl,h3.2⟩;refine DL h3.2 (by omega) (by omega) fun s T4 hs h4=>.bd (wW (m1 s hs)) fun y hy=>.out ⟨?_,rfl,h4⟩;exact GS.mk hx.1.1 hx.1.2.1 hx.1.2.2.1 ⟨hx.1.2.2.2.1,hx.1.2.2.2.2⟩ (len1 (hy.mono (by decide)) (by decide)) hx.2.2.1 hx.2.2.2.1 hx.2.2.2.2
 refine .el hJ0 (fun r hr=>?_) fun o ho=>.mk ho;refine .pp hr fun a1 r hr=>.pp hr fun tl r hr=>.pp hr fun ta r hr=>.pp hr fun a1 r hr=>.pp hr fun a1 r hr=>.pp hr fun a1 r hr=>.pp hr fun a1 r hr=>.pp hr fun a1 r hr=>.pp hr fun a1 r hr=>.pp hr fun a1 r hr=>.pp hr fun a1 r hr=>.pp hr fun a1 r hr=>.pp hr fun a1 r hr=>.pp hr fun a1 r hr=>.pp hr fun a1 r hr=>.pp hr fun a1 r hr=>.pp hr fun a2 r hr=>.pp hr fun a3 r hr=>.pp hr fun a4 r hr=>.pp hr fun a5 r hr=>.pp hr fun a6 r hr=>.pp hr fun a7 a8 hr=>?_;obtain ⟨rfl,hT2⟩:=hr;dsimp only at n1 m1 n2 m2 n3 m3 hl;have hJ1:kS (wS fu k tl ta a1 a2 a3 a4 a5 a6 a7 a8) (pG (fun r=>jy r fun tg r=>jy r fun tl r=>jy r fun ta r=>jy r fun f r=>jy r fun fn r=>jy r fun pr r=>jy r fun c r=>jy r fun l r=>jy r fun s r=>jy r fun p a=>(⟨f,fn,pr,s,p,a,c,l⟩:lM)=⟨a1,a2,a3,a6,a7,a8,a4,a5⟩/\TQ ⟨tl,ta⟩/\tg.length<=1/\∀ y ∈ tg,GE 4 y) (SX ⟨a1,a2,a3,a6,a7,a8,a4,a5⟩)):=by
  unfold wS;have hJ2:kS (wO fu k a7) (pG (fun b=>b=true->0 < a7.length) (SX ⟨a1,a2,a3,a6,a7,a8,a4,a5⟩)):=by unfold wO;exact .ite (fun c=>.go fun z=>by have:=Dy z;omega) fun c=>.go fun z=>(by cases z)
  refine .EF hJ2 fun b hb=>.ite (fun z=>?_) fun _=>?_
  · have:=hb z;exact DL hT2 (by omega) (by omega) fun s T3 hs h3=>.bp (pY h3 (by decide) (by decide)) fun v T4 h4=>.bd (.ix h4.1.1 h4.1.2) fun e he=>.go ⟨rfl,h4.2,len1 (GE.mk0 (m2 s hs) (Nc e (zn he))) (by decide)⟩
  have hJ3:kS (wQ fu k a8) (pG (fun b=>b=true->0 < a8.length) (SX ⟨a1,a2,a3,a6,a7,a8,a4,a5⟩)):=by unfold wQ;exact .ite (fun c=>.go fun z=>by have:=Dy z;omega) fun c=>.go fun z=>(by cases z)
  refine .EF hJ3 fun b hb=>.ite (fun z=>?_) fun _=>.ite (fun c=>?_) fun _=>?_
  · refine .bp (TD (by omega) hM hT2 (hb z)) fun x r hx=>.pp hx fun M' T' hx=>.go ⟨?_,hx.2.2,len1 hx.1 (by decide)⟩;exact hx.2.1
  · exact DL hT2 (by omega) (by omega) fun s T3 hs h3=>.bd (wW (m1 s hs)) fun y hy=>.go ⟨rfl,h3,len1 (hy.mono (by decide)) (by decide)⟩
  · exact .bp (Er hf hM hT2 (by decide) (by decide)) fun x r hx=>.pp hx fun M' T' hx=>.out ⟨GS.mk b0 b0 b0 z9 mY (len1 hx.1 (by decide)) mY mY,hx.2⟩
 refine .el hJ1 (fun r hr=>?_) fun o ho=>.mk ho;refine .pp hr fun tg r hr=>.pp hr fun tl r hr=>.pp hr fun ta r hr=>.pp hr fun b1 r hr=>.pp hr fun b2 r hr=>.pp hr fun b3 r hr=>.pp hr fun b4 r hr=>.pp hr fun b5 r hr=>.pp hr fun b6 r hr=>.pp hr fun b7 b8 hr=>?_;obtain ⟨h1,h2,h3⟩:=hr;rw [h1];exact .bp (Er hf hM h2 (by decide) (by decide)) fun x r hx=>.pp hx fun M' T' hx=>.mk ⟨GS.mk b0 b0 b0 z9 h3 (len1 hx.1 (by decide)) mY mY,hx.2⟩
end Go.Proofs.YtdkneekpdecjbaaGreat
