/- Lemmas. -/
import Derived.Test.YtdkneekpdecjbaaGreatZ15
import Derived.Test.YtdkneekpdecjbaaGreatZ14
set_option linter.all false
namespace Go.Proofs.YtdkneekpdecjbaaGreat
open Go.RowKit Go.Fw Go.Proofs.Tryz
section
variable {fu:Nat}
theorem abS {p:fV}{t:jX}{u:Nat}:∀ (o:Nat){b:Int}{c:List jX}{d h i:Int}{j:List kC}{k:List (List iA)}{l:List jR}{m:List Int}{r:Int × List jX × Int × Int × Int × List kC × List (List iA) × List jR × List Int},
  pR fu p t u o b c d h i j k l m=some (.go r)->r.2.2.2.2.1=0->i=0
 | 0,_,_,_,_,_,_,_,_,_,_,z,_=>by cases z
 | o+1,_,_,_,_,_,_,_,_,_,_,z,e=>by
  rw [pR] at z;obtain ⟨_,z⟩|⟨_,z⟩:=jI z
  · obtain ⟨_,_,z⟩:=bs z;obtain ⟨_,z⟩|⟨_,z⟩:=jI z
    · obtain ⟨_,ha,z⟩:=bs z;exact (sK (by decide) ha).1.e (abS o z e)
    · exact abS o z e
  · cases z;exact e
theorem adI {t:jX}{u:BA}{p:Nat}:∀ (o:Nat){b:Int}{c:List jX}{d h i:Int}{j:List kC}{k:List (List iA)}{l:List jR}{m:List Int}{r:Int × List jX × Int × Int × Int × List kC × List (List iA) × List jR × List Int},
  pO fu t u p o b c d h i j k l m=some (.go r)->r.2.2.2.2.1=0->i=0
 | 0,_,_,_,_,_,_,_,_,_,_,z,_=>by cases z
 | o+1,_,_,_,_,_,_,_,_,_,_,z,e=>by
  rw [pO] at z;obtain ⟨_,z⟩|⟨_,z⟩:=jI z
  · obtain ⟨_,_,z⟩:=bs z;obtain ⟨_,z⟩|⟨_,z⟩:=jI z
    · obtain ⟨_,ha,z⟩:=bs z;exact (sK (by decide) ha).1.e (adI o z e)
    · exact adI o z e
  · cases z;exact e
theorem aas {d:Int}{p:kC}:∀ (o:Nat){b:Int}{h:List jX}{i j k:Int}{c:List kC}{l:List (List iA)}{m:List jR}{q:List Int}{r:Int × List jX × Int × Int × Int × List kC × List (List iA) × List jR × List Int},
  nZ fu d p o b h i j k c l m q=some (.go r)->r.2.2.2.2.1=0->k=0
 | 0,_,_,_,_,_,_,_,_,_,_,z,_=>by cases z
 | o+1,_,_,_,_,_,_,_,_,_,_,z,e=>by
  rw [nZ] at z;obtain ⟨_,z⟩|⟨_,z⟩:=jI z
  · obtain ⟨_,_,z⟩:=bs z;obtain ⟨_,z⟩|⟨_,z⟩:=jI z
    · obtain ⟨_,ha,z⟩:=bs z;exact (sK (by decide) ha).1.e (aas o z e)
    · exact aas o z e
  · cases z;exact e
theorem af5 {B:jX}:∀ (x:List BA){w:Nat}{a:List jX}{b c d:Int}{e:List kC}{f:List (List iA)}{h:List jR}{i:List Int}{r:List jX × Int × Int × Int × List kC × List (List iA) × List jR × List Int},
  pX fu B x w a b c d e f h i=some (.go r)->r.2.2.2.1=0->d=0
 | [],_,_,_,_,_,_,_,_,_,_,z,y=>by cases z;exact y
 | x :: xs,_,_,_,_,_,_,_,_,_,_,z,y=>by
  rw [pX] at z;obtain ⟨v,hv,z⟩:=bs z;cases v with
  | out o=>cases z
  | go s=>
   obtain ⟨a1,a2,a3,a4,a5,a6,a7,a8,a9⟩:=s;replace z:=gi z;simp only [pl] at z;exact adI _ hv (af5 xs z y)
theorem afw {R:fV}:∀ (x:List jX){w:Nat}{a:List jX}{b c d:Int}{e:List kC}{f:List (List iA)}{h:List jR}{i:List Int}{r:List jX × Int × Int × Int × List kC × List (List iA) × List jR × List Int},
  pQ fu R x w a b c d e f h i=some (.go r)->r.2.2.2.1=0->d=0/\∀ u ∈ x,u.a.length<=4
 | [],_,_,_,_,_,_,_,_,_,_,z,y=>by cases z;exact ⟨y,fun u hu=>by cases hu⟩
 | x :: xs,_,_,_,_,d,_,_,_,_,_,z,y=>by
  rw [pQ] at z;obtain ⟨v,hv,z⟩:=bs z;cases v with
  | out o=>cases z
  | go s=>
   obtain ⟨a1,a2,a3,a4,a5,a6,a7,a8⟩:=s;replace z:=gi z;simp only [pl] at z;obtain ⟨v,hv3,z⟩:=bs z;cases v with
   | out o=>cases z
   | go s=>
    obtain ⟨b1,b2,b3,b4,b5,b6,b7,b8,b9⟩:=s;replace z:=gi z;simp only [pl] at z;obtain ⟨v,hv4,z⟩:=bs z;cases v with
    | out o=>cases z
    | go s=>
     obtain ⟨c1,c2,c3,c4,c5,c6,c7,c8⟩:=s;replace z:=gi z;simp only [pl] at z;obtain ⟨k1,k2⟩:=afw xs z y;have k3:=abS _ hv3 (af5 _ hv4 k1);unfold vW at hv;obtain ⟨v,hj,hv⟩:=bs hv;cases v with
     | out o=>cases hv
     | go q=>
      replace hv:=gi hv;obtain ⟨_,hv⟩|⟨c,hv⟩:=jI hv
      · obtain ⟨_,ha,hv⟩:=bs hv;cases hv;exact absurd k3 (sK (by decide) ha).2
      · cases hv;refine ⟨k3,fun u hu=>?_⟩;obtain rfl | hu:=nM.1 hu
        · unfold wh at hj;obtain ⟨_,hj⟩|⟨_,hj⟩:=jI hj
          · cases hj;exact absurd rfl c
          · cases hj;have:¬ (4:Int) < (u.a.length:Int):=fun z=>c (sP z);omega
        · exact k2 u hu
theorem adV {k:List kC}:∀ (o:Nat){a:Int}{c:List jX}{d e f:Int}{b:List kC}{h:List (List iA)}{i:List jR}{j:List Int}{r:Int × List jX × Int × Int × Int × List kC × List (List iA) × List jR × List Int},
  oM fu k o a c d e f b h i j=some (.go r)->r.2.2.2.2.1=0->f=0
 | 0,_,_,_,_,_,_,_,_,_,_,z,_=>by cases z
 | o+1,_,_,_,_,_,_,_,_,_,_,z,y=>by
  rw [oM] at z;obtain ⟨_,z⟩|⟨_,z⟩:=jI z
  · obtain ⟨_,_,z⟩:=bs z;obtain ⟨v,hv,z⟩:=bs z;cases v with
    | out o=>cases z
    | go s=>
     obtain ⟨a1,a2,a3,a4,a5,a6,a7,a8⟩:=s;replace z:=gi z;simp only [pl] at z;obtain ⟨v,hv3,z⟩:=bs z;cases v with
     | out o=>cases z
     | go s=>
      obtain ⟨b1,b2,b3,b4,b5,b6,b7,b8,b9⟩:=s;replace z:=gi z;simp only [pl] at z;have k3:=aas _ hv3 (adV o z y);unfold uJ at hv;obtain ⟨_,hv⟩|⟨c,hv⟩:=jI hv
      · obtain ⟨_,ha,hv⟩:=bs hv;cases hv;exact absurd k3 (sK (by decide) ha).2
      · cases hv;exact k3
  · cases z;exact y
theorem Z8 (hf:5002<=fu){S S':fV}(h1:S.a.a.a.length<=5000)(h2:∀ u ∈ S.a.a.a,u.a.length<=5000)(h3:S.a.a.b.length<=5000)(h:tF fu S=some S')(e:S'.e=0):∀ u ∈ S.a.a.a,u.a.length<=4:=by
 unfold tF at h;obtain ⟨v,hv,h⟩:=bs h;have k0:=(Ej (O:=fun _=>False) hf h1 _ 0 S (by omega) h2 .rfl').of' hv;cases v with
 | out o=>exact k0.elim
 | go s=>
  obtain ⟨a1,a2,a3,a4,a5,a6,a7,a8⟩:=s;replace k0:EN S ⟨⟨⟨a1,a5⟩,a6,a7⟩,a2,a8,a3,a4⟩:=k0;replace h:=gi h;simp only [pl] at h;obtain ⟨v,hv2,h⟩:=bs h;have hfs:a5=S.a.a.b:=congrArg (fun z=>z.a.b) k0.out;cases v with
  | out o=>
   subst hfs;exact ((Eh (O:=fun _=>False) hf h3 fu 0 ⟨⟨⟨a1,_⟩,a6,a7⟩,a2,a8,a3,a4⟩ (vP _) (by omega) (by omega) k0).of' hv2).elim
  | go s=>
   obtain ⟨b1,b2,b3,b4,b5,b6,b7,b8,b9⟩:=s;replace h:=gi h;simp only [pl] at h;cases h;exact (afw _ hv (adV _ hv2 e)).2
end
def zW (l:List kC):List Nat:=l.map fun f=>f.a.length
theorem tX {α:Type}{l:List α}{k:Nat}:ix l (k:Int)=l[k]?:=by unfold Go.Fw.ix;rw [kQ (by omega),ET]
theorem Vr.snoc {V:List iA}{v:iA}:Vr V (V ++ [v]):=fun i x h=>⟨x,by rw [zQ (ku h)];exact h,rfl,rfl,rfl,rfl⟩
theorem U6 {S:fV}{V V':List iA}{vs:List (List iA)}(h:Wd S V)(hs:st S.a.c S.f V'=some vs):ix vs S.f=some V'/\(∀ i:Nat,(i:Int)≠S.f->vs[i]?=S.a.c[i]?)/\vs.length=S.a.c.length:=by obtain ⟨k,hk,hl,rfl⟩:=sQ hs;rw [hk];refine ⟨by rw [tX,DJ hl],fun i hi=>?_,wR⟩;rw [zV (by omega)]
theorem D5 {fu:Nat}{S S':fV}{ln j:Int}{v:iA}{V:List iA}(h:nL fu S ln v=some (j,S'))(hw:Wd S V)(hv:VO S.a.a.a v)(e:S'.e=0):Up S V S' (V ++ [v])/\j=(V.length:Int)/\S'.a.b=S.a.b:=by
 unfold nL at h;obtain ⟨⟨o,c⟩,_,h⟩:=bs h;rw [pl] at h;obtain ⟨t,ht,h⟩:=bs h;rw [hw.v] at ht;cases ht;obtain ⟨c1,h⟩|⟨c1,h⟩:=jI h
 · cases h;exact absurd e c1
 obtain ⟨c2,h⟩|⟨c2,h⟩:=jI h
 · obtain ⟨d,hd,h⟩:=bs h;cases h;exact absurd e (sK (by decide) hd).2
 obtain ⟨c3,h⟩|⟨c3,h⟩:=jI h
 · obtain ⟨d,hd,h⟩:=bs h;cases h;exact absurd e (sK (by decide) hd).2
 obtain ⟨i,hi,h⟩:=bs h;obtain ⟨_,rfl⟩:=pY hi;obtain ⟨op,_,h⟩:=bs h;obtain ⟨vs,hvs,h⟩:=bs h;cases h;obtain ⟨k1,k2,k3⟩:=U6 hw hvs;exact ⟨⟨Decidable.not_not.1 c1,rfl,rfl,RY,k1,k2,k3,.snoc,oO hw.vo hv⟩,rfl,rfl⟩
theorem WQ {fu:Nat}{S S':fV}{x x':jC}(h:rE fu S x=some (S',x')):Ox S S'/\∃ c,x'=⟨x.b,x.g,x.n,x.c,x.j,x.m,x.f,x.e,x.k,c,x.a,x.d,x.i⟩/\(S'.e=0->ix (zW S.a.a.b) c=some x.a.length):=by
 unfold rE at h;obtain ⟨c1,h⟩|⟨_,h⟩:=jI h
 · cases h;exact ⟨.rfl',x.h,by cases x;rfl,fun z=>absurd z c1⟩
 · obtain ⟨⟨b,d⟩,_,h⟩:=bs h;rw [pl] at h;obtain ⟨_,h⟩|⟨_,h⟩:=jI h
   · obtain ⟨q,hq,h⟩:=bs h;cases h;have k:=sK (by decide) hq;exact ⟨k.1,b,rfl,fun z=>absurd z k.2⟩
   · obtain ⟨fn,hfn,h⟩:=bs h;obtain ⟨_,h⟩|⟨c2,h⟩:=jI h
     · obtain ⟨q,hq,h⟩:=bs h;cases h;have k:=sK (by decide) hq;exact ⟨k.1,b,rfl,fun z=>absurd z k.2⟩
     · cases h;refine ⟨.rfl',b,rfl,fun _=>?_⟩;obtain ⟨k,rfl,hk⟩:=kU hfn;rw [tX];unfold zW;rw [zZ,hk];exact congrArg some (by dsimp only;omega)
section
variable {fu:Nat}{f:fV->List jC->Option (List jC × fV)}{g:fV->jC->Option (jC × fV)}
def Xb (f:fV->List jC->Option (List jC × fV)):Prop:=∀ S l l' S' V,f S l=some (l',S')->Wd S V->(∀ y ∈ l,∃ n,Ef 5000 n y)->S'.e=0->∃ V',Up S V S' V'/\SW S'.a.b V' (zW S.a.a.b) S.f l' S.a.b.length S'.a.b.length
def Eb (f:fV->List jC->Option (List jC × fV)):Prop:=∀ S l l' S',f S l=some (l',S')->S'.e=0->S.e=0
def Xs (g:fV->jC->Option (jC × fV)):Prop:=∀ S x x' S' V,g S x=some (x',S')->Wd S V->(∃ n,Ef 5000 n x)->S'.e=0->∃ V',Up S V S' V'/\SW S'.a.b V' (zW S.a.a.b) S.f [x'] S.a.b.length S'.a.b.length
abbrev inS (S:fV)(r8:List jR):fV:=⟨⟨S.a.a,S.a.c,r8⟩,S.f,S.b,S.c,S.e⟩
theorem adx {S:fV}{x:jC}{r8:List jR}{v:Ld (Int × Int × Int) (jC × fV)}(h8:x.m<=8)(h:rM fu f g S x r8=some v) :(∃ k c n,v=.go (k,c,n)/\∀ nm p a b,VO S.a.a.a ⟨nm,k,c,n,p,a,b⟩)\/∃ y S',v=.out (y,S')/\S'.e≠0:=by
 unfold rM at h;obtain ⟨c,h⟩|⟨_,h⟩:=jI h
 · cases h;exact .inl ⟨_,_,_,rfl,fun _ _ _ _=>.inr (.inr ⟨rfl,c,h8⟩)⟩
 · obtain ⟨_,h⟩|⟨_,h⟩:=jI h
   · obtain ⟨⟨c,d⟩,_,h⟩:=bs h;rw [pl] at h;obtain ⟨_,h⟩|⟨_,h⟩:=jI h
     · obtain ⟨q,hq,h⟩:=bs h;cases h;exact .inr ⟨_,_,rfl,(sK (by decide) hq).2⟩
     · obtain ⟨r,hr,h⟩:=bs h;cases h;exact .inl ⟨_,_,_,rfl,fun _ _ _ _=>.inr (.inl ⟨rfl,r,hr,rfl⟩)⟩
   · cases h;exact .inl ⟨_,_,_,rfl,fun _ _ _ _=>.inl ⟨rfl,rfl⟩⟩
theorem WX {S:fV}{x:jC}{r8:List jR}{x':jC}{S':fV}{V:List iA}(h8:x.m<=8)(h:oD fu f g S x r8=some (.out (x',S')))(hw:Wd (inS S r8) V)(e:S'.e=0) :x.b=1/\∃ V' v,Up (inS S r8) V S' V'/\x'=⟨x.b,x.g,(S.a.b.length:Int),x.c,x.j,x.m,v,x.e,x.k,x.h,x.a,x.d,x.i⟩/\S'.a.b=r8/\∃ q,ix V' v=some q:=by
 unfold oD at h;obtain ⟨hk,h⟩|⟨_,h⟩:=jI h
 · obtain ⟨v,hv,h⟩:=bs h;obtain ⟨k,c,n,rfl,hvo⟩|⟨y,S2,rfl,h2⟩:=adx h8 hv
   · replace h:=gi h;simp only [pl] at h;obtain ⟨⟨j,k⟩,hd,h⟩:=bs h;rw [pl] at h;cases h;obtain ⟨k1,rfl,k3⟩:=D5 hd hw (hvo _ _ _ _) e;exact ⟨hk,_,_,k1,rfl,k3,_,by rw [tX,EX (nD _),Nat.sub_self];rfl⟩
   · cases h;exact absurd e h2
 · obtain ⟨_,h⟩|⟨_,h⟩:=jI h
   · obtain ⟨_,h⟩|⟨_,h⟩:=jI h
     · obtain ⟨_,_,h⟩:=bs h;obtain ⟨_,h⟩|⟨_,h⟩:=jI h
       · obtain ⟨_,_,h⟩:=bs h;cases h
       · cases h
     · cases h
   · cases h
theorem abg {S:fV}{x:jC}{r8:List jR}{a1:List jX}{a2 a3 a4:Int}{a5:List kC}{a6:List (List iA)}{a7:List jR}{a8:List Int}(h1:x.e.length<=1)(h8:x.m<=8)(h:oD fu f g S x r8=some (.go (a1,a2,a3,a4,a5,a6,a7,a8))):Ox (inS S r8) ⟨⟨⟨a1,a5⟩,a6,a7⟩,a2,a8,a3,a4⟩/\x.b≠1/\(a4=0->x.b=3->∀ y ∈ x.e,y.e=1):=by
 unfold oD at h;obtain ⟨hk,h⟩|⟨hk,h⟩:=jI h
 · obtain ⟨v,hv,h⟩:=bs h;obtain ⟨k,c,n,rfl,hvo⟩|⟨y,S2,rfl,h2⟩:=adx h8 hv
   · replace h:=gi h;simp only [pl] at h;obtain ⟨⟨j,k⟩,hd,h⟩:=bs h;rw [pl] at h;cases h
   · cases h
 · obtain ⟨hk3,h⟩|⟨hk3,h⟩:=jI h
   · obtain ⟨ht,h⟩|⟨ht,h⟩:=jI h
     · obtain ⟨t,ht2,h⟩:=bs h;obtain ⟨_,h⟩|⟨hop,h⟩:=jI h
       · obtain ⟨q,hq,h⟩:=bs h;cases h;have k:=sK (by decide) hq;exact ⟨k.1,hk,fun z=>absurd z k.2⟩
       · cases h;refine ⟨.rfl',hk,fun _ _ y hy=>?_⟩;obtain ⟨i,hi⟩:=QK hy;have:=ku hi;obtain rfl:i=0:=by omega
         rw [show (0:Int)=((0:Nat):Int) from rfl,tX,hi] at ht2;cases ht2;exact Decidable.not_not.1 hop
     · cases h;exact ⟨.rfl',hk,fun _ _ y hy=>by
         have:=List.length_pos_of_mem hy;omega⟩
   · cases h;exact ⟨.rfl',hk,fun _ z=>absurd z hk3⟩
theorem ahg {v:Int}{S:fV}{V:List iA}{A:List (List iA)}(hw:Wd S V)(h:pI fu f g v S=some (.go A))(e:S.e=0):∃ V',Up S V ⟨⟨S.a.a,A,S.a.b⟩,S.f,S.b,S.c,S.e⟩ V':=by
 unfold pI at h;obtain ⟨_,h⟩|⟨c,h⟩:=jI h
 · obtain ⟨t,ht,h⟩:=bs h;rw [hw.v] at ht;cases ht;obtain ⟨b,hb,h⟩:=bs h;obtain ⟨V',hV',h⟩:=bs h;obtain ⟨vs,hvs,h⟩:=bs h;cases h;obtain ⟨k,rfl,hkl,rfl⟩:=sQ hV';rw [tX] at hb;obtain ⟨k1,k2,k3⟩:=U6 hw hvs;refine ⟨_,e,rfl,rfl,RY,k1,k2,k3,fun i x hx=>?_,fun x hx=>?_⟩
   · by_cases hik:i=k
     · subst hik;rw [hb] at hx;cases hx;exact ⟨_,DJ hkl,rfl,rfl,rfl,rfl⟩
     · exact ⟨x,by rw [zV (by omega)];exact hx,rfl,rfl,rfl,rfl⟩
   · obtain hx | rfl:=Jw hx
     · exact hw.vo x hx
     · have:=hw.vo b (vS hb);exact this
 · exact absurd e c
theorem Br:∀ (l:List jC)(k:Nat)(out:List jC)(a1:List jX)(a2 a3 a4:Int)(a5:List kC)(a6:List (List iA))(a7:List jR)(a8:List Int)(v:Ld (List jC × List jX × Int × Int × Int × List kC × List (List iA) × List jR × List Int) (List jC × fV)),
  a4≠0->lJ fu f g l k out a1 a2 a3 a4 a5 a6 a7 a8=some v->v=.go (out,a1,a2,a3,a4,a5,a6,a7,a8)
 | [],_,_,_,_,_,_,_,_,_,_,v,_,h=>by cases h;rfl
 | u :: r,_,_,_,_,_,_,_,_,_,_,v,he,h=>by rw [lJ,lF he] at h;cases h;rfl
theorem Lx (hg:Xs g){S0:fV}{V0:List iA}:∀ (l:List jC)(k:Nat)(out:List jC)(S:fV)(V:List iA)(o:List jC)(a1:List jX)(a2 a3 a4:Int)(a5:List kC)(a6:List (List iA))(a7:List jR)(a8:List Int),
  Up S0 V0 S V->SW S.a.b V (zW S0.a.a.b) S0.f out S0.a.b.length S.a.b.length->(∀ y ∈ l,∃ n,Ef 5000 n y)->
  lJ fu f g l k out S.a.a.a S.f S.c S.e S.a.a.b S.a.c S.a.b S.b=some (.go (o,a1,a2,a3,a4,a5,a6,a7,a8))->a4=0->
  ∃ V',Up S0 V0 ⟨⟨⟨a1,a5⟩,a6,a7⟩,a2,a8,a3,a4⟩ V'/\SW a7 V' (zW S0.a.a.b) S0.f o S0.a.b.length a7.length
 | [],_,out,S,V,_,_,_,_,_,_,_,_,_,hU,hW,_,h,e=>by cases h;exact ⟨V,hU,hW⟩
 | u :: r,k,out,S,V,o,a1,a2,a3,a4,a5,a6,a7,a8,hU,hW,hl,h,e=>by
  rw [lJ] at h;obtain ⟨c,h⟩|⟨_,h⟩:=jI h
  · cases h;exact absurd e c
  obtain ⟨⟨x,S1⟩,h1,h⟩:=bs h;rw [pl] at h;obtain ⟨w,hw,h⟩:=bs h;obtain ⟨_,rfl⟩:=pY hw;by_cases he:S1.e=0
  · obtain ⟨V1,k1,k2⟩:=hg _ _ _ _ V h1 hU.wd (hl u (.head _)) he;rw [hU.pg,hU.f] at k2;exact Lx hg r _ _ S1 V1 o a1 a2 a3 a4 a5 a6 a7 a8 (hU.trans k1) ((hW.mono k1.k k1.vr).app k2) (fun y hy=>hl y (.tail _ hy)) h e
  · have:=Br _ _ _ _ _ _ _ _ _ _ _ _ he h;cases this;exact absurd e he
theorem LY {c:Int}{d:List jR}{R:List jX}:∀ (l:List Int)(k:Nat)(a a':List (List iA))(V:List iA),mZ fu f g c d l k a=some (.go a')→ix a c=some V→(∀ x ∈ V,VO R x)→
  ∃ V',ix a' c=some V'/\Vr V V'/\(∀ x ∈ V',VO R x)/\(∀ i:Nat,(i:Int)≠c->a'[i]?=a[i]?)/\a'.length=a.length
 | [],_,a,a',V,h,hV,ho=>by cases h;exact ⟨V,hV,.rfl',ho,fun _ _=>rfl,rfl⟩
 | e :: r,k,a,a',V,h,hV,ho=>by
  rw [mZ] at h;obtain ⟨t,ht,h⟩:=bs h;rw [hV] at ht;cases ht;obtain ⟨b,hb,h⟩:=bs h;obtain ⟨V1,hV1,h⟩:=bs h;obtain ⟨vs,hvs,h⟩:=bs h;obtain ⟨q,rfl,hql,rfl⟩:=sQ hV1;rw [tX] at hb;obtain ⟨p,rfl,hpl,rfl⟩:=sQ hvs;obtain ⟨V',h1,h2,h3,h4,h5⟩:=LY r _ _ a' _ h (by rw [tX,DJ hpl]) (fun x hx=>by
    obtain hx | rfl:=Jw hx
    · exact ho x hx
    · have:=ho b (vS hb);exact this)
  refine ⟨V',h1,Vr.trans (fun i x hx=>?_) h2,h3,fun i hi=>(h4 i hi).trans (by rw [zV (by omega)]),h5.trans wR⟩;by_cases hik:i=q
  · subst hik;rw [hb] at hx;cases hx;exact ⟨_,DJ hql,rfl,rfl,rfl,rfl⟩
  · exact ⟨x,by rw [zV (by omega)];exact hx,rfl,rfl,rfl,rfl⟩
theorem Dy:∀ (l:List jC){k:Nat}{out:List jC}{a1:List jX}{a2 a3 a4:Int}{a5:List kC}{a6:List (List iA)}{a7:List jR}{a8:List Int}{o:List jC × fV},lJ fu f g l k out a1 a2 a3 a4 a5 a6 a7 a8=some (.out o)→False
 | [],_,_,_,_,_,_,_,_,_,_,_,h=>by cases h
 | u :: r,_,_,_,_,_,_,_,_,_,_,_,h=>by
  rw [lJ] at h;obtain ⟨c,h⟩|⟨_,h⟩:=jI h
  · cases h
  obtain ⟨⟨x,S1⟩,h1,h⟩:=bs h;rw [pl] at h;obtain ⟨w,hw,h⟩:=bs h;exact Dy r h
theorem ZP (hg:Xs g):Xb (oh fu f g):=by
 intro S l l' S' V h hw hl e;unfold oh at h;obtain ⟨v,hv,h⟩:=bs h;cases v with
 | out o=>
  have hd:=Dy l hv;exact hd.elim
 | go r=>
 obtain ⟨o,a1,a2,a3,a4,a5,a6,a7,a8⟩:=r;replace h:=gi h;simp only [pl] at h;obtain ⟨_,_,h⟩:=bs h;obtain ⟨v2,hv2,h⟩:=bs h;cases v2 with
 | out q=>exact (zO _ _ _ _ hv2).elim
 | go q=>
  replace h:=gi h;obtain ⟨_,_,h⟩:=bs h;obtain ⟨_,_,h⟩:=bs h;cases h;by_cases hS:S.e=0
  · obtain ⟨V1,k1,k2⟩:=Lx hg l 0 [] S V _ _ _ _ _ _ _ _ _ (.rfl' hw hS) .nil hl hv e;have hf:a2=S.f:=k1.f;obtain ⟨V2,h1,h2,h3,h4,h5⟩:=LY (R:=S.a.a.a) _ _ _ _ V1 hv2 (by rw [hf];exact k1.v) k1.vo;refine ⟨V2,⟨hS,hf,k1.pg,k1.k,by rw [<-hf];exact h1,fun i hi=>(h4 i (by rw [hf];exact hi)).trans (k1.vs i hi),h5.trans k1.vl,k1.vr.trans h2,h3⟩,k2.mono RY h2⟩
  · have:=Br _ _ _ _ _ _ _ _ _ _ _ _ hS hv;cases this;exact absurd e hS
theorem Zw:Eb (oh fu f g):=by
 intro S l l' S' h e;unfold oh at h;obtain ⟨v,hv,h⟩:=bs h;cases v with
 | out o=>exact (Dy l hv).elim
 | go r=>
 obtain ⟨o,a1,a2,a3,a4,a5,a6,a7,a8⟩:=r;replace h:=gi h;simp only [pl] at h;obtain ⟨_,_,h⟩:=bs h;obtain ⟨v2,hv2,h⟩:=bs h;cases v2 with
 | out q=>exact (zO _ _ _ _ hv2).elim
 | go q=>
  replace h:=gi h;obtain ⟨_,_,h⟩:=bs h;obtain ⟨_,_,h⟩:=bs h;cases h;refine Classical.byContradiction fun hS=>?_;have:=Br _ _ _ _ _ _ _ _ _ _ _ _ hS hv;cases this;exact hS e
theorem adK (hE:Eb f)(hf:Xb f){h' c j:Int}{d k:BA}{l:Int}{m:List jD}{p:BA}{t:Int}{u:List jC}{v:List jD}{w:List jC}{S:fV}{V:List iA}(hw:Wd S V)(hl:∀ y ∈ u,∃ n,Ef 5000 n y){r:Ld Unit (jC × fV)}(h:oG fu f g h' c j d k l m p t u v w S=some r) :(r=.go ()/\(S.e=0->h'≠8))\/∃ i z S',r=.out (⟨h',c,j,d,k,l,i,m,p,t,v,w,z⟩,S')/\h'=8/\(S'.e=0->∃ V',Up S V S' V'/\SW S'.a.b V' (zW S.a.a.b) S.f z S.a.b.length S'.a.b.length/\∃ q,ix V' i=some q/\q.b=1/\q.e=(S.a.b.length:Int)):=by
 unfold oG at h;obtain ⟨h8,h⟩|⟨h8,h⟩:=jI h
 · obtain ⟨he,h⟩|⟨he,h⟩:=jI h
   · obtain ⟨B,_,h⟩:=bs h;obtain ⟨⟨i,S1⟩,hd,h⟩:=bs h;rw [pl] at h;obtain ⟨⟨z,S2⟩,hz,h⟩:=bs h;rw [pl] at h;obtain ⟨q,hq,h⟩:=bs h;cases q with
     | out o=>exact (abQ hq).elim
     | go A=>
      replace h:=gi h;cases h;refine .inr ⟨_,_,_,rfl,h8,fun e=>?_⟩;have e2:S2.e=0:=e;by_cases e1:S1.e=0
      · obtain ⟨k1,rfl,k3⟩:=D5 hd hw (.inl ⟨rfl,rfl⟩) e1;obtain ⟨V2,k4,k5⟩:=hf _ _ _ _ _ hz k1.wd hl e2;obtain ⟨V3,k6⟩:=ahg k4.wd hq e2;have k7:Up S V ⟨⟨S2.a.a,A,S2.a.b⟩,S2.f,B,S2.c,S2.e⟩ V3:=by have:=(k1.trans k4).trans k6;exact ⟨this.e,this.f,this.pg,this.k,this.v,this.vs,this.vl,this.vr,this.vo⟩
        rw [k1.pg,k1.f,k3] at k5;refine ⟨V3,k7,k5.mono RY k6.vr,?_⟩;obtain ⟨q',hq',a1,a2,a3,a4⟩:=U3 (k4.vr.trans k6.vr) (i:=(V.length:Int)) (v:=⟨d,1,-1,1,false,(S.a.b.length:Int),0⟩) (by rw [tX,EX (nD _),Nat.sub_self];rfl);exact ⟨q',hq',a1,a4⟩
      · exact absurd (hE _ _ _ _ hz e2) e1
   · cases h;exact .inl ⟨rfl,fun z=>absurd z he⟩
 · cases h;exact .inl ⟨rfl,fun _=>h8⟩
theorem afH {z:fV}{x:jC}{T:List jD}{S:fV}{V:List iA}(hw:Wd S V){v:Ld (List jX × Int × Int × Int × List kC × List (List iA) × List jR × List Int × Int × Int × Int × BA × BA × Int × Int × List jD × BA × Int × List jD × List jC × List jC) (jC × fV)}(h:rO fu f g z x T S=some v) :∃ S1 cl,v=.go (S1.a.a.a,S1.f,S1.c,S1.e,S1.a.a.b,S1.a.c,S1.a.b,S1.b,x.b,x.g,(z.a.b.length:Int),x.c,x.j,x.m,x.f,T,x.k,cl,x.a,x.d,x.i)/\Ox S S1/\(S1.e=0->x.k≠be->ix (zW S.a.a.b) cl=some x.a.length):=by
 unfold rO at h;obtain ⟨_,h⟩|⟨c,h⟩:=jI h
 · obtain ⟨⟨S1,a⟩,ha,h⟩:=bs h;rw [pl] at h;obtain ⟨k1,cc,rfl,k2⟩:=WQ ha;cases h;exact ⟨S1,cc,rfl,k1,fun z _=>k2 z⟩
 · cases h;exact ⟨S,x.h,rfl,.rfl',fun _ z=>absurd (Decidable.not_not.1 c) z⟩
theorem ab8 (hE:Eb f)(hf:Xb f):Xs (sH fu f g):=by
 intro S x x' S' V h hw ⟨n,hx⟩ e;cases n with
 | zero=>exact hx.elim
 | succ n=>
 obtain ⟨h1,h2,h3,h4,hsh⟩:=hx;have hbo:∀ y ∈ x.d,∃ n,Ef 5000 n y:=fun y hy=>⟨n,h3.2 y hy⟩;have hel:∀ y ∈ x.i,∃ n,Ef 5000 n y:=fun y hy=>⟨n,h4.2 y hy⟩;unfold sH at h;obtain ⟨_,h⟩|⟨_,h⟩:=jI h
 · obtain ⟨q,hq,h⟩:=bs h;cases h;exact absurd e (sK (by decide) hq).2
 obtain ⟨r8,hr8,h⟩:=bs h;obtain ⟨_,rfl⟩:=pY hr8;have hw8:Wd (inS S (S.a.b ++ [⟨S.f,x.b,x.g⟩])) V:=⟨hw.v,hw.vo⟩;have hup:∀ {S2:fV}{V2:List iA},Up (inS S (S.a.b ++ [⟨S.f,x.b,x.g⟩])) V S2 V2->Up S V S2 V2:=fun k=>⟨k.e,k.f,k.pg,(List.prefix_append _ _).trans k.k,k.v,k.vs,k.vl,k.vr,k.vo⟩;have hk8:∀ {K:List jR},S.a.b ++ [⟨S.f,x.b,x.g⟩] <+: K->K[S.a.b.length]?=some ⟨S.f,x.b,x.g⟩:=fun hK=>by obtain ⟨t,rfl⟩:=hK;rw [ES,EX (nD _),Nat.sub_self];rfl
 obtain ⟨v,hv,h⟩:=bs h;cases v with
 | out o=>
   cases h;obtain ⟨hk,V',q,k1,rfl,k2,q',hq'⟩:=WX hsh.len hv hw8 e;obtain ⟨t1,t2,t3,t4,t5⟩:=hsh.decl hk;refine ⟨V',hup k1,.cons rfl ?_ ?_ ?_ (fun _=>⟨q',hq'⟩) (fun z=>?_) (fun z=>?_) (fun y z=>?_) (c:=S.a.b.length+1) (d:=S.a.b.length+1) ?_ ?_ ?_⟩
   · rw [k2];exact hk8 RY
   · dsimp only;rw [t1];intro y hy;cases hy
   · dsimp only;rw [t2];intro y hy;cases hy
   · dsimp only at z;omega
   · dsimp only at z;exact absurd t5 z
   · dsimp only at z;rw [t1] at z;cases z
   · dsimp only;rw [t3];exact .nil
   · dsimp only;rw [t4];exact .nil
   · rw [k2,kD];exact .nil
 | go s=>
   obtain ⟨a1,a2,a3,a4,a5,a6,a7,a8⟩:=s;replace h:=gi h;simp only [pl] at h;obtain ⟨m1,m2,m3⟩:=abg h1.1 hsh.len hv;obtain ⟨⟨T,S1⟩,hT,h⟩:=bs h;rw [pl] at h;obtain ⟨k1,k2,k3⟩:=(Hg fu).2 _ _ _ _ _ V hT (m1.wd hw8);obtain ⟨v,hv2,h⟩:=bs h;obtain ⟨S2,cl,rfl,k4,k5⟩:=afH ((m1.trans k1).wd hw8) hv2;replace h:=gi h;simp only [pl] at h;obtain ⟨⟨A,S3⟩,hA,h⟩:=bs h;rw [pl] at h;have m4:=(m1.trans k1).trans k4;obtain ⟨k6,k7,k8⟩:=(Hg fu).2 _ _ _ _ _ V hA (m4.wd hw8);have m6:=m4.trans k6;obtain ⟨⟨B,S4⟩,hB,h⟩:=bs h;rw [pl] at h;have hlenA:A.length=x.a.length:=by have:=congrArg List.length k7;rwa [Dg,Dg] at this
   have fin:∀ {V4 V5:List iA}{S5:fV}{Z:List jC}{i:Int},Up S3 V S4 V4→SW S4.a.b V4 (zW S3.a.a.b) S3.f B S3.a.b.length S4.a.b.length→Up S4 V4 S5 V5→SW S5.a.b V5 (zW S4.a.a.b) S4.f Z S4.a.b.length S5.a.b.length→(x.b=8→∃ q,ix V5 i=some q∧q.b=1∧q.e=(S4.a.b.length:Int))→
       Up S V S5 V5/\SW S5.a.b V5 (zW S.a.a.b) S.f [⟨x.b,x.g,(S.a.b.length:Int),x.c,x.j,x.m,i,T,x.k,cl,A,B,Z⟩] S.a.b.length S5.a.b.length:=fun {V4 V5 S5 Z i} n1 n2 n3 n4 n5=>by
     have e3:S3.e=0:=n1.e;have u3:Up S V S3 V:=hup (m6.up hw8 e3);have hst:S3.a.b=S.a.b ++ [⟨S.f,x.b,x.g⟩]:=by rw [m6.out]
     rw [u3.pg,u3.f,hst,kD] at n2;rw [n1.pg,n1.f,u3.pg,u3.f] at n4;have vr:=n1.vr.trans n3.vr;refine ⟨(u3.trans n1).trans n3,.cons rfl (hk8 ?_) (fun y hy=>(k3 (k4.e (k6.e e3)) y hy).mono vr) (fun y hy=>(k8 e3 y hy).mono vr) (fun z=>absurd z m2) n5 (fun z=>?_) (fun y hy=>?_) (n2.mono n3.k n3.vr) n4 .nil⟩
     · rw [<-hst];exact n1.k.trans n3.k
     · have:=k5 (k6.e e3) z;rw [(m1.trans k1).out] at this;rw [hlenA];exact this
     · have hop:=m3 (k1.e (k4.e (k6.e e3)));obtain ⟨q,hq⟩:=QK hy;have hq2:(T.map jD.e)[q]?=some y.e:=by rw [zZ,hq];rfl
       rw [k2,zZ] at hq2;cases hq3:x.e[q]? with
       | none=>rw [hq3] at hq2;cases hq2
       | some y0=>
         rw [hq3] at hq2;have:y0.e=y.e:=Kj hq2;rw [<-this];have hm:=vS hq3;exact ⟨fun z=>hop z y0 hm,hsh.tops y0 hm⟩
   obtain ⟨v,hv3,h⟩:=bs h;by_cases e4:S4.e=0
   · obtain ⟨V4,n1,n2⟩:=hf _ _ _ _ _ hB (m6.wd hw8) hbo e4;obtain ⟨rfl,h8⟩|⟨i,z,S5,rfl,h8,hz⟩:=adK hE hf n1.wd hel hv3
     · replace h:=gi h;obtain ⟨⟨E,S5⟩,hE2,h⟩:=bs h;rw [pl] at h;cases h;obtain ⟨V5,n3,n4⟩:=hf _ _ _ _ _ hE2 n1.wd hel e;exact ⟨V5,fin n1 n2 n3 n4 fun z=>absurd z (h8 e4)⟩
     · cases h;obtain ⟨V5,n3,n4,n5⟩:=hz e;exact ⟨V5,fin n1 n2 n3 n4 fun _=>n5⟩
   · exfalso;unfold oG at hv3;have hg2:v=.go ():=by
       obtain ⟨_,hv3⟩|⟨_,hv3⟩:=jI hv3
       · rw [kQ e4] at hv3;cases hv3;rfl
       · cases hv3;rfl
     subst hg2;replace h:=gi h;obtain ⟨⟨E,S5⟩,hE2,h⟩:=bs h;rw [pl] at h;cases h;exact e4 (hE _ _ _ _ hE2 e)
end
theorem BD:∀ fu:Nat,Eb (qm fu)∧Xb (qm fu)∧Xs (vY fu)
 | 0=>⟨fun _ _ _ _ h=>(by cases h),fun _ _ _ _ _ h=>(by cases h),fun _ _ _ _ _ h=>(by cases h)⟩
 | fu+1=>⟨Zw,ZP (BD fu).2.2,ab8 (BD fu).1 (BD fu).2.1⟩
theorem RL {fu:Nat}{m:kC}{S0:fV}{V0:List iA}:∀ (l:List BA)(k:Nat)(S:fV)(V:List iA)(b1:List Int)(b2:List jX)(b3 b4 b5:Int)(b6:List kC)(b7:List (List iA))(b8:List jR),Wd S V→
  kT fu m l k S.b S.a.a.a S.f S.c S.e S.a.a.b S.a.c S.a.b=some (.go (b1,b2,b3,b4,b5,b6,b7,b8))->b5=0->
  ∃ V',Up S V ⟨⟨⟨b2,b6⟩,b7,b8⟩,b3,b1,b4,b5⟩ V'/\b8=S.a.b/\V'.length=V.length+l.length/\∀ (i:Nat)(v:iA),V.length<=i->V'[i]?=some v->v.b=1
 | [],_,S,V,_,_,_,_,_,_,_,_,hw,h,e=>by cases h;exact ⟨V,.rfl' hw e,rfl,rfl,fun i v h1 h2=>by have:=ku h2;omega⟩
 | u :: r,k,S,V,b1,b2,b3,b4,b5,b6,b7,b8,hw,h,e=>by
  rw [kT] at h;obtain ⟨⟨j,S1⟩,h1,h⟩:=bs h;rw [pl] at h;by_cases e1:S1.e=0
  · obtain ⟨k1,_,k3⟩:=D5 h1 hw (.inl ⟨rfl,rfl⟩) e1;obtain ⟨V',k4,k5,k6,k7⟩:=RL (S0:=S0) (V0:=V0) r _ S1 _ b1 b2 b3 b4 b5 b6 b7 b8 k1.wd h e;refine ⟨V',k1.trans k4,k5.trans k3,by rw [k6,kD,uM];omega,fun i v hi hv=>?_⟩;by_cases hi2:i=V.length
    · subst hi2;obtain ⟨v',h2,a1,_⟩:=k4.vr V.length _ (by rw [EX (nD _),Nat.sub_self];rfl);rw [hv] at h2;cases h2;exact a1
    · exact k7 i v (by rw [kD];omega) hv
  · exfalso;have hn:∀ (l:List BA)(k:Nat)(S:fV) b1 b2 b3 b4 b5 b6 b7 b8,S.e≠0->kT fu m l k S.b S.a.a.a S.f S.c S.e S.a.a.b S.a.c S.a.b=some (.go (b1,b2,b3,b4,b5,b6,b7,b8))->b5≠0:=fun l=>by
      induction l with
      | nil=>intro k S b1 b2 b3 b4 b5 b6 b7 b8 h1 h2;cases h2;exact h1
      | cons y l ih=>
       intro k S b1 b2 b3 b4 b5 b6 b7 b8 h1 h2;rw [kT] at h2;obtain ⟨⟨j,S2⟩,h3,h2⟩:=bs h2;rw [pl] at h2;refine ih _ S2 _ _ _ _ _ _ _ _ (fun z=>?_) h2;unfold nL at h3;obtain ⟨⟨o,c⟩,_,h3⟩:=bs h3;rw [pl] at h3;obtain ⟨t,ht,h3⟩:=bs h3;rw [lF h1] at h3;cases h3;exact h1 z
    exact hn _ _ _ _ _ _ _ _ _ _ _ e1 h e
theorem R7 {fu:Nat}{S:fV}{R:List jX}:∀ (l:List BA)(k:Nat)(a a':List (List iA))(V:List iA),l6 fu S l k a=some (.go a')→ix a S.f=some V→(∀ x ∈ V,VO R x)→
  ∃ V',ix a' S.f=some V'/\Vr V V'/\(∀ x ∈ V',VO R x)/\(∀ i:Nat,(i:Int)≠S.f->a'[i]?=a[i]?)/\a'.length=a.length
 | [],_,a,a',V,h,hV,ho=>by cases h;exact ⟨V,hV,.rfl',ho,fun _ _=>rfl,rfl⟩
 | e :: r,k,a,a',V,h,hV,ho=>by
  rw [l6] at h;obtain ⟨t,ht,h⟩:=bs h;rw [hV] at ht;cases ht;obtain ⟨b,hb,h⟩:=bs h;obtain ⟨V1,hV1,h⟩:=bs h;obtain ⟨vs,hvs,h⟩:=bs h;obtain ⟨q,hq,hql,rfl⟩:=sQ hV1;rw [hq,tX] at hb;obtain ⟨p,hp,hpl,rfl⟩:=sQ hvs;obtain ⟨V',h1,h2,h3,h4,h5⟩:=R7 r _ _ a' _ h (by rw [hp,tX,DJ hpl]) (fun x hx=>by
    obtain hx | rfl:=Jw hx
    · exact ho x hx
    · have:=ho b (vS hb);exact this)
  refine ⟨V',h1,Vr.trans (fun i x hx=>?_) h2,h3,fun i hi=>(h4 i hi).trans (by rw [zV (by omega)]),h5.trans wR⟩;by_cases hik:i=q
  · subst hik;rw [hb] at hx;cases hx;exact ⟨_,DJ hql,rfl,rfl,rfl,rfl⟩
  · exact ⟨x,by rw [zV (by omega)];exact hx,rfl,rfl,rfl,rfl⟩
def FW (R:List jX)(K:List jR)(V:List iA)(Ps:List Nat)(f:Int)(fn:kC)(a b:Nat):Prop:=(∀ x ∈ V,VO R x)/\SW K V Ps f fn.d a b/\(∀ i:Nat,i < fn.a.length->∃ v,V[i]?=some v/\v.b=1)/\∃ l e,fn.d=l ++ [e]/\e.b=10
theorem FW.mono {R:List jX}{K K':List jR}{V:List iA}{Ps:List Nat}{f:Int}{fn:kC}{a b:Nat}(h:FW R K V Ps f fn a b)(hk:K <+: K'):FW R K' V Ps f fn a b:=by obtain ⟨h1,h2,h3⟩:=h;exact ⟨h1,h2.mono hk .rfl',h3⟩
theorem MN {fu:Nat}{S S':fV}{x x':kC}(h:og fu S x=some (x',S'))(hw:Wd S [])(hx:FOk 5000 x)(e:S'.e=0):∃ V',Up S [] S' V'/\FW S.a.a.a S'.a.b V' (zW S.a.a.b) S.f x' S.a.b.length S'.a.b.length/\x'.a=x.a:=by
 unfold og at h;obtain ⟨_,h⟩|⟨_,h⟩:=jI h
 · obtain ⟨q,hq,h⟩:=bs h;cases h;exact absurd e (sK (by decide) hq).2
 obtain ⟨v,hv,h⟩:=bs h;cases v with
 | out o=>exact (Ih _ _ _ _ _ _ _ _ _ _ _ hv).elim
 | go s=>
   obtain ⟨a1,a2,a3,a4,a5,a6,a7,a8⟩:=s;replace h:=gi h;simp only [pl] at h;obtain ⟨c,h⟩|⟨c,h⟩:=jI h
   · have hw0:Wd ⟨S.a,S.f,[],S.c,S.e⟩ []:=⟨hw.v,hw.vo⟩;obtain ⟨V1,k1,k2,k3,k4⟩:=RL (S0:=S) (V0:=[]) x.a 0 ⟨S.a,S.f,[],S.c,S.e⟩ [] _ _ _ _ _ _ _ _ hw0 hv c;obtain ⟨⟨t,S2⟩,ht,h⟩:=bs h;rw [pl] at h;obtain ⟨v,hv2,h⟩:=bs h;cases v with
     | out o=>exact (IX _ _ _ _ hv2).elim
     | go u=>
      replace h:=gi h;cases h;obtain ⟨V2,k5,k6⟩:=(BD fu).2.1 _ _ _ _ _ ht k1.wd (fun y hy=>⟨10,hx.el y hy⟩) e;have k7:=k1.trans k5;obtain ⟨V3,h1,h2,h3,h4,h5⟩:=R7 (R:=S.a.a.a) _ _ _ _ V2 hv2 (by rw [k7.f];exact k7.v) k7.vo;have hf:S2.f=S.f:=k7.f;rw [hf] at h1 h4;have hp:(zW a6)=zW S.a.a.b:=by have:=congrArg jV.b k1.pg;dsimp only at this;rw [this]
      have hf3:a3=S.f:=k1.f;dsimp only at k6;rw [hp,hf3] at k6;refine ⟨V3,⟨k1.e,hf,k7.pg,k7.k,h1,fun i hi=>(h4 i hi).trans (k7.vs i hi),h5.trans k7.vl,k7.vr.trans h2,h3⟩,⟨h3,by have q:=k6.mono RY h2;rw [k2] at q;exact q,fun i hi=>?_,?_⟩,rfl⟩
      · have hi:i < x.a.length:=hi;obtain ⟨v1,hv1⟩:=lZ (l:=V1) (k:=i) (by rw [k3,yG];omega);obtain ⟨v2,q1,b1,_⟩:=(k5.vr.trans h2) i v1 hv1;exact ⟨v2,q1,b1.trans (k4 i v1 (uL _) hv1)⟩
      · obtain ⟨l,en,hb,hk⟩:=hx.en;have hkk:=ZK ht (FOk.x hx) e;rw [hb] at hkk;obtain ⟨m,y,h1,h2⟩:=XM hkk;exact ⟨m,y,h1,h2.trans hk⟩
   · cases h;exact absurd e c
def adZ (s:jW):Prop:=s.c.length=s.a.b.length/\(∃ B:Nat->Nat,B 0=0/\B s.a.b.length=s.b.length/\∀ (k:Nat)(fn:kC),s.a.b[k]?=some fn->∃ V,s.c[k]?=some V/\FW s.a.a s.b V (zW s.a.b) k fn (B k) (B (k+1)))/\∀ u ∈ s.a.a,u.a.length<=4
theorem XA {l:List kC}{k:Nat}{fn fn':kC}(h:l[k]?=some fn)(hp:fn'.a=fn.a):zW (l.set k fn')=zW l:=by unfold zW;rw [List.map_set];exact set_self (by rw [zZ,h,hp];rfl)
theorem Le {fu:Nat}{p:jV}(hp:VG 5000 p):∀ (n:Nat)(B:Nat->Nat)(i:Nat)(a:List jX)(b c d:Int)(e:List kC)(vs:List (List iA))(g:List jR)(h:List Int)(j:Int)(a':List jX)(b' c' d':Int)(e':List kC)(vs':List (List iA))(g':List jR)(h':List Int),
  B 0=0->B i=g.length->e.length=p.b.length->vs.length=i->i<=p.b.length->(∀ (k:Nat)(fn:kC),k < i->e[k]?=some fn->∃ V,vs[k]?=some V/\FW a g V (zW e) k fn (B k) (B (k+1)))->(∀ (k:Nat),i<=k->e[k]?=p.b[k]?)->(∀ u ∈ a,u.a.length<=4)->
  mo fu p n i a b c d e vs g h=some (.go (j,a',b',c',d',e',vs',g',h'))->d'=0->adZ ⟨⟨a',e'⟩,vs',g'⟩
 | 0,_,_,_,_,_,_,_,_,_,_,_,_,_,_,_,_,_,_,_,_,_,_,_,_,_,_,_,h,_=>by cases h
 | n+1,B,i,a,b,c,d,e,vs,g,h,j,a',b',c',d',e',vs',g',h',hB0,hBi,h1,h2,h3,h4,h5,h6,hm,hd=>by
  have hlen:=hp.e;rw [mo] at hm;obtain ⟨hi,hm⟩|⟨hi,hm⟩:=jI hm
  · obtain ⟨he,hm⟩|⟨he,hm⟩:=jI hm
    · obtain ⟨r,hr,hm⟩:=bs hm;obtain ⟨_,rfl⟩:=pY hr;obtain ⟨fn,hfn,hm⟩:=bs hm;rw [tX] at hfn;obtain ⟨⟨fn',S'⟩,hF,hm⟩:=bs hm;rw [pl] at hm;obtain ⟨q,hq,hm⟩:=bs hm;obtain ⟨w,hw,hm⟩:=bs hm;rw [l8 (by omega) (by omega)] at hm;have hwd:Wd ⟨⟨⟨a,e⟩,vs ++ [[]],g⟩,(i:Int),h,c,d⟩ []:=⟨by dsimp only;rw [tX,<-h2,List.getElem?_append_right (Nat.le_refl _),Nat.sub_self];rfl,fun x hx=>by cases hx⟩;by_cases e1:S'.e=0
      · obtain ⟨V',k1,k2,k3⟩:=MN hF hwd (hp.el fn (vS hfn)) e1;obtain ⟨q2,hq2,hql,rfl⟩:=sQ hw;obtain rfl:i=q2:=by omega
        have hpg:S'.a.a=⟨a,e⟩:=k1.pg;have hPF:S'.a.a.b=e:=by rw [hpg]
        have hPR:S'.a.a.a=a:=by rw [hpg]
        have hei:e[i]?=some fn:=(h5 i (nD _)).trans hfn;have hps:zW (e.set i fn')=zW e:=XA hei k3;have hvl:S'.a.c.length=i+1:=by rw [k1.vl];dsimp only;rw [kD,h2]
        rw [show ((i:Int)+1)=((i+1:Nat):Int) from by omega] at hm;refine Le hp n (fun k=>if k<=i then B k else S'.a.b.length) (i+1) _ _ _ _ _ _ _ _ j a' b' c' d' e' vs' g' h' (by rw [lF (uL _)];exact hB0) (by rw [kQ (by omega)]) (by rw [wR,hPF];exact h1) hvl (by omega) (fun k fk hk hfk=>?_) (fun k hk=>?_) (by rw [hPR];exact h6) hm hd
        · rw [hPF] at hfk;rw [hPR,hPF,hps];by_cases hki:k=i
          · subst hki;rw [DJ (by rw [h1];omega)] at hfk;cases hfk;have:=k1.v;dsimp only at this;rw [tX] at this;refine ⟨V',this,?_⟩;rw [lF (nD _),kQ (by omega),hBi];exact k2
          · rw [zV (by omega)] at hfk;obtain ⟨V,hV,hW⟩:=h4 k fk (by omega) hfk;have:=k1.vs k (by dsimp only;omega);dsimp only at this;refine ⟨V,by rw [this,zQ (ku hV)];exact hV,?_⟩;rw [lF (by omega),lF (by omega)];exact hW.mono k1.k
        · rw [hPF,zV (by omega)];exact h5 k (by omega)
      · exfalso;cases n with
        | zero=>cases hm
        | succ n=>
          rw [mo] at hm;obtain ⟨_,hm⟩|⟨_,hm⟩:=jI hm
          · rw [kQ e1] at hm;cases hm;exact e1 hd
          · cases hm;exact e1 hd
    · cases hm;exact absurd hd he
  · cases hm;have hi2:i=p.b.length:=by omega
    refine ⟨by dsimp only;omega,⟨B,hB0,by dsimp only;rw [h1,<-hi2];exact hBi,fun k fn hk=>?_⟩,h6⟩;have:=ku hk;exact h4 k fn (by dsimp only at this;omega) hk
theorem KM {fu:Nat}{p:jV}{o:jW × Int × Int}:∀ (n:Nat)(i:Int)(a:List jX)(b c d:Int)(e:List kC)(vs:List (List iA))(g:List jR)(h:List Int),mo fu p n i a b c d e vs g h=some (.out o)→False
 | 0,_,_,_,_,_,_,_,_,_,h=>by cases h
 | n+1,_,_,_,_,_,_,_,_,_,h=>by
  rw [mo] at h;obtain ⟨_,h⟩|⟨_,h⟩:=jI h
  · obtain ⟨_,h⟩|⟨_,h⟩:=jI h
    · obtain ⟨_,_,h⟩:=bs h;obtain ⟨_,_,h⟩:=bs h;obtain ⟨⟨_,_⟩,_,h⟩:=bs h;rw [pl] at h;obtain ⟨_,_,h⟩:=bs h;obtain ⟨_,_,h⟩:=bs h;exact KM n _ _ _ _ _ _ _ _ _ h
    · cases h
  · cases h
theorem M8 {fu:Nat}{p:jV}:∀ (n:Nat){i:Int}{a:List jX}{b c d:Int}{e:List kC}{vs:List (List iA)}{g:List jR}{h:List Int}{r:Int × List jX × Int × Int × Int × List kC × List (List iA) × List jR × List Int},
  mo fu p n i a b c d e vs g h=some (.go r)->r.2.2.2.2.1=0->d=0
 | 0,_,_,_,_,_,_,_,_,_,_,h,_=>by cases h
 | n+1,_,_,_,_,_,_,_,_,_,_,h,z=>by
  rw [mo] at h;obtain ⟨_,h⟩|⟨_,h⟩:=jI h
  · obtain ⟨c,h⟩|⟨_,h⟩:=jI h
    · exact c
    · cases h;exact z
  · cases h;exact z
theorem aaD {fu:Nat}{p:jV}(hf:5002<=fu)(hp:VG 5000 p){s:jW}{ln:Int}(h:qj fu p=some (s,ln,0)):adZ s:=by
 unfold qj at h;obtain ⟨r,hr,h⟩:=bs h;obtain ⟨_,rfl⟩:=pY hr;obtain ⟨S,hS,h⟩:=bs h;have hs:=(KL hf (S:=⟨⟨⟨p.a,[] ++ p.b⟩,[],[]⟩,0,[],0,0⟩) hp.recs hp.fields hp.e).of' hS;obtain ⟨v,hv,h⟩:=bs h;cases v with
 | out o=>exact (KM _ _ _ _ _ _ _ _ _ _ hv).elim
 | go r=>
  have he:=M8 fu hv;obtain ⟨j,a',b',c',d',e',vs',g',h'⟩:=r;replace h:=gi h;simp only [pl] at h;have ho:=hs.out;obtain ⟨c,h⟩|⟨c,h⟩:=jI h
  · cases h;exact absurd rfl c
  · cases h;have h4:=Z8 hf hp.recs hp.fields hp.e hS (he (Decidable.not_not.1 c));rw [ho] at hv;exact Le hp fu (fun _=>0) 0 _ _ _ _ _ _ _ _ _ _ _ _ _ _ _ _ _ rfl rfl rfl rfl (uL _) (fun k fn hk=>by omega) (fun k _=>rfl) h4 hv (Decidable.not_not.1 c)
inductive EO (O:List Int):jD→Prop
 | mk {e:jD} (h:e.e=1\/e.e=2\/e.e=3->e.f ∈ O) (k:∀ y ∈ e.a,EO O y):EO O e
theorem Kk {fu:Nat}{S:fV}{n:BA}{c:Int}{i:Bool}:∀ (l:List Int)(k:Nat),oQ fu S n l k=some (.out (c,i))→c ∈ l
 | [],_,h=>by cases h
 | e :: r,k,h=>by
  rw [oQ] at h;obtain ⟨_,_,h⟩:=bs h;obtain ⟨_,_,h⟩:=bs h;obtain ⟨_,h⟩|⟨_,h⟩:=jI h
  · cases h;exact .head _
  · exact .tail _ (Kk r _ h)
theorem Xz {fu:Nat}{S:fV}{n:BA}{c:Int}{i:Bool}(h:sZ fu S n=some (c,i))(hi:¬ (!i)=true):c ∈ S.b:=by
 unfold sZ at h;obtain ⟨v,hv,h⟩:=bs h;cases v with
 | go u=>
  replace h:=gi h;cases h;exact absurd rfl hi
 | out o=>
  cases h;exact Kk _ _ hv
section
variable {fu:Nat}{f:fV->jD->Int->Option (jD × fV)}{g:fV->List jD->Int->Option (List jD × fV)}
def Oe' (f:fV->jD->Int->Option (jD × fV)):Prop:=∀ S x ln x' S' V,f S x ln=some (x',S')->Wd S V->S'.e=0->EO S.b x'
def abM (g:fV->List jD->Int->Option (List jD × fV)):Prop:=∀ S l ln l' S' V,g S l ln=some (l',S')->Wd S V->S'.e=0->∀ y ∈ l',EO S.b y
theorem agr {S:fV}{x:jD}{ln d c:Int}{a1:List jX}{a2 a3 a4:Int}{a5:List kC}{a6:List (List iA)}{a7:List jR}{a8:List Int}(h:oF fu g f S x ln=some (.go (d,c,a1,a2,a3,a4,a5,a6,a7,a8))):x.e=1\/x.e=2\/x.e=3->c ∈ S.b:=by
 unfold oF at h;obtain ⟨v,hv,h⟩:=bs h;cases v with
 | out o=>cases h
 | go b=>
  have hb:b=true ↔ (x.e=1\/x.e=2\/x.e=3):=by
    unfold rF at hv;obtain ⟨h1,hv⟩|⟨h1,hv⟩:=jI hv
    · cases hv;simp [h1]
    · obtain ⟨h2,hv⟩|⟨h2,hv⟩:=jI hv
      · cases hv;simp [h2]
      · cases hv;simp [h1,h2]
  replace h:=gi h;obtain ⟨h1,h⟩|⟨h1,h⟩:=jI h
  · obtain ⟨⟨c',i⟩,hl,h⟩:=bs h;replace h:=pi h;obtain ⟨_,h⟩|⟨hi,h⟩:=jI h
    · obtain ⟨j,_,h⟩:=bs h;cases h
    · have hc:=Xz hl hi;obtain ⟨t,ht,h⟩:=bs h;obtain ⟨m,hm,h⟩:=bs h;obtain ⟨_,h⟩|⟨hk,h⟩:=jI h
      · obtain ⟨k,_,h⟩:=bs h;cases h
      · obtain ⟨h2,h⟩|⟨h2,h⟩:=jI h
        · obtain ⟨u,hu,h⟩:=bs h;obtain ⟨v,hv2,h⟩:=bs h;cases v with
          | out o=>cases h
          | go d'=>
           replace h:=gi h;obtain ⟨_,h⟩|⟨h3,h⟩:=jI h
           · obtain ⟨a,ha,h⟩:=bs h;cases h;exact fun _=>hc
           · cases h;exact fun _=>hc
        · cases h;exact fun _=>hc
  · cases h;exact fun z=>absurd (hb.2 z) h1
theorem adp (hg:abM g):Oe' (sI fu g f):=by
 intro S x ln x' S' V h hw e;unfold sI at h;obtain ⟨c,h⟩|⟨_,h⟩:=jI h
 · cases h;exact absurd e c
 · obtain ⟨v,hv,h⟩:=bs h;cases v with
   | out o=>
    cases h;exact absurd e (abt (V:=V) hv).2.2
   | go s=>
    obtain ⟨a1,a2,a3,a4,a5,a6,a7,a8,a9,a10⟩:=s;have hc:=agr hv;obtain ⟨k1,_⟩:=ae6 hw hv;replace h:=gi h;simp only [pl] at h;obtain ⟨⟨l',S1⟩,h1,h⟩:=bs h;rw [pl] at h;cases h;have q:=hg _ _ _ _ _ V h1 (k1.wd hw) e;refine .mk hc fun y hy=>?_;have:=q y hy
    rwa [show a10=S.b from k1.op] at this
theorem KW (hx:Xe f)(hf:Oe' f){ln:Int}{V:List iA}{O:List Int}:∀ (l:List jD)(k:Nat)(out:List jD)(S:fV)(o:List jD)(a1:List jX)(a2 a3 a4:Int)(a5:List kC)(a6:List (List iA))(a7:List jR)(a8:List Int),Wd S V→S.b=O→
  nk fu g f ln l k out S.a.a.a S.f S.c S.e S.a.a.b S.a.c S.a.b S.b=some (.go (o,a1,a2,a3,a4,a5,a6,a7,a8))->(S.e=0->∀ y ∈ out,EO O y)->(a4=0->S.e=0/\∀ y ∈ o,EO O y)
 | [],_,out,S,_,_,_,_,_,_,_,_,_,hw,hO,h,ho=>by cases h;exact fun z=>⟨z,ho z⟩
 | u :: r,k,out,S,o,a1,a2,a3,a4,a5,a6,a7,a8,hw,hO,h,ho=>fun e=>by rw [nk] at h;obtain ⟨⟨x,S1⟩,h1,h⟩:=bs h;rw [pl] at h;obtain ⟨w,hw',h⟩:=bs h;obtain ⟨_,rfl⟩:=pY hw';obtain ⟨k1,_,_⟩:=hx _ _ _ _ _ V h1 hw;obtain ⟨e1,q⟩:=KW hx hf r _ _ S1 o a1 a2 a3 a4 a5 a6 a7 a8 (k1.wd hw) (k1.op.trans hO) h (fun z=>oO (ho (k1.e z)) (by have:=hf _ _ _ _ _ V h1 hw z;rwa [hO] at this)) e;exact ⟨k1.e e1,q⟩
theorem aad (hx:Xe f)(hf:Oe' f):abM (qK fu g f):=by intro S l ln l' S' V h hw e;unfold qK at h;obtain ⟨v,hv,h⟩:=bs h;obtain ⟨o,a1,a2,a3,a4,a5,a6,a7,a8,rfl,_⟩:=GJ hx hw l _ _ S v .rfl' hv (fun _ y hy=>by cases hy);have q:=KW (O:=S.b) hx hf l _ _ S o a1 a2 a3 a4 a5 a6 a7 a8 hw rfl hv (fun _ y hy=>by cases hy);replace h:=gi h;simp only [pl] at h;cases h;exact (q e).2
end
theorem Qi:∀ fu:Nat,Oe' (yu fu)∧abM (rP fu)
 | 0=>⟨fun _ _ _ _ _ _ h=>(by cases h),fun _ _ _ _ _ _ h=>(by cases h)⟩
 | fu+1=>⟨adp (Qi fu).2,aad (Hg fu).1 (Qi fu).1⟩
def KE:List Int→List jC→List Int
 | O,[]=>O
 | O,x :: l=>KE (if x.b=1 then O ++ [x.f] else O) l
theorem RU:∀ {l m:List jC}{O:List Int},KE O (l ++ m)=KE (KE O l) m
 | [],_,_=>rfl
 | x :: l,m,O=>RU (l:=l)
theorem IL:∀ {l:List jC}{O:List Int},∃ N,KE O l=O ++ N
 | [],O=>⟨[],(EW _).symm⟩
 | x :: l,O=>by
  unfold KE;split
  · obtain ⟨N,h⟩:=IL (l:=l) (O:=O ++ [x.f]);exact ⟨[x.f] ++ N,by rw [h,ES]⟩
  · exact IL
inductive Sc (V:List iA):List Int→List jC→Nat→Nat→Prop
 | nil {O:List Int} {a:Nat}:Sc V O [] a a
 | cons {O:List Int} {x:jC} {l:List jC} {a c d b:Nat} (id:x.n=a) (vi:yg a V 0=O) (ea:∀ y ∈ x.a,EO O y) (et:∀ y ∈ x.e,EO O y) (bo:Sc V O x.d (a+1) c) (el:Sc V (if x.b=8 then O ++ [x.f] else O) x.i c d) (nx:Sc V (if x.b=1 then O ++ [x.f] else O) l d b):Sc V O (x :: l) a b
theorem Sc.app {V:List iA}{O:List Int}{l m:List jC}{a b c:Nat}(h:Sc V O l a b):Sc V (KE O l) m b c->Sc V O (l ++ m) a c:=by
 induction h with
 | nil=>exact id
 | cons i vi ea et bo el _ _ _ ih=>exact fun k=>.cons i vi ea et bo el (ih k)
theorem Sc.le {V:List iA}{O:List Int}{l:List jC}{a b:Nat}(h:Sc V O l a b):a<=b:=by
 induction h with
 | nil=>exact nD _
 | cons _ _ _ _ _ _ _ i1 i2 i3=>omega
structure OS (S:fV)(V:List iA):Prop where
 up:S.b.Pairwise (· < ·)
 lt:∀ j ∈ S.b,0<=j/\j < V.length
 fr:∀ (n:Nat) v,V[n]?=some v->v.e<=S.a.b.length/\((n:Int) ∈ S.b\/v.d < S.a.b.length)
 sl:S.a.b.length<=1000000000
structure Uo (S:fV)(V:List iA)(S':fV)(V':List iA):Prop where
 ln:V.length<=V'.length
 sm:∀ n,n < V.length->V'[n]?=V[n]?
 nw:∀ (n:Nat) v,V.length<=n->V'[n]?=some v->(S.a.b.length:Int) < v.e
 st:S.a.b.length<=S'.a.b.length
 op:∃ N,S'.b=S.b ++ N/\∀ j ∈ N,(V.length:Int)<=j
 os:OS S' V'
theorem Uo.rfl' {S:fV}{V:List iA}(h:OS S V):Uo S V S V:=⟨nD _,fun _ _=>rfl,fun n v h1 h2=>by have:=ku h2;omega,nD _,⟨[],by simp,fun j hj=>(by cases hj)⟩,h⟩
theorem Uo.trans {S S1 S2:fV}{V V1 V2:List iA}(h:Uo S V S1 V1)(k:Uo S1 V1 S2 V2):Uo S V S2 V2:=by
 refine ⟨sO h.ln k.ln,fun n hn=>(k.sm n (Nat.lt_of_lt_of_le hn h.ln)).trans (h.sm n hn),fun n v h1 h2=>?_,sO h.st k.st,?_,k.os⟩
 · by_cases c:n < V1.length
   · rw [k.sm n c] at h2;exact h.nw n v h1 h2
   · have:=k.nw n v (by omega) h2;have:=h.st;omega
 · obtain ⟨N,h1,h2⟩:=h.op;obtain ⟨M,k1,k2⟩:=k.op;refine ⟨N ++ M,by rw [k1,h1,ES],fun j hj=>?_⟩;obtain hj | hj:=qg.1 hj
   · exact h2 j hj
   · have:=k2 j hj;have:=h.ln;omega
structure Fin' (VF V:List iA)(O:List Int)(b:Nat):Prop where
 op:∀ n:Nat,(n:Int) ∈ O->∃ v w,V[n]?=some v/\VF[n]?=some w/\w.e=v.e/\(b:Int)<=w.d+1
 cl:∀ n:Nat,n < V.length->(n:Int) ∉ O->VF[n]?=V[n]?
 nx:∀ (n:Nat) w,V.length<=n->VF[n]?=some w->(b:Int)<=w.e
theorem Uo.new {S S':fV}{V V':List iA}(k:Uo S V S' V')(os:OS S V){n:Nat}(hn:(n:Int) ∈ S'.b)(h:n < V.length):(n:Int) ∈ S.b:=by
 obtain ⟨N,h1,h2⟩:=k.op;rw [h1] at hn;obtain hn | hn:=qg.1 hn
 · exact hn
 · have:=h2 _ hn;omega
theorem Fin'.back {VF V V':List iA}{S S':fV}(h:Fin' VF V' S'.b S'.a.b.length)(k:Uo S V S' V')(os:OS S V):Fin' VF V S.b S.a.b.length:=by
 have hst:=k.st;refine ⟨fun n hn=>?_,fun n hn ho=>?_,fun n w hn hw=>?_⟩
 · have hl:=os.lt _ hn;obtain ⟨v,w,h1,h2,h3,h4⟩:=h.op n (by obtain ⟨N,e,_⟩:=k.op;rw [e];exact List.mem_append_left _ hn);rw [k.sm n (by omega)] at h1;exact ⟨v,w,h1,h2,h3,by omega⟩
 · rw [h.cl n (Nat.lt_of_lt_of_le hn k.ln) fun c=>ho (k.new os c hn)];exact k.sm n hn
 · by_cases c:n < V'.length
   · by_cases d:(n:Int) ∈ S'.b
     · obtain ⟨v,w',h1,h2,h3,h4⟩:=h.op n d;rw [hw] at h2;cases h2;have:=k.nw n v hn h1;omega
     · rw [h.cl n c d] at hw;have:=k.nw n w hn hw;omega
   · have:=h.nx n w (by omega) hw;omega
theorem Vb {i:Int}:∀ (r:List iA)(k j:Nat)(x:iA),r[j]?=some x→x.e≤i→i≤x.d→((k+j:Nat):Int) ∈ yg i r k
 | [],_,_,_,h,_,_=>by simp at h
 | y :: r,k,0,x,h,h1,h2=>by cases h;unfold yg;rw [lF ⟨h1,h2⟩];exact .head _
 | y :: r,k,j+1,x,h,h1,h2=>by
  have:=Vb r (k+1) j x h h1 h2;unfold yg;rw [show k+(j+1)=k+1+j by omega];split
  · exact .tail _ this
  · exact this
theorem Ou:∀ {l m:List Int},l.Pairwise (· < ·)→m.Pairwise (· < ·)→(∀ x,x ∈ l ↔ x ∈ m)→l=m
 | [],[],_,_,_=>rfl
 | [],y :: m,_,_,h=>by have:=(h y).2 (.head _);cases this
 | x :: l,[],_,_,h=>by have:=(h x).1 (.head _);cases this
 | x :: l,y :: m,h1,h2,h=>by
  obtain ⟨a1,a2⟩:=Cr.1 h1;obtain ⟨b1,b2⟩:=Cr.1 h2;have hxy:x=y:=by
    obtain c | c:=nM.1 ((h x).1 (.head _))
    · exact c
    · obtain d | d:=nM.1 ((h y).2 (.head _))
      · exact d.symm
      · have:=b1 x c;have:=a1 y d;omega
  subst hxy;rw [Ou a2 b2 fun z=>⟨fun hz=>?_,fun hz=>?_⟩]
  · obtain c | c:=nM.1 ((h z).1 (.tail _ hz))
    · have:=a1 z hz;omega
    · exact c
  · obtain c | c:=nM.1 ((h z).2 (.tail _ hz))
    · have:=b1 z hz;omega
    · exact c
theorem Ub {VF V V':List iA}{S S':fV}(h:Fin' VF V' S'.b S'.a.b.length)(k:Uo S V S' V')(os:OS S V)(hlt:S.a.b.length < S'.a.b.length):yg S.a.b.length VF 0=S.b:=by
 refine Ou (Vk _ _) os.up fun q=>⟨fun hq=>?_,fun hq=>?_⟩
 · obtain ⟨n,x,rfl,hx,h1,h2⟩:=II _ _ hq;rw [DV];by_cases c:n < V'.length
   · by_cases d:(n:Int) ∈ S'.b
     · by_cases g:n < V.length
       · exact k.new os d g
       · obtain ⟨v,w',a1,a2,a3,a4⟩:=h.op n d;rw [hx] at a2;cases a2;have:=k.nw n v (by omega) a1;omega
     · rw [h.cl n c d] at hx;by_cases g:n < V.length
       · rw [k.sm n g] at hx;obtain a | a:=(os.fr n x hx).2
         · exact a
         · omega
       · have:=k.nw n x (by omega) hx;omega
   · have:=h.nx n x (by omega) hx;omega
 · have hl:=os.lt _ hq;obtain ⟨n,rfl⟩:∃ n:Nat,q=n:=⟨q.toNat,by omega⟩;obtain ⟨v,w,h1,h2,h3,h4⟩:=h.op n (by obtain ⟨N,e,_⟩:=k.op;rw [e];exact List.mem_append_left _ hq);rw [k.sm n (by omega)] at h1;have:=(os.fr n v h1).1;have:=Vb (i:=S.a.b.length) VF 0 n w h2 (by omega) (by omega)
   rwa [DV] at this
theorem JJ {fu:Nat}{S S':fV}{ln j:Int}{v:iA}{V:List iA}(h:nL fu S ln v=some (j,S'))(hw:Wd S V)(e:S'.e=0):j=(V.length:Int)/\S'.f=S.f/\S'.a.b=S.a.b/\S'.b=S.b ++ [(V.length:Int)]/\ix S'.a.c S.f=some (V ++ [v]):=by
 unfold nL at h;obtain ⟨⟨o,c⟩,_,h⟩:=bs h;rw [pl] at h;obtain ⟨t,ht,h⟩:=bs h;rw [hw.v] at ht;cases ht;obtain ⟨c1,h⟩|⟨c1,h⟩:=jI h
 · cases h;exact absurd e c1
 obtain ⟨c2,h⟩|⟨c2,h⟩:=jI h
 · obtain ⟨d,hd,h⟩:=bs h;cases h;exact absurd e (sK (by decide) hd).2
 obtain ⟨c3,h⟩|⟨c3,h⟩:=jI h
 · obtain ⟨d,hd,h⟩:=bs h;cases h;exact absurd e (sK (by decide) hd).2
 obtain ⟨i,hi,h⟩:=bs h;obtain ⟨_,rfl⟩:=pY hi;obtain ⟨op,hop,h⟩:=bs h;obtain ⟨_,rfl⟩:=pY hop;obtain ⟨vs,hvs,h⟩:=bs h;cases h;exact ⟨rfl,rfl,rfl,rfl,(U6 hw hvs).1⟩
theorem OS.decl {S S':fV}{V:List iA}{v:iA}(h:OS S V)(hs:S.a.b.length<=S'.a.b.length)(ho:S'.b=S.b ++ [(V.length:Int)])(hf:v.e<=S'.a.b.length)(hl:S'.a.b.length<=1000000000):OS S' (V ++ [v]):=by
 refine ⟨?_,fun j hj=>?_,fun n x hx=>?_,hl⟩
 · rw [ho];exact List.pairwise_append.2 ⟨h.up,List.pairwise_singleton _ _,fun a ha b hb=>by rw [List.mem_singleton.1 hb];exact (h.lt a ha).2⟩
 · rw [ho] at hj;rw [kD];obtain hj | hj:=qg.1 hj
   · have:=h.lt j hj;omega
   · rw [List.mem_singleton.1 hj];omega
 · rw [ho];by_cases c:n < V.length
   · rw [zQ c] at hx;obtain ⟨h1,h2⟩:=h.fr n x hx;refine ⟨by omega,?_⟩;obtain h2 | h2:=h2
     · exact .inl (List.mem_append_left _ h2)
     · exact .inr (by omega)
   · have hn:n=V.length:=by have:=ku hx;rw [kD] at this;omega
     subst hn;rw [EX (nD _),Nat.sub_self] at hx;cases hx;exact ⟨hf,.inl (List.mem_append_right _ (.head _))⟩
theorem OS.grow {S S':fV}{V:List iA}(h:OS S V)(hs:S.a.b.length<=S'.a.b.length)(ho:S'.b=S.b)(hl:S'.a.b.length<=1000000000):OS S' V:=
 ⟨by rw [ho];exact h.up,by rw [ho];exact h.lt,fun n x hx=>by
  obtain ⟨h1,h2⟩:=h.fr n x hx;refine ⟨by omega,?_⟩;rw [ho];obtain h2 | h2:=h2
  · exact .inl h2
  · exact .inr (by omega),hl⟩
set_option maxRecDepth 4000
inductive SG (E:En):List Int→List jC→Prop
 | nil {O:List Int}:SG E O []
 | cons {O:List Int} {x:jC} {l:List jC} (vi:yg x.n E.V 0=O) (i0:0≤x.n∧x.n≤9999) (a:∀ y ∈ x.a,XG E O y) (t:∀ y ∈ x.e,XG E O y)
  (k1:x.b=1->∃ v,ix? E.V x.f=some v/\(v.b=3->∃ n,pE E.om x.f=some n/\0<=n/\n < (E.ob.length:Int)))
  (ka:x.k=be->x.b≠1->x.b≠8->x.b≠10->x.a≠[]) (k2:x.b=2->x.e≠[]) (kf:x.k≠be->x.b=3\/x.b=6) (kt:∀ y ∈ x.e,(x.b=3->y.e=1)/\1<=y.e/\y.e<=3)
  (kc:x.k≠be->0<=x.h/\E.Ps[x.h.toNat]?=some x.a.length) (k3:x.b=3->x.k≠be) (k8:x.b=8->∃ v,ix? E.V x.f=some v/\v.b=1/\v.a=1)
  (bo:SG E O x.d) (el:SG E (if x.b=8 then O ++ [x.f] else O) x.i) (nx:SG E (if x.b=1 then O ++ [x.f] else O) l):SG E O (x :: l)
structure Ws (E:En)(O:List Int)(H F:List Nat)(K:Sz)(B:List Nat)(s:Lw):Prop where
 w:∃ AR,Ny E F K B AR s
 hn:s.hnd=H
 pe:s.pend=[]
 cu:s.opn=true->Cu E s/\Cw E O s
structure Wc (E:En)(H F:List Nat)(K:Sz)(B:List Nat)(s:Lw):Prop where
 w:∃ AR,Ny E F K B AR s
 hn:s.hnd=H
 pe:s.pend=[]
 op:s.opn=false
section
variable {vis:Int->Int->Option (List Int)}{vars:List (List iA)}
variable {E:En}{a:Int}{O:List Int}{H:List Nat}{N:Nat}{F:List Nat}{K:Sz}{B:List Nat}{L:List Int}{G:List (nO × Nat)}{s s':Lw}
theorem Wq.ws (h:Wq E a O H 0 F K B L G s):Ws E O H F K B s:=⟨h.w,h.hn,List.eq_nil_of_length_eq_zero h.pn,fun _=>⟨h.cu,h.cw⟩⟩
theorem Wx.wc (h:Wx E a H 0 F K B s):Wc E H F K B s:=⟨h.w,h.hn,List.eq_nil_of_length_eq_zero h.pn,h.op⟩
theorem Ws.wq (h:Ws E O H F K B s)(ho:s.opn=true):Wq E s.stmt O H 0 F K B [] [] s:=⟨h.w,rfl,h.hn,by rw [h.pe];rfl,uL _,ho,(h.cu ho).1,(h.cu ho).2,fun v hv=>(by cases hv),fun x hx=>(by cases hx)⟩
theorem Wc.wx (h:Wc E H F K B s):Wx E s.stmt H 0 F K B s:=⟨h.w,rfl,h.hn,by rw [h.pe];rfl,uL _,h.op⟩
theorem Wc.ws (h:Wc E H F K B s):Ws E O H F K B s:=⟨h.w,h.hn,h.pe,fun c=>by rw [h.op] at c;cases c⟩
theorem Ws.sub {O':List Int}(h:Ws E O H F K B s)(k:∀ p ∈ pG E.V O',p ∈ pG E.V O):Ws E O' H F K B s:=⟨h.w,h.hn,h.pe,fun c=>by
 obtain ⟨c1,l,c2,c3⟩:=h.cu c;exact ⟨c1,l,c2,fun p hp=>c3 p (k p hp)⟩⟩
theorem Ws.dr {K':Sz}{B':List Nat}(h:Ws E O H F K B s)(h1:∀ x ∈ K',x ∈ K)(h2:∀ x ∈ B',x ∈ B):Ws E O H F K' B' s:=by obtain ⟨AR,w⟩:=h.w;exact ⟨⟨AR,w.dr h1 h2⟩,h.hn,h.pe,h.cu⟩
theorem Wc.dr {K':Sz}{B':List Nat}(h:Wc E H F K B s)(h1:∀ x ∈ K',x ∈ K)(h2:∀ x ∈ B',x ∈ B):Wc E H F K' B' s:=by obtain ⟨AR,w⟩:=h.w;exact ⟨⟨AR,w.dr h1 h2⟩,h.hn,h.pe,h.op⟩
theorem Ny.perm {AR F':List Nat}(w:Ny E F K B AR s)(p:F.Perm F'):Ny E F' K B AR s:=⟨w.ff,w.ob,w.om,w.pm,w.cx,w.o0,w.o1,w.bl,w.al,w.lb,w.inj,fun k b hb=>(w.bk k b hb).imp id fun q=>q.imp id fun ⟨i,h1,h2⟩=>⟨i,p.mem_iff.1 h1,h2⟩,fun i t h1 h2=>(w.bg i t h1 h2).imp p.mem_iff.1 id,fun i hi=>w.fr i (p.mem_iff.2 hi),p.nodup_iff.1 w.nd,w.kn,w.bn,w.bz⟩
theorem Wx.perm {F':List Nat}(h:Wx E a H N F K B s)(p:F.Perm F'):Wx E a H N F' K B s:=by obtain ⟨AR,w⟩:=h.w;exact ⟨⟨AR,w.perm p⟩,h.st,h.hn,h.pn,h.nz,h.op⟩
theorem Wc.perm {F':List Nat}(h:Wc E H F K B s)(p:F.Perm F'):Wc E H F' K B s:=by obtain ⟨AR,w⟩:=h.w;exact ⟨⟨AR,w.perm p⟩,h.hn,h.pe,h.op⟩
theorem Zj {V:List iA}{l:List jC}{O:List Int}:∀ p ∈ pG V O,p ∈ pG V (KE O l):=fun p hp=>by obtain ⟨M,h⟩:=IL (l:=l) (O:=O);rw [h,IW];exact List.mem_append_left _ hp
theorem Qo {V:List iA}{O P:List Int}:∀ p ∈ pG V O,p ∈ pG V (O ++ P):=fun p hp=>by rw [IW];exact List.mem_append_left _ hp
def KsG (E:En)(st:jC->LM Unit):Prop:=∀ x O l H F K B,SG E O (x :: l)->JK E O H F K B->Hr (fun s=>Ws E O H F K B s/\s.opn=true) (st x) fun _=>Ws E (if x.b=1 then O ++ [x.f] else O) H F K B
theorem JK.sub {O':List Int}(h:JK E O H F K B)(k:∀ p ∈ pG E.V O,p ∈ pG E.V O'):JK E O' H F K B:=fun x hx=>by obtain ⟨O2,k1,k2,k3⟩:=h x hx;exact ⟨O2,k1,k2,fun p hp=>k p (k3 p hp)⟩
theorem Ul {st:jC→LM Unit}(hs:KsG E st):∀ {l:List jC}{O:List Int},SG E O l→JK E O H F K B→Hr (Ws E O H F K B) (rA st l) fun _=>Ws E (KE O l) H F K B
 | [],_,_,_=>FC fun s h=>h
 | x :: l,O,h,hH=>fun s q e hp=>by
  rw [rA] at e;dsimp only at e;split at e
  · rename_i ho;have k:=hs x O l H F K B h hH;cases h with
    | cons vi i0 a t k1 ka k2 kf kt kc k3 k8 bo el nx=>
    have hH2:JK E (if x.b=1 then O ++ [x.f] else O) H F K B:=by
     split
     · exact hH.sub Qo
     · exact hH
    exact rb (P:=fun s=>Ws E O H F K B s/\s.opn=true) (R:=fun _=>Ws E (KE O (x :: l)) H F K B) k (fun _=>Ul hs nx hH2) _ _ e ⟨hp,ho⟩
  · rename_i ho;cases e;exact ⟨hp.w,hp.hn,hp.pe,fun c=>absurd c ho⟩
theorem F4 {st:jC->LM Unit}(hs:KsG E st){l:List jC}(h:SG E O l)(hH:JK E O H F K B):Hr (Ws E O H F K B) (rA st l) fun _=>Ws E O H F K B:=(Ul hs h hH).post fun _ s q=>q.sub Zj
theorem Ny.drop {i:Nat}{AR:List Nat}{t:Int × List Pc}(w:Ny E (i :: F) K B AR s)(ht:s.labs[i]?=some t)(h0:¬ 0<=t.1):Ny E F K B AR s:=by
 refine ⟨w.ff,w.ob,w.om,w.pm,w.cx,w.o0,w.o1,w.bl,w.al,w.lb,w.inj,fun k b hb=>?_,fun j u hu hu0=>?_,fun j hj=>w.fr j (.tail _ hj),(List.nodup_cons.1 w.nd).2,w.kn,w.bn,w.bz⟩
 · obtain q | q | ⟨j,z1,u,z2,z3⟩:=w.bk k b hb
   · exact .inl q
   · exact .inr (.inl q)
   · obtain rfl | z1:=nM.1 z1
     · rw [ht] at z2;cases z2;omega
     · exact .inr (.inr ⟨j,z1,u,z2,z3⟩)
 · obtain q | q:=w.bg j u hu hu0
   · obtain rfl | q:=nM.1 q
     · rw [ht] at hu;cases hu;exact absurd hu0 h0
     · exact .inl q
   · exact .inr q
theorem Wx.num {i:Nat}{t:Int × List Pc}(h:Wx E a H N F K B s)(ht:s.labs[i]?=some t)(h0:0<=t.1):Wx E a H N F K (i :: B) s:=by
 obtain ⟨AR,w⟩:=h.w;refine ⟨⟨AR,w.ff,w.ob,w.om,w.pm,w.cx,w.o0,w.o1,w.bl,w.al,w.lb,w.inj,w.bk,w.bg,w.fr,w.nd,w.kn,fun j hj=>?_,w.bz⟩,h.st,h.hn,h.pn,h.nz,h.op⟩;obtain rfl | hj:=nM.1 hj
 · exact ⟨t,ht,h0⟩
 · exact w.bn j hj
theorem KP {i:Nat}(hE:Zq E)(hO:(pG E.V O).length<=1000)(hk:(i,O,(pG E.V O).length) ∈ K):Hr (Wc E H (i :: F) K B) (xW i) fun _=>Ws E O H F K B:=fun s q e h=>by
 obtain ⟨t,ht,e⟩:=bs e;split at e
 · rename_i h0;exact ((Au (L:=[]) hE (by omega) (by omega) hO (fun v hv=>by cases hv) (.head _) hk (by simp)).post fun _ s z=>(z.ws.dr (fun _=>id) fun _ z=>.tail _ z)) s q e (h.wx.num ht h0)
 · rename_i h0;cases e;obtain ⟨AR,w⟩:=h.w;exact ⟨⟨AR,w.drop ht h0⟩,h.hn,h.pe,fun c=>by rw [h.op] at c;cases c⟩
theorem JC {i:Nat}{O':List Int}(hi:i ∈ F\/i ∈ B)(hk:(i,O',(pG E.V O').length) ∈ K)(hc:∀ p ∈ pG E.V O',p ∈ pG E.V O):Hr (Ws E O H F K B) (xL i) fun _=>Wc E H F K B:=fun s q e h=>by
 unfold xL at e;split at e
 · rename_i ho;exact (rb (zH (L:=[]) 0 hi hk hc (fun _ h=>by cases h) (by simp)) fun ed=>(Dw fun n Ed _ hG=>.jump (hG _ (.head _))).post fun _ s z=>z.wc.dr (fun _=>id) fun _ z=>.tail _ z) s q e (h.wq ho)
 · rename_i ho;cases e;exact ⟨h.w,h.hn,h.pe,by simpa using ho⟩
theorem U5 {i:Nat}(hE:Zq E)(hO:(pG E.V O).length<=1000)(hB:i ∈ B)(hk:(i,O,(pG E.V O).length) ∈ K):Hr (Wc E H (i :: F) K B) (ou i 0) fun _=>Ws E O H F K B:=fun s q e h=>
 ((Au (L:=[]) hE (by omega) (by omega) hO (fun v hv=>by cases hv) hB hk (by simp)).post fun _ s z=>z.ws) s q e h.wx
variable {st:jC->LM Unit}{fu:Nat}{x:jC}
theorem WW (C:Ctx E vis vars a O)(hH:JK E O H F K B)(hs:KsG E st)(hx:x.n=a)(hne:x.a≠[])(ha:∀ y ∈ x.a,XG E O y)(bo:SG E O x.d)(el:SG E O x.i):Hr (Wq E a O H 0 F K B [] []) (Dz vis vars st fu x) fun _=>Ws E O H F K B:=by
 unfold Dz;refine rb (EZ hne fun y hy=>F5 C hH (ha y hy)) fun c=>rb (AV (pG E.V O).length C.sv hx C.vi) fun body=>rb (AV (pG E.V O).length C.sv hx C.vi) fun behind=>?_;have t2:∀ {α:Type}{x y z:α}{l:List α},z ∈ l->z ∈ x :: y :: l:=fun h=>.tail _ (.tail _ h);by_cases c:x.i.length=0
 · simp only [lF c];refine rb (Q:=fun o s=>Wq E a O H 0 (behind :: body :: F) ((behind,O,(pG E.V O).length) :: (body,O,(pG E.V O).length) :: K) B [‹_›] [] s/\o=behind) (FC fun s q=>⟨q,rfl⟩) fun other=>?_;intro s q e hp;obtain ⟨hp,rfl⟩:=hp;have hH2:JK E O H (other :: F) ((other,O,(pG E.V O).length) :: (body,O,(pG E.V O).length) :: K) (other :: body :: B):=hH.mono (fun _ h=>.tail _ h) (fun _ h=>t2 h) fun _ h=>t2 h;refine (rb (zH 0 (.inl (.tail _ (.head _))) (.tail _ (.head _)) (fun _=>id) (fun _ h=>by cases h) (by simp)) fun yes=>rb (zH 0 (.inl (.head _)) (.head _) (fun _=>id) (fun _ h=>by cases h) (by simp)) fun no=>
     rb (Dw fun n Ed hL hG=>.branch (hL _ (.head _)) (hG _ (.tail _ (.head _))) (hG _ (.head _))) fun _=>rb ((Au (i:=body) (F:=other :: F) (L:=[]) (O:=O) C.pf (by omega) (by omega) C.ln (fun v hv=>by cases hv) (.tail _ (.head _)) (.tail _ (.head _)) (by simp)).mono (fun s z=>z.perm (.swap ..)) fun _ s z=>z.ws) fun _=>
     rb (F4 hs bo hH2) fun _=>rb (JC (.inl (.head _)) (.head _) fun _=>id) fun _=>rb (wo (Q:=fun _=>Wc E H (other :: F) ((other,O,(pG E.V O).length) :: (body,O,(pG E.V O).length) :: K) (other :: body :: B)) (fun _=>FC fun s z=>z) fun d=>absurd rfl d) fun _=>(KP C.pf C.ln (.head _)).post fun _ s z=>z.dr (fun _ h=>t2 h) fun _ h=>t2 h) s q e hp
 · simp only [kQ c];refine rb (AV (pG E.V O).length C.sv hx C.vi) fun other=>?_;have hH2:∀ {F'},(∀ x ∈ F,x ∈ F')->JK E O H F' ((other,O,(pG E.V O).length) :: (behind,O,(pG E.V O).length) :: (body,O,(pG E.V O).length) :: K) (other :: body :: B):=fun hF=>hH.mono hF (fun _ h=>.tail _ (t2 h)) fun _ h=>t2 h;refine rb (zH 0 (.inl (t2 (.head _))) (t2 (.head _)) (fun _=>id) (fun _ h=>by cases h) (by simp)) fun yes=>rb (zH 0 (.inl (.head _)) (.head _) (fun _=>id) (fun _ h=>by cases h) (by simp)) fun no=>
     rb (Dw fun n Ed hL hG=>.branch (hL _ (.head _)) (hG _ (.tail _ (.head _))) (hG _ (.head _))) fun _=>rb ((Au (i:=body) (F:=other :: behind :: F) (L:=[]) (O:=O) C.pf (by omega) (by omega) C.ln (fun v hv=>by cases hv) (.tail _ (.head _)) (t2 (.head _)) (by simp)).mono (fun s z=>z.perm ((List.Perm.cons _ (.swap ..)).trans (.swap ..))) fun _ s z=>z.ws) fun _=>
     rb (F4 hs bo (hH2 fun _ h=>t2 h)) fun _=>rb (JC (.inl (.tail _ (.head _))) (.tail _ (.head _)) fun _=>id) fun _=>rb (Q:=fun _=>Wc E H (behind :: F) ((other,O,(pG E.V O).length) :: (behind,O,(pG E.V O).length) :: (body,O,(pG E.V O).length) :: K) (other :: body :: B)) (wo (fun d=>FC fun s z=>?_) fun _=>?_) fun _=>(KP C.pf C.ln (.tail _ (.head _))).post fun _ s z=>z.dr (fun _ h=>.tail _ (t2 h)) fun _ h=>t2 h
   · obtain ⟨AR,w⟩:=z.w;subst d;exact absurd (.head _) (List.nodup_cons.1 w.nd).1
   · exact rb (U5 C.pf C.ln (.head _) (.head _)) fun _=>rb (F4 hs el (hH2 fun _ h=>.tail _ h)) fun _=>JC (.inl (.head _)) (.tail _ (.head _)) fun _=>id
theorem adQ (C:Ctx E vis vars a O)(hH:JK E O H F K B)(hs:KsG E st)(hx:x.n=a)(hne:x.a≠[])(ha:∀ y ∈ x.a,XG E O y)(bo:SG E O x.d):Hr (Wq E a O H 0 F K B [] []) (JW vis vars st fu x) fun _=>Ws E O H F K B:=by
 unfold JW;have t2:∀ {α:Type}{x y z:α}{l:List α},z ∈ l->z ∈ x :: y :: l:=fun h=>.tail _ (.tail _ h);refine rb (AV (pG E.V O).length C.sv hx C.vi) fun head=>rb (AV (pG E.V O).length C.sv hx C.vi) fun body=>rb (AV (pG E.V O).length C.sv hx C.vi) fun behind=>?_;refine rb (Q:=fun _=>Wx E a H 0 (head :: behind :: body :: F) ((behind,O,(pG E.V O).length) :: (body,O,(pG E.V O).length) :: (head,O,(pG E.V O).length) :: K) (head :: B)) (fun s q e h=>?_) fun _=>?_
 · unfold xL at e;rw [lF h.op] at e;exact (rb (zH (L:=[]) 0 (.inl (t2 (.head _))) (t2 (.head _)) (fun _=>id) (fun _ h=>by cases h) (by simp)) fun ed=>(Dw fun n Ed _ hG=>.jump (hG _ (.head _))).post fun _ s z=>z.perm ((List.Perm.cons _ (.swap ..)).trans (.swap ..))) s q e h
 refine rb (Au (L:=[]) C.pf (by omega) (by omega) C.ln (fun v hv=>by cases hv) (.head _) (t2 (.head _)) (by simp)) fun _=>rb (UA C.a0) fun _=>?_;have hH2:∀ {F' B'},(∀ x ∈ F,x ∈ F')->(∀ x ∈ B,x ∈ B')->JK E O H F' ((behind,O,(pG E.V O).length) :: (body,O,(pG E.V O).length) :: (head,O,(pG E.V O).length) :: K) B':=fun hF hB=>hH.mono hF (fun _ h=>.tail _ (t2 h)) hB;refine rb (EZ hne fun y hy=>F5 C (hH2 (fun _ h=>t2 h) fun _ h=>.tail _ h) (ha y hy)) fun c=>rb (zH 0 (.inl (.tail _ (.head _))) (.tail _ (.head _)) (fun _=>id) (fun _ h=>by cases h) (by simp)) fun yes=>rb (zH 0 (.inl (.head _)) (.head _) (fun _=>id) (fun _ h=>by cases h) (by simp)) fun no=>?_;refine rb (Dw fun n Ed hL hG=>.branch (hL _ (.head _)) (hG _ (.tail _ (.head _))) (hG _ (.head _))) fun _=>rb ((Au (i:=body) (F:=behind :: F) (L:=[]) (O:=O) C.pf (by omega) (by omega) C.ln (fun v hv=>by cases hv) (.tail _ (.head _)) (.tail _ (.head _)) (by simp)).mono (fun s z=>z.perm (.swap ..)) fun _ s z=>z.ws) fun _=>?_;exact rb (F4 hs bo (hH2 (fun _ h=>.tail _ h) fun _ h=>.tail _ (t2 h))) fun _=>rb (JC (.inr (t2 (.head _))) (t2 (.head _)) fun _=>id) fun _=>(U5 C.pf C.ln (.head _) (.head _)).post fun _ s z=>z.dr (fun _ h=>.tail _ (t2 h)) fun _ h=>.tail _ (t2 h)
theorem Wq.ext {v:Int}(h:Wq E a O H 0 F K B L G s)(k:∃ l,s.vals=some l/\∀ p ∈ G7 E.V v,has l p):Ws E (O ++ [v]) H F K B s:=⟨h.w,h.hn,List.eq_nil_of_length_eq_zero h.pn,fun _=>⟨h.cu,by
 obtain ⟨l,c1,c2⟩:=h.cw;obtain ⟨l2,d1,d2⟩:=k;rw [c1] at d1;cases d1;refine ⟨l,c1,fun p hp=>?_⟩;rw [IW] at hp;obtain hp | hp:=qg.1 hp
 · exact c2 p hp
 · exact d2 p (by simpa [pG] using hp)⟩⟩
theorem aek (C:Ctx E vis vars a O)(hH:JK E O H F K B)(hs:KsG E st)(hx:x.n=a){i:iA}(hi:ix? E.V x.f=some i)(hi1:i.b=1)(hw:i.a=1)(bo:SG E O x.d)(el:SG E (O ++ [x.f]) x.i):Hr (Wq E a O H 0 F K B [] []) (QE vis vars st x) fun _=>Ws E O H F K B:=by
 unfold QE;have t2:∀ {α:Type}{x y z:α}{l:List α},z ∈ l->z ∈ x :: y :: l:=fun h=>.tail _ (.tail _ h);have hp1:G7 E.V x.f=[(x.f,0)]:=by unfold G7;rw [hi];dsimp only;rw [kQ (by omega),hw];rfl
 refine rb (AV (1+(pG E.V O).length) C.sv hx C.vi) fun h=>rb (AV (pG E.V O).length C.sv hx C.vi) fun behind=>?_;have hH2:∀ {F' B'},(∀ x ∈ F,x ∈ F')->(∀ x ∈ B,x ∈ B')->JK E O H F' ((behind,O,(pG E.V O).length) :: (h,O,1+(pG E.V O).length) :: K) B':=fun hF hB=>hH.mono hF (fun _ h=>t2 h) hB;refine rb (Q:=fun _=>Ws E O (H ++ [h]) (behind :: h :: F) ((behind,O,(pG E.V O).length) :: (h,O,1+(pG E.V O).length) :: K) B) (fun s q e hp=>?_) fun _=>rb (F4 hs bo fun y hy=>?_) fun _=>rb (Q:=fun _=>Ws E O H (behind :: h :: F) ((behind,O,(pG E.V O).length) :: (h,O,1+(pG E.V O).length) :: K) B) (fun s q e hp=>?_) fun _=>rb (JC (.inl (.head _)) (.head _) fun _=>id) fun _ s q e hp=>?_
 · unfold LH at e;split at e <;> cases e;obtain ⟨AR,w⟩:=hp.w;exact ⟨⟨AR,w.same rfl rfl rfl rfl rfl rfl rfl rfl rfl rfl rfl⟩,by dsimp only;rw [hp.hn],List.eq_nil_of_length_eq_zero hp.pn,fun _=>⟨hp.cu,hp.cw⟩⟩
 · obtain hy | hy:=qg.1 hy
   · exact hH2 (fun _ h=>t2 h) (fun _ h=>h) y hy
   · rw [List.mem_singleton.1 hy];exact ⟨O,.tail _ (.head _),.inl (.tail _ (.head _)),fun _=>id⟩
 · unfold LK at e;split at e <;> cases e;obtain ⟨AR,w⟩:=hp.w;exact ⟨⟨AR,w.same rfl rfl rfl rfl rfl rfl rfl rfl rfl rfl rfl⟩,by dsimp only;rw [hp.hn];simp,hp.pe,hp.cu⟩
 · obtain ⟨t,ht,e⟩:=bs e;have hp2:=hp.perm (.swap ..);refine rb (P:=fun s1=>s1=s) (Q:=fun _=>Wc E H (behind :: F) ((behind,O,(pG E.V O).length) :: (h,O,1+(pG E.V O).length) :: K) B) (R:=fun _=>Ws E O H F K B) (wo (fun h0=>?_) fun h0=>FC fun s1 h1=>?_) (fun _=>(KP C.pf C.ln (.head _)).post fun _ s z=>z.dr (fun _ h=>t2 h) fun _ h=>h) _ _ e rfl
   · refine Hr.pre (P:=Wx E s.stmt H 0 (h :: behind :: F) ((behind,O,(pG E.V O).length) :: (h,O,1+(pG E.V O).length) :: K) (h :: B)) ?_ fun s1 h1=>by rw [h1];exact hp2.wx.num ht h0
     refine rb (Au (O:=O) (L:=[0]) C.pf (by omega) (by omega) C.ln (fun v hv=>by rw [List.mem_singleton.1 hv];omega) (.head _) (.tail _ (.head _)) (by simp)) fun _=>rb (Q:=fun _=>Ws E (O ++ [x.f]) H (behind :: F) ((behind,O,(pG E.V O).length) :: (h,O,1+(pG E.V O).length) :: K) (h :: B)) (fun s1 q1 e1 h1=>?_) fun _=>?_
     · have hpc:aaQ (x.f,0):=C.pf.ok [x.f] _ (by simp [pG,hp1]);have:=PY h1 (h1.lv 0 (.head _)) hpc e1;cases q1 with
       | lim=>trivial
       | rt=>exact this
       | ok u s2=>
        obtain ⟨k1,_,l,k2,k3⟩:=this;exact k1.ext ⟨_,k3,fun p hp=>by rw [hp1] at hp;rw [List.mem_singleton.1 hp];exact Sd⟩
     · exact rb (F4 hs el ((hH2 (fun _ h=>.tail _ h) fun _ h=>.tail _ h).sub Qo)) fun _=>(JC (.inl (.head _)) (.head _) Qo).post fun _ s z=>z.dr (fun _=>id) fun _ h=>.tail _ h
   · rw [h1];obtain ⟨AR,w⟩:=hp2.w;exact ⟨⟨AR,w.drop ht h0⟩,hp.hn,hp.pe,hp.op⟩
theorem Wu (C:Ctx E vis vars a O){i:iA}(hi:ix? E.V x.f=some i)(ho:i.b=3->∃ n,pE E.om x.f=some n/\0<=n/\n < (E.ob.length:Int)):Hr (Wq E a O H 0 F K B [] []) (Bw vars x) fun _=>Ws E (O ++ [x.f]) H F K B:=by
 unfold Bw;refine abv C.sv hi (wo (fun c=>?_) fun c=>wo (fun _ s q e=>by cases e) fun _ s q e h=>?_)
 · obtain ⟨n,h1,h2⟩:=ho c;refine Zo h1 ((q_op (fun m _=>.zero h2) (by simp)).post fun _ s z=>z.ext ?_);obtain ⟨l,c1,_⟩:=z.cw;refine ⟨l,c1,fun p hp=>?_⟩;unfold G7 at hp;rw [hi] at hp;dsimp only at hp;rw [lF c] at hp;cases hp
 · have hp1:∀ p,p ∈ G7 E.V x.f ↔ ∃ j:Nat,j < i.a.toNat/\p=(x.f,(j:Int)):=fun p=>by unfold G7;rw [hi];dsimp only;rw [kQ c,List.mem_map];exact ⟨fun ⟨j,h1,h2⟩=>⟨j,List.mem_range.1 h1,h2.symm⟩,fun ⟨j,h1,h2⟩=>⟨j,List.mem_range.2 h1,h2.symm⟩⟩
   have hok:∀ j:Nat,j < i.a.toNat->aaQ (x.f,(j:Int)):=fun j hj=>C.pf.ok [x.f] _ (by simp only [pG,EW];exact (hp1 _).2 ⟨j,hj,rfl⟩);obtain ⟨l,c1,c2⟩:=h.cw;by_cases c0:i.a.toNat=0
   · rw [c0] at e;cases e;exact h.ext ⟨l,c1,fun p hp=>by obtain ⟨j,hj,_⟩:=(hp1 p).1 hp;omega⟩
   · have h1:=hok 0 (by omega);have h2:=hok (i.a.toNat - 1) (by omega);have:=UN h1.1 (by omega) (by have:=h2.2.2;dsimp only at this;omega) h c1 e;cases q with
     | lim=>trivial
     | rt=>exact this
     | ok u s2=>
      obtain ⟨y1,l',y2,y3,y4⟩:=this;refine y1.ext ⟨l',y2,fun p hp=>?_⟩;obtain ⟨j,hj,rfl⟩:=(hp1 p).1 hp;have:=y4 j hj
      rwa [Int.zero_add] at this
theorem Xt (C:Ctx E vis vars a O)(hH:JK E O H F K B){t e:jD}(ht:XG E O t)(ht1:1<=t.e/\t.e<=3)(he:XG E O e):Hr (Wq E a O H 0 F K B [] []) (Ez vis vars fu t e) fun _=>Ws E O H F K B:=by
 cases ht with
 | mk op ar pc ob k=>
 refine wo (fun c3=>?_) fun c3=>?_
 · obtain ⟨⟨i,hi⟩,n,hn,n0,n1⟩:=ob c3;have hne:t.a≠[]:=fun c=>by rw [c,kQ (by omega),lF (by omega)] at ar;cases ar
   exact rb (Vg C hH hne hi fun y hy=>Lh C hH fu y (k y hy) 0) fun _=>rb (Lh C hH fu e he 1) fun _=>rb Od fun v=>rb Od fun d=>Zo hn <| (q_op (fun m hL=>.store (hL _ (.head _)) (hL _ (.tail _ (.head _))) ⟨n0,n1⟩) (by simp)).post fun _ s z=>z.ws
 · have hpc:aaQ (xP t):=C.pf.ok O _ (pc (by omega));exact rb (F5 C hH he) fun v=>rb (Q:=fun u s=>Wq E a O H 0 F K B [u] [] s) (wo (fun _=>(L9 (fun m hL=>.copy (hL _ (.head _))) (by simp)).post fun u s z=>z.l fun x hx=>by rw [List.mem_singleton.1 hx];exact .head _) fun _=>FC fun s z=>z) fun u=>(Xc (.head _) hpc).post fun _ s z=>z.ws
theorem Yf (hE:Zq E)(hS:Sv vis vars E.V E.f):∀ fu,KsG E (vD vis vars fu)
 | 0=>fun _ _ _ _ _ _ _ _ _ s q h=>by cases h
 | fu+1=>fun x O l H F K B h hH s q e hp=>by
  have ih:=Yf hE hS fu;cases h with
  | cons vi i0 ha ht k1 ka k2 kf kt kc k3 k8 bo el nx=>
  have C:Ctx E vis vars x.n O:=⟨hE,hS,i0,vi⟩;have gv:Hr (Wq E x.n O H 0 F K B [] []) (uy 0 |>.bind EK) fun _=>Ws E O H F K B:=rb Ey fun v=>(Dw fun n Ed hL _=>.give (hL _ (.head _))).post fun _ s z=>z.wc.ws;have key:Hr (Wq E x.n O H 0 F K B [] []) (if x.b=5 then JW vis vars (vD vis vars fu) fu x
  else I9 |>.bind fun _=>
   if x.b=1 then Bw vars x
   else if x.b=2 then zG x.e fun t=>zG x.a fun e=>Ez vis vars fu t e
   else if x.b=3 then FQ vis vars fu x |>.bind fun _=>match x.e with
     | []=>oL ()
     | t :: _=>vB (xP t) 0
   else if x.b=4 then Dz vis vars (vD vis vars fu) fu x
   else if x.b=6 then (if x.k≠be then FQ vis vars fu x |>.bind fun _=>EK 0 else zG x.a (lvalue vis vars fu) |>.bind EK)
   else if x.b=7 then zG x.a (lvalue vis vars fu) |>.bind xA
   else if x.b=8 then QE vis vars (vD vis vars fu) x
   else if x.b=9 then zG x.a (lvalue vis vars fu) |>.bind fun v=>lop [⟨18,0,v,0,0,0,0,0,tY⟩]
   else if x.b=10 then uy 0 |>.bind EK
   else oL ()) fun _=>Ws E (if x.b=1 then O ++ [x.f] else O) H F K B:=by
   by_cases c1:x.b=1
   · rw [kQ (by omega),lF c1,lF c1];obtain ⟨v,hv,ho⟩:=k1 c1;exact rb (UA i0) fun _=>Wu C hv ho
   rw [kQ c1,kQ c1];have nf:x.b≠3->x.b≠6->x.k=be:=fun h3 h6=>Classical.byContradiction fun c=>by rcases kf c with c | c <;> contradiction
   refine wo (fun c5=>adQ C hH ih rfl (ka (nf (by omega) (by omega)) c1 (by omega) (by omega)) ha bo) fun _=>rb (UA i0) fun _=>wo (fun c2=>EZ (k2 c2) fun t h1=>EZ (ka (nf (by omega) (by omega)) c1 (by omega) (by omega)) fun e he=>Xt C hH (ht t h1) (kt t h1).2 (ha e he)) fun _=>
     wo (fun c3=>rb (Xv C hH rfl ha (kc (k3 c3)).1 (kc (k3 c3)).2) fun _=>?_) fun _=>
     wo (fun c4=>WW C hH ih rfl (ka (nf (by omega) (by omega)) c1 (by omega) (by omega)) ha bo (by rw [kQ (by omega)] at el;exact el)) fun _=>wo (fun c6=>wo (fun cf=>rb (Xv C hH rfl ha (kc cf).1 (kc cf).2) fun _=>(Dw fun n Ed hL _=>.give (hL _ (.head _))).post fun _ s z=>z.wc.ws) fun cf=>rb (EZ (ka (Classical.not_not.1 cf) c1 (by omega) (by omega)) fun y hy=>F5 C hH (ha y hy)) fun v=>(Dw fun n Ed hL _=>.give (hL _ (.head _))).post fun _ s z=>z.wc.ws) fun _=>
     wo (fun c7=>rb (EZ (ka (nf (by omega) (by omega)) c1 (by omega) (by omega)) fun y hy=>F5 C hH (ha y hy)) fun v=>(UK hH (.head _)).post fun _ s z=>z.wc.ws) fun _=>
     wo (fun c8=>?_) fun _=>wo (fun c9=>rb (EZ (ka (nf (by omega) (by omega)) c1 (by omega) (by omega)) fun y hy=>F5 C hH (ha y hy)) fun v=>(q_op (fun m hL=>.print (hL _ (.head _))) (by simp)).post fun _ s z=>z.ws) fun _=>wo (fun _=>gv) fun _=>FC fun s z=>z.ws
   · split
     · exact FC fun s z=>z.ws
     · rename_i t tl htt;have h1:=kt t (by rw [htt];exact .head _);have h2:=ht t (by rw [htt];exact .head _);cases h2 with
       | mk op ar pc ob k=>exact (Xc (.head _) (C.pf.ok O _ (pc (.inl (h1.1 c3))))).post fun _ s z=>z.ws
   · obtain ⟨v,hv,hv1,hw⟩:=k8 c8;exact aek C hH ih rfl hv hv1 hw bo (by rw [lF c8] at el;exact el)
  refine key _ _ e ?_;have z:=hp.1.wq hp.2;obtain ⟨AR,w⟩:=z.w;exact ⟨⟨AR,w.same rfl rfl rfl rfl rfl rfl rfl rfl rfl rfl rfl⟩,rfl,z.hn,z.pn,z.nz,z.op,z.cu,z.cw,fun v hv=>(by cases hv),fun x hx=>(by cases hx)⟩
end
def wK:List iA→Nat→List xQ
 | [],_=>[]
 | v :: l,i=>if v.b=3 then ⟨0,(i:Int),v.a⟩ :: wK l (i+1) else wK l (i+1)
def EdC (bl:List lN)(n:Int)(e:nO)(more:Nat):Prop:=1<=e.b/\(∃ b,bl[e.b.toNat]?=some b/\b.a=((e.a.length+more:Nat):Int))/\∀ v ∈ e.a,Vl n v
structure abm (Ps:List Nat)(V:List iA)(f:Int)(pn:Nat)(c:nI):Prop where
 pa:c.a=(pn:Int)
 bl:1<=c.b.length/\c.b.length<=400
 so:Bd c.b<=6000
 p0:∃ b,c.b[0]?=some b/\b.a=(pn:Int)
 ct:c.d=[⟨-1,-1,f⟩]
 ob:c.c=wK V 0
 bk:∀ b ∈ c.b,(0<=b.a/\b.a<=999)/\∃ n,n<=9999/\DZ c.c.length b.a b.c n/\Tq Ps (EdC c.b n) n b.b
theorem DZ.le {nob:Nat}{n m:Int}{l:List yB}(h:DZ nob n l m):m<=n+l.length:=by
 induction h with
 | nil=>simp
 | @cons n m o l h _ ih=>
  have:OB o<=1:=by unfold OB;split <;> omega
  simp only [uM];omega
theorem Ri {b:lN}:∀ {l:List lN},b ∈ l→b.c.length≤Bd l
 | c :: l,h=>by
  rw [Bd];obtain rfl | h:=nM.1 h
  · omega
  · have:=Ri h;omega
theorem Ux:∀ {l:List iA}{i:Nat}{s:Lw}{q:Lo Unit},Fh l i s=some q→q.sat fun _ t=>t.f=s.f∧t.b=s.b∧t.ctxs=s.ctxs∧t.blocks=s.blocks∧t.labs=s.labs∧t.ops=s.ops∧t.vals=s.vals∧t.opn=s.opn∧t.pend=s.pend∧t.hnd=s.hnd∧t.blk=s.blk∧t.objs=s.objs ++ wK l i∧
    (∀ (j:Nat) v,l[j]?=some v->v.b=3->∃ n,pE t.omap ((i+j:Nat):Int)=some n/\0<=n/\n < (t.objs.length:Int))/\∀ k:Int,k < i->pE t.omap k=pE s.omap k
 | [],i,s,q,e=>by cases e;exact ⟨rfl,rfl,rfl,rfl,rfl,rfl,rfl,rfl,rfl,rfl,rfl,by simp [wK],fun j v h=>by simp at h,fun _ _=>rfl⟩
 | v :: l,i,s,q,e=>by
  rw [Fh] at e;dsimp only at e;split at e
  · cases e;trivial
  split at e
  · rename_i hk;obtain ⟨o,ho,e⟩:=bs e;rw [CQ ho] at e;have ih:=Ux e;cases q with
    | lim=>trivial
    | rt=>exact ih
    | ok u t=>
     obtain ⟨a1,a2,a3,a4,a5,a6,a7,a8,a9,b1,b2,b3,b4,b5⟩:=ih;have hl:s.objs.length < t.objs.length:=by rw [b3];simp
     refine ⟨a1,a2,a3,a4,a5,a6,a7,a8,a9,b1,b2,?_,fun j w hw hwk=>?_,fun k hk2=>?_⟩
     · rw [b3,wK,lF hk];simp
     · cases j with
       | zero=>
        have:=b5 (i:Int) (by omega);dsimp only at this;rw [xK,lF rfl] at this;exact ⟨_,by rw [Nat.add_zero];exact this,by omega,by omega⟩
       | succ j=>
        rw [show i+(j+1)=i+1+j by omega];exact b4 j w hw hwk
     · have:=b5 k (by omega);dsimp only at this;rw [xK,kQ (by omega)] at this;exact this
  · rename_i hk;have ih:=Ux e;cases q with
    | lim=>trivial
    | rt=>exact ih
    | ok u t=>
     obtain ⟨a1,a2,a3,a4,a5,a6,a7,a8,a9,b1,b2,b3,b4,b5⟩:=ih;refine ⟨a1,a2,a3,a4,a5,a6,a7,a8,a9,b1,b2,?_,fun j w hw hwk=>?_,fun k hk2=>b5 k (by omega)⟩
     · rw [b3,wK,kQ hk]
     · cases j with
       | zero=>cases hw;exact absurd hwk hk
       | succ j=>
        rw [show i+(j+1)=i+1+j by omega];exact b4 j w hw hwk
section
variable {vis:Int->Int->Option (List Int)}{src:jW}{fu:Nat}
theorem lbo {α β:Type}{c:LM α}{k:α->LM β}{s s':Lw}{b:β}(e:c.bind k s=some (.ok b s')):∃ x s1,c s=some (.ok x s1)/\k x s1=some (.ok b s'):=by
 unfold LM.bind at e;obtain ⟨q,hq,e⟩:=bs e;cases q with
 | lim=>cases e
 | rt=>cases e
 | ok x s1=>exact ⟨x,s1,hq,e⟩
theorem aai {t:uG}{s s':Lw}{u:Unit}(e:lend t s=some (.ok u s')):s'.opn=false:=by unfold lend at e;split at e <;> cases e;rfl
theorem Xg {x:jC}(hx:x.b=10){s s':Lw}{u:Unit}{vars:List (List iA)}:∀ {fu:Nat},vD vis vars fu x s=some (.ok u s')→s'.opn=false
 | 0,e=>by cases e
 | fu+1,e=>by rw [vD] at e;dsimp only at e;rw [hx] at e;simp only [show ¬ (10:Int)=5 by decide,show ¬ (10:Int)=1 by decide,show ¬ (10:Int)=2 by decide,show ¬ (10:Int)=3 by decide,show ¬ (10:Int)=4 by decide,show ¬ (10:Int)=6 by decide,show ¬ (10:Int)=7 by decide,show ¬ (10:Int)=8 by decide,show ¬ (10:Int)=9 by decide,if_false,if_true] at e;obtain ⟨_,s1,_,e⟩:=lbo e;obtain ⟨v,s2,_,e⟩:=lbo e;exact aai e
theorem QS {st:jC→LM Unit}{x:jC}(h:∀ s s' u,st x s=some (.ok u s')→s'.opn=false):∀ {l:List jC}{s s':Lw}{u:Unit},rA st (l ++ [x]) s=some (.ok u s')→s'.opn=false
 | [],s,s',u,e=>by
  rw [BZ,rA] at e;dsimp only at e;split at e
  · obtain ⟨_,s1,e1,e⟩:=lbo e;cases e;exact h _ _ _ e1
  · rename_i c;cases e;simpa using c
 | y :: l,s,s',u,e=>by
  rw [List.cons_append,rA] at e;dsimp only at e;split at e
  · obtain ⟨_,s1,e1,e⟩:=lbo e;exact QS h e
  · rename_i c;cases e;simpa using c
structure Fg (vis:Int->Int->Option (List Int))(src:jW)(Ps:List Nat)(f:Nat)(fn:kC)(V:List iA):Prop where
 va:src.c[f]?=some V
 sv:Sv vis src.c V f
 pf:∀ ob om,Zq ⟨V,f,ob,om,Ps,fn.a.length,fn.a.length,[⟨-1,-1,f⟩]⟩
 sg:∀ om,(∀ (j:Nat) v,V[j]?=some v->v.b=3->∃ n,pE om (j:Int)=some n/\0<=n/\n < ((wK V 0).length:Int))->∃ O,SG ⟨V,f,wK V 0,om,Ps,fn.a.length,fn.a.length,[⟨-1,-1,f⟩]⟩ O fn.d/\(pG V O).length=fn.a.length
 en:∃ l x,fn.d=l ++ [x]/\x.b=10
theorem aeC {Ps:List Nat}{f:Nat}{fn:kC}{V:List iA}(hf:src.a.b[f]?=some fn)(h:Fg vis src Ps f fn V){q:Lo Unit}(e:Rl vis src fu (Po f)=some q):q.sat fun _ s=>abm Ps V f fn.a.length s.code:=by
 have hix:∀ {α:Type}{l:List α}{x:α},l[f]?=some x->ix? l (f:Int)=some x:=fun h=>by unfold ix?;rw [kQ (by omega),ET];exact h
 unfold Rl at e;rw [show (Po (f:Int)).f=f from rfl,hix hf,hix h.va] at e;dsimp only at e;unfold LM.bind at e;obtain ⟨q0,e0,e⟩:=bs e;have h0:=Ux e0;cases q0 with
 | lim=>cases e;trivial
 | rt=>exact h0.elim
 | ok u s0=>
 obtain ⟨a1,a2,a3,a4,a5,a6,a7,a8,a9,b1,b2,b3,b4,b5⟩:=h0;have a1:s0.f=(f:Int):=a1;have b3':s0.objs=wK V 0:=by rw [b3];exact BZ _
 obtain ⟨O,hsg,hpl⟩:=h.sg s0.omap fun j v hj hk=>by have:=b4 j v hj hk;rw [DV,b3'] at this;exact this
 obtain ⟨l,x,hbody,hx⟩:=h.en;have hE:=h.pf (wK V 0) s0.omap;revert hsg e;generalize hbl:fn.d=body at *
 intro e hsg;cases hsg with
 | nil=>simp at hbody
 | @cons _ x0 l0 vi i0 ha ht k1 ka k2 kf kt kc k3 k8 bo el nx=>
 have hsg:SG ⟨V,f,wK V 0,s0.omap,Ps,fn.a.length,fn.a.length,[⟨-1,-1,f⟩]⟩ O (x0 :: l0):=.cons vi i0 ha ht k1 ka k2 kf kt kc k3 k8 bo el nx;have e:((sM vis src.c x0.n).bind fun e=>wQ e |>.bind fun _=>ou e 0 |>.bind fun _=>rA (vD vis src.c fu) (x0 :: l0)) s0=some q:=e;unfold LM.bind at e;obtain ⟨q1,e1,e⟩:=bs e;obtain ⟨l1,hl1,e1⟩:=bs e1;obtain ⟨r,hr,e1⟩:=bs e1;rw [a1,h.sv.vi] at hl1;cases hl1;rw [a1,h.sv.va] at hr;obtain rfl:=Qm _ _ _ U0 hr;rw [BZ,vi] at e1;cases e1;have hlabs:s0.labs=[]:=a5;have hblocks:s0.blocks=[]:=a4;have e:((wQ s0.labs.length).bind fun _=>ou s0.labs.length 0 |>.bind fun _=>rA (vD vis src.c fu) (x0 :: l0)) { s0 with labs:=s0.labs ++ [(-1,pG V O)] }=some q:=e;have hn:wQ s0.labs.length { s0 with labs:=s0.labs ++ [(-1,pG V O)] }=some (.ok () { s0 with labs:=[(0,pG V O)],blocks:=[MB] }):=by unfold wQ;rw [hlabs];simp [hblocks]
 unfold LM.bind at e;rw [hn] at e;have e:((ou s0.labs.length 0).bind fun _=>rA (vD vis src.c fu) (x0 :: l0)) { s0 with labs:=[(0,pG V O)],blocks:=[MB] }=some q:=e;rw [hlabs] at e;unfold LM.bind at e;obtain ⟨q2,e2,e⟩:=bs e;have hlt:∀ {i:Nat}{t:Int × List Pc},[((0:Int),pG V O)][i]?=some t->i=0/\t=(0,pG V O):=fun {i t} ht=>by
   have hi:=(List.getElem?_eq_some_iff.1 ht).1;obtain rfl:i=0:=by simp at hi;omega
   exact ⟨rfl,(Kj ht).symm⟩
 have hops:s0.ops=0:=a6;have W0:Ny ⟨V,f,wK V 0,s0.omap,Ps,fn.a.length,fn.a.length,[⟨-1,-1,f⟩]⟩ [0] [] [] [(pG V O).length] { s0 with labs:=[(0,pG V O)],blocks:=[MB] }:=by
   refine ⟨a1,b3',rfl,a2,a3,by dsimp only;rw [hops];rfl,by dsimp only;rw [hops];omega,by simp,rfl,fun i t ht=>?_,fun i j t u ht hu _ _=>?_,fun k b hb=>?_,fun i t ht _=>?_,fun i hi=>?_,by simp,fun x hx=>(by cases hx),fun i hi=>(by cases hi),(0,pG V O),rfl,rfl,by rw [<-hpl];rfl⟩
   · obtain ⟨_,rfl⟩:=hlt ht;simp
   · rw [(hlt ht).1,(hlt hu).1]
   · have hk:k=0:=by have:=(List.getElem?_eq_some_iff.1 hb).1;simp at this;omega
     exact .inr (.inr ⟨0,.head _,(0,pG V O),rfl,by rw [hk];rfl⟩)
   · rw [(hlt ht).1];exact .inl (.head _)
   · rw [List.mem_singleton.1 hi];refine ⟨by simp,fun t ht _=>?_⟩;obtain ⟨_,rfl⟩:=hlt ht;exact ⟨fun c=>absurd a7 c,MB,rfl,rfl⟩
 have W1:Wx ⟨V,f,wK V 0,s0.omap,Ps,fn.a.length,fn.a.length,[⟨-1,-1,f⟩]⟩ s0.stmt [] 0 [0] [] [] { s0 with labs:=[(0,pG V O)],blocks:=[MB] }:=⟨⟨_,W0⟩,rfl,b1,by dsimp only;rw [a9];rfl,Nat.zero_le _,a8⟩;have hO:(pG V O).length<=1000:=by rw [<-vi];exact hE.ln x0.n
 have k2:=LU (L:=[]) (ar:=(pG V O).length) hE (by omega) (by omega) hO (fun v hv=>by cases hv) W0 W1 rfl (by dsimp only;omega) rfl rfl (by simp) e2;cases q2 with
 | lim=>cases e;trivial
 | rt=>exact k2.elim
 | ok u2 s2=>
 have e:rA (vD vis src.c fu) (x0 :: l0) s2=some q:=e;have k3':=Ul (Yf hE h.sv fu) hsg (H:=[]) (fun y hy=>by cases hy) _ _ e k2.ws;cases q with
 | lim=>trivial
 | rt=>exact k3'
 | ok u3 s3=>
 have hop:s3.opn=false:=by rw [hbody] at e;exact QS (fun s s' u h=>Xg hx h) e
 obtain ⟨AR,w⟩:=k3'.w;have hso:Bd s3.blocks<=6000:=by have:=w.o0;have:=w.o1;omega
 have blk:∀ (i:Nat) t,s3.labs[i]?=some t->0<=t.1->∃ b,s3.blocks[t.1.toNat]?=some b/\AR[i]?=some b.a.toNat/\0<=b.a:=fun i t ht h0=>by
   obtain z | ⟨b,z1,z2,z3⟩:=w.bg i t ht h0
   · cases z
   · exact ⟨b,(ix?_nat z1).2.2,z2,z3⟩
 obtain ⟨t0,z1,z2,z3⟩:=w.bz;obtain ⟨b0,y1,y2,y3⟩:=blk 0 t0 z1 (by omega);rw [z2] at y1;rw [z3] at y2;have y2:=Kj y2;refine ⟨w.pm,⟨?_,w.bl⟩,hso,⟨b0,y1,?_⟩,w.cx,w.ob,fun b hb=>?_⟩
 · have:=(List.getElem?_eq_some_iff.1 y1).1;show 1<=s3.blocks.length;omega
 · dsimp only at y2;omega
 · obtain ⟨k,hk⟩:=QK hb;obtain ⟨c1,c2,n,c3,c4⟩|⟨c,_⟩|⟨i,c,_⟩:=w.bk k b hk
   · refine ⟨⟨c1,c2⟩,n,?_,?_,c4.mono fun ed m hed=>?_⟩
     · have:=c3.le;have:=Ri hb;show n<=9999;have h6:Bd s3.code.b<=6000:=hso;omega
     · show DZ s3.objs.length b.a b.c n;rw [w.ob];exact c3
     · obtain ⟨⟨i,t,d1,d2,d3,d4⟩,d5⟩:=hed;obtain ⟨b',g1,g2,g3⟩:=blk i t d1 (by omega);rw [g2] at d4;have d4:=Kj d4;rw [d2] at g1;exact ⟨by omega,⟨b',g1,by omega⟩,d5⟩
   · rw [hop] at c;cases c
   · cases c
end
end Go.Proofs.YtdkneekpdecjbaaGreat
