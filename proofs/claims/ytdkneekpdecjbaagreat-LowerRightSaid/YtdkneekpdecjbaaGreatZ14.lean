/- Lemmas. -/
import Derived.Test.YtdkneekpdecjbaaGreatZ13
import Derived.Test.YtdkneekpdecjbaaGreatZ9
import Derived.Test.YtdkneekpdecjbaaGreatLc
set_option linter.all false
namespace Go.Proofs.YtdkneekpdecjbaaGreat
open Go.RowKit Go.Fw Go.Proofs.Tryz
theorem pl {α β γ:Type}{a:α}{b:β}{f:α->β->γ}:jB (a,b) f=f a b:=rfl
def Sy (k:Int)(f:BA)(t a:Nat):Prop:=(k=3->f≠be)/\(f=be->k≠1->k≠8->k≠10->a≠0)/\(k=2->t≠0)/\(f≠be->k=3\/k=6)
def Ry:Nat→jC→Prop
 | 0,_=>False
 | n+1,x=>(∀ y ∈ x.e,CK 5000 y)/\(x.a.length<=5000/\∀ y ∈ x.a,CK 5000 y)/\(∀ y ∈ x.d,Ry n y)/\(∀ y ∈ x.i,Ry n y)/\Sy x.b x.k x.e.length x.a.length
def FX (f:kC):Prop:=∀ y ∈ f.d,Ry 10 y
theorem Ef.x:∀ {n:Nat}{x:jC},Ef 5000 n x→Ry n x
 | 0,_,h=>h.elim
 | n+1,x,h=>⟨h.1.2,h.2.1,fun y hy=>Ef.x (h.2.2.1.2 y hy),fun y hy=>Ef.x (h.2.2.2.1.2 y hy),fun z=>(h.2.2.2.2.call z).1,fun z a b c e=>h.2.2.2.2.args z a b c (List.eq_nil_of_length_eq_zero e),fun z e=>h.2.2.2.2.targ z (List.eq_nil_of_length_eq_zero e),fun z=>(h.2.2.2.2.func z).1⟩
theorem FOk.x {f:kC}(h:FOk 5000 f):FX f:=fun y hy=>(h.el y hy).x
section
variable {fu:Nat}{f:fV->jD->Int->Option (jD × fV)}{g:fV->List jD->Int->Option (List jD × fV)}
def De (f:fV->jD->Int->Option (jD × fV)):Prop:=∀ S x ln x' S' n,f S x ln=some (x',S')->CK n x->CK n x'
def Des (g:fV->List jD->Int->Option (List jD × fV)):Prop:=∀ S l ln l' S' n,g S l ln=some (l',S')->(∀ y ∈ l,CK n y)->(∀ y ∈ l',CK n y)/\l'.length=l.length
theorem aay {x:jD}:∀ (l:List BA)(k:Nat)(a:Int)(o:jD × fV),oz fu g f x l k a=some (.out o)→False
 | [],_,_,_,h=>by cases h
 | u :: r,k,a,o,h=>by
  rw [oz] at h;obtain ⟨_,h⟩|⟨_,h⟩:=jI h
  · exact aay r _ _ o h
  · exact aay r _ _ o h
theorem agZ {S:fV}{x:jD}{ln:Int}{x':jD}{S':fV}(h:oF fu g f S x ln=some (.out (x',S'))):x'=x:=by
 unfold oF at h;obtain ⟨v,hv,h⟩:=bs h;cases v with
 | out o=>
  unfold rF at hv;obtain ⟨_,hv⟩|⟨_,hv⟩:=jI hv
  · cases hv
  · rcases jI hv with ⟨_,hv⟩|⟨_,hv⟩ <;> cases hv
 | go b=>
  replace h:=gi h;obtain ⟨_,h⟩|⟨_,h⟩:=jI h
  · obtain ⟨⟨c,i⟩,_,h⟩:=bs h;replace h:=pi h;obtain ⟨_,h⟩|⟨_,h⟩:=jI h
    · obtain ⟨j,_,h⟩:=bs h;cases h;rfl
    · obtain ⟨t,_,h⟩:=bs h;obtain ⟨m,_,h⟩:=bs h;obtain ⟨_,h⟩|⟨_,h⟩:=jI h
      · obtain ⟨k,_,h⟩:=bs h;cases h;rfl
      · obtain ⟨_,h⟩|⟨_,h⟩:=jI h
        · obtain ⟨u,_,h⟩:=bs h;obtain ⟨v,hv,h⟩:=bs h;cases v with
          | out o=>exact (aay _ _ _ _ hv).elim
          | go d=>
           replace h:=gi h;obtain ⟨_,h⟩|⟨_,h⟩:=jI h
           · obtain ⟨a,_,h⟩:=bs h;cases h
           · cases h
        · cases h
  · cases h
theorem abW (hg:Des g):De (sI fu g f):=by
 intro S x ln x' S' n h hx;unfold sI at h;obtain ⟨_,h⟩|⟨_,h⟩:=jI h
 · cases h;exact hx
 · obtain ⟨v,hv,h⟩:=bs h;cases v with
   | out o=>cases h;rw [agZ hv];exact hx
   | go s=>
    obtain ⟨a1,a2,a3,a4,a5,a6,a7,a8,a9,a10⟩:=s;replace h:=gi h;simp only [pl] at h;obtain ⟨⟨l',S1⟩,h1,h⟩:=bs h;rw [pl] at h;cases h;cases n with
    | zero=>exact hx.elim
    | succ n=>
     have k:=hg _ _ _ _ _ n h1 hx.2;exact ⟨⟨by rw [show (jD.a _)=l' from rfl,k.2];exact hx.1.1,hx.1.2.1,hx.1.2.2.1,by rw [show (jD.a _)=l' from rfl,k.2];exact hx.1.2.2.2⟩,k.1⟩
theorem MF (hf:De f){ln:Int}{n:Nat}:∀ (l:List jD)(k:Nat)(out:List jD)(a1:List jX)(a2 a3 a4:Int)(a5:List kC)(a6:List (List iA))(a7:List jR)(a8:List Int)(v:Ld (List jD × List jX × Int × Int × Int × List kC × List (List iA) × List jR × List Int) (List jD × fV)),
  nk fu g f ln l k out a1 a2 a3 a4 a5 a6 a7 a8=some v->(∀ y ∈ l,CK n y)->(∀ y ∈ out,CK n y)->∃ o r,v=.go (o,r)/\(∀ y ∈ o,CK n y)/\o.length=out.length+l.length
 | [],_,out,_,_,_,_,_,_,_,_,v,h,_,ho=>by cases h;exact ⟨_,_,rfl,ho,rfl⟩
 | u :: r,k,out,_,_,_,_,_,_,_,_,v,h,hl,ho=>by rw [nk] at h;obtain ⟨⟨x,S1⟩,h1,h⟩:=bs h;rw [pl] at h;obtain ⟨w,hw,h⟩:=bs h;obtain ⟨_,rfl⟩:=pY hw;obtain ⟨o,q,rfl,h2,h3⟩:=MF hf r _ _ _ _ _ _ _ _ _ _ v h (fun y hy=>hl y (.tail _ hy)) (oO ho (hf _ _ _ _ _ n h1 (hl u (.head _))));exact ⟨o,q,rfl,h2,by rw [h3,kD,uM];omega⟩
theorem aah (hf:De f):Des (qK fu g f):=by intro S l ln l' S' n h hl;unfold qK at h;obtain ⟨v,hv,h⟩:=bs h;obtain ⟨o,r,rfl,h1,h2⟩:=MF hf l _ _ _ _ _ _ _ _ _ _ v hv hl (fun y hy=>by cases hy);obtain ⟨a2,a3,a4,a5,a6,a7,a8,a9⟩:=r;replace h:=gi h;simp only [pl] at h;cases h;exact ⟨h1,by rw [h2];exact DV _⟩
end
theorem P8:∀ fu:Nat,De (yu fu)∧Des (rP fu)
 | 0=>⟨fun _ _ _ _ _ _ h=>(by cases h),fun _ _ _ _ _ _ h=>(by cases h)⟩
 | fu+1=>⟨abW (P8 fu).2,aah (P8 fu).1⟩
theorem X5 {fu:Nat}{S:fV}{x:jC}{S':fV}{x':jC}(h:rE fu S x=some (S',x')):∃ c,x'=⟨x.b,x.g,x.n,x.c,x.j,x.m,x.f,x.e,x.k,c,x.a,x.d,x.i⟩:=by
 unfold rE at h;obtain ⟨_,h⟩|⟨_,h⟩:=jI h
 · cases h;exact ⟨x.h,by cases x;rfl⟩
 · obtain ⟨⟨b,d⟩,_,h⟩:=bs h;rw [pl] at h;obtain ⟨_,h⟩|⟨_,h⟩:=jI h
   · obtain ⟨_,_,h⟩:=bs h;cases h;exact ⟨_,rfl⟩
   · obtain ⟨_,_,h⟩:=bs h;obtain ⟨_,h⟩|⟨_,h⟩:=jI h
     · obtain ⟨_,_,h⟩:=bs h;cases h;exact ⟨_,rfl⟩
     · cases h;exact ⟨_,rfl⟩
section
variable {fu:Nat}{f:fV->List jC->Option (List jC × fV)}{g:fV->jC->Option (jC × fV)}
def Db (f:fV->List jC->Option (List jC × fV)):Prop:=∀ S l l' S' n,f S l=some (l',S')->(∀ y ∈ l,Ry n y)->∀ y ∈ l',Ry n y
def Ds (g:fV->jC->Option (jC × fV)):Prop:=∀ S x x' S' n,g S x=some (x',S')->Ry n x->Ry n x'/\x'.b=x.b
theorem agR {S:fV}{x:jC}{r8:List jR}{x':jC}{S':fV}(h:rM fu f g S x r8=some (.out (x',S'))):∃ i,x'=⟨x.b,x.g,i,x.c,x.j,x.m,x.f,x.e,x.k,x.h,x.a,x.d,x.i⟩:=by
 unfold rM at h;obtain ⟨_,h⟩|⟨_,h⟩:=jI h
 · cases h
 · obtain ⟨_,h⟩|⟨_,h⟩:=jI h
   · obtain ⟨⟨c,d⟩,_,h⟩:=bs h;rw [pl] at h;obtain ⟨_,h⟩|⟨_,h⟩:=jI h
     · obtain ⟨_,_,h⟩:=bs h;cases h;exact ⟨_,rfl⟩
     · obtain ⟨_,_,h⟩:=bs h;cases h
   · cases h
theorem afn {S:fV}{x:jC}{r8:List jR}{x':jC}{S':fV}(h:oD fu f g S x r8=some (.out (x',S'))):∃ i v,x'=⟨x.b,x.g,i,x.c,x.j,x.m,v,x.e,x.k,x.h,x.a,x.d,x.i⟩:=by
 unfold oD at h;obtain ⟨_,h⟩|⟨_,h⟩:=jI h
 · obtain ⟨v,hv,h⟩:=bs h;cases v with
   | out o=>
     cases h;obtain ⟨i,e⟩:=agR hv;exact ⟨i,x.f,e⟩
   | go s=>
     obtain ⟨a,b,c⟩:=s;replace h:=gi h;simp only [pl] at h;obtain ⟨⟨j,k⟩,_,h⟩:=bs h;rw [pl] at h;cases h;exact ⟨_,_,rfl⟩
 · obtain ⟨_,h⟩|⟨_,h⟩:=jI h
   · obtain ⟨_,h⟩|⟨_,h⟩:=jI h
     · obtain ⟨_,_,h⟩:=bs h;obtain ⟨_,h⟩|⟨_,h⟩:=jI h
       · obtain ⟨_,_,h⟩:=bs h;cases h
       · cases h
     · cases h
   · cases h
theorem abQ {v:Int}{S:fV}{o:jC × fV}(h:pI fu f g v S=some (.out o)):False:=by
 unfold pI at h;obtain ⟨_,h⟩|⟨_,h⟩:=jI h
 · obtain ⟨_,_,h⟩:=bs h;obtain ⟨_,_,h⟩:=bs h;obtain ⟨_,_,h⟩:=bs h;obtain ⟨_,_,h⟩:=bs h;cases h
 · cases h
theorem agU (hf:Db f){h' c j:Int}{d k:BA}{l:Int}{m:List jD}{p:BA}{t:Int}{u:List jC}{v:List jD}{w:List jC}{S:fV}{x':jC}{S':fV}(h:oG fu f g h' c j d k l m p t u v w S=some (.out (x',S'))) :∃ i z,x'=⟨h',c,j,d,k,l,i,m,p,t,v,w,z⟩/\∀ n,(∀ y ∈ u,Ry n y)->∀ y ∈ z,Ry n y:=by
 unfold oG at h;obtain ⟨_,h⟩|⟨_,h⟩:=jI h
 · obtain ⟨_,h⟩|⟨_,h⟩:=jI h
   · obtain ⟨_,_,h⟩:=bs h;obtain ⟨⟨i,x⟩,_,h⟩:=bs h;rw [pl] at h;obtain ⟨⟨z,a⟩,hz,h⟩:=bs h;rw [pl] at h;obtain ⟨q,hq,h⟩:=bs h;cases q with
     | out o=>exact (abQ hq).elim
     | go A=>
      replace h:=gi h;cases h;exact ⟨_,_,rfl,fun n hn=>hf _ _ _ _ n hz hn⟩
   · cases h
 · cases h
theorem aha {z:fV}{x:jC}{T:List jD}{S:fV}{v:Ld (List jX × Int × Int × Int × List kC × List (List iA) × List jR × List Int × Int × Int × Int × BA × BA × Int × Int × List jD × BA × Int × List jD × List jC × List jC) (jC × fV)}(h:rO fu f g z x T S=some v) :∃ a1 a2 a3 a4 a5 a6 a7 a8 c2 c3 c4 c5 c6 c7 c9,v=.go (a1,a2,a3,a4,a5,a6,a7,a8,x.b,c2,c3,c4,c5,c6,c7,T,x.k,c9,x.a,x.d,x.i):=by
 unfold rO at h;obtain ⟨_,h⟩|⟨_,h⟩:=jI h
 · obtain ⟨⟨c,a⟩,ha,h⟩:=bs h;rw [pl] at h;obtain ⟨cc,rfl⟩:=X5 ha;cases h;exact ⟨_,_,_,_,_,_,_,_,_,_,_,_,_,_,_,rfl⟩
 · cases h;exact ⟨_,_,_,_,_,_,_,_,_,_,_,_,_,_,_,rfl⟩
theorem adC (hf:Db f):Ds (sH fu f g):=by
 intro S x x' S' n h hx;cases n with
 | zero=>exact hx.elim
 | succ n=>
 obtain ⟨h1,h2,h3,h4,h5⟩:=hx;unfold sH at h;obtain ⟨_,h⟩|⟨_,h⟩:=jI h
 · obtain ⟨_,_,h⟩:=bs h;cases h;exact ⟨⟨h1,h2,h3,h4,h5⟩,rfl⟩
 obtain ⟨r8,_,h⟩:=bs h;obtain ⟨v,hv,h⟩:=bs h;cases v with
 | out o=>
   cases h;obtain ⟨i,v,rfl⟩:=afn hv;exact ⟨⟨h1,h2,h3,h4,h5⟩,rfl⟩
 | go s=>
   obtain ⟨a1,a2,a3,a4,a5,a6,a7,a8⟩:=s;replace h:=gi h;simp only [pl] at h;obtain ⟨⟨T,S1⟩,hT,h⟩:=bs h;have k1:=(P8 fu).2 _ _ _ _ _ 5000 hT h1;rw [pl] at h;obtain ⟨v,hv,h⟩:=bs h;obtain ⟨_,_,_,_,_,_,_,_,_,_,_,_,_,_,_,rfl⟩:=aha hv;replace h:=gi h;simp only [pl] at h;obtain ⟨⟨A,S2⟩,hA,h⟩:=bs h;have k2:=(P8 fu).2 _ _ _ _ _ 5000 hA h2.2;rw [pl] at h;obtain ⟨⟨B,S3⟩,hB,h⟩:=bs h;have k3:=hf _ _ _ _ n hB h3;rw [pl] at h;obtain ⟨v,hv,h⟩:=bs h;cases v with
   | out o=>
    cases h;obtain ⟨i,z,rfl,hz⟩:=agU hf hv;exact ⟨⟨k1.1,⟨by rw [k2.2];exact h2.1,k2.1⟩,k3,hz n h4,by dsimp only;rw [k1.2,k2.2];exact h5⟩,rfl⟩
   | go s=>
    replace h:=gi h;obtain ⟨⟨E,S4⟩,hE,h⟩:=bs h;have k4:=hf _ _ _ _ n hE h4;rw [pl] at h;cases h;exact ⟨⟨k1.1,⟨by rw [k2.2];exact h2.1,k2.1⟩,k3,k4,by dsimp only;rw [k1.2,k2.2];exact h5⟩,rfl⟩
theorem GX (hg:Ds g){n:Nat}:∀ (l:List jC)(k:Nat)(out:List jC)(a1:List jX)(a2 a3 a4:Int)(a5:List kC)(a6:List (List iA))(a7:List jR)(a8:List Int)(v:Ld (List jC × List jX × Int × Int × Int × List kC × List (List iA) × List jR × List Int) (List jC × fV)),
  lJ fu f g l k out a1 a2 a3 a4 a5 a6 a7 a8=some v->(∀ y ∈ l,Ry n y)->(∀ y ∈ out,Ry n y)->∃ o r,v=.go (o,r)/\∀ y ∈ o,Ry n y
 | [],_,out,_,_,_,_,_,_,_,_,v,h,_,ho=>by cases h;exact ⟨_,_,rfl,ho⟩
 | u :: r,k,out,_,_,_,_,_,_,_,_,v,h,hl,ho=>by
  rw [lJ] at h;obtain ⟨_,h⟩|⟨_,h⟩:=jI h
  · cases h;exact ⟨_,_,rfl,ho⟩
  obtain ⟨⟨x,S1⟩,h1,h⟩:=bs h;rw [pl] at h;obtain ⟨w,hw,h⟩:=bs h;obtain ⟨_,rfl⟩:=pY hw;exact GX hg r _ _ _ _ _ _ _ _ _ _ v h (fun y hy=>hl y (.tail _ hy)) (oO ho (hg _ _ _ _ n h1 (hl u (.head _))).1)
theorem zO {c:Int}{d:List jR}:∀ (l:List Int)(k:Nat)(a:List (List iA))(o:List jC × fV),mZ fu f g c d l k a=some (.out o)→False
 | [],_,_,_,h=>by cases h
 | e :: r,k,a,o,h=>by rw [mZ] at h;obtain ⟨_,_,h⟩:=bs h;obtain ⟨_,_,h⟩:=bs h;obtain ⟨_,_,h⟩:=bs h;obtain ⟨_,_,h⟩:=bs h;exact zO r _ _ o h
theorem ZE (hg:Ds g):Db (oh fu f g):=by
 intro S l l' S' n h hl;unfold oh at h;obtain ⟨v,hv,h⟩:=bs h;obtain ⟨o,r,rfl,ho⟩:=GX hg l _ _ _ _ _ _ _ _ _ _ v hv hl (fun y hy=>by cases hy);obtain ⟨a2,a3,a4,a5,a6,a7,a8,a9⟩:=r;replace h:=gi h;simp only [pl] at h;obtain ⟨_,_,h⟩:=bs h;obtain ⟨v,hv,h⟩:=bs h;cases v with
 | out q=>exact (zO _ _ _ _ hv).elim
 | go q=>
  replace h:=gi h;obtain ⟨_,_,h⟩:=bs h;obtain ⟨_,_,h⟩:=bs h;cases h;exact ho
end
theorem FJ:∀ fu:Nat,Db (qm fu)∧Ds (vY fu)
 | 0=>⟨fun _ _ _ _ _ h=>(by cases h),fun _ _ _ _ _ h=>(by cases h)⟩
 | fu+1=>⟨ZE (FJ fu).2,adC (FJ fu).1⟩
theorem KU {fu:Nat}{f:fV->List jC->Option (List jC × fV)}{g:fV->jC->Option (jC × fV)}(hg:Ds g){n:Nat}:∀ (l:List jC)(k:Nat)(out:List jC)(a1:List jX)(a2 a3 a4:Int)(a5:List kC)(a6:List (List iA))(a7:List jR)(a8:List Int)(o:List jC)(r:List jX × Int × Int × Int × List kC × List (List iA) × List jR × List Int),
  lJ fu f g l k out a1 a2 a3 a4 a5 a6 a7 a8=some (.go (o,r))->(∀ y ∈ l,Ry n y)->r.2.2.2.1=0->o.map jC.b=out.map jC.b ++ l.map jC.b
 | [],_,out,_,_,_,_,_,_,_,_,o,r,h,_,_=>by cases h;simp
 | u :: l,k,out,_,_,_,_,_,_,_,_,o,r,h,hl,e=>by
  rw [lJ] at h;obtain ⟨c,h⟩|⟨_,h⟩:=jI h
  · cases h;exact absurd e c
  obtain ⟨⟨x,S1⟩,h1,h⟩:=bs h;rw [pl] at h;obtain ⟨w,hw,h⟩:=bs h;obtain ⟨_,rfl⟩:=pY hw;rw [KU hg l _ _ _ _ _ _ _ _ _ _ o r h (fun y hy=>hl y (.tail _ hy)) e,List.map_append,ES,List.map_cons,List.map_cons,List.map_nil,(hg _ _ _ _ n h1 (hl u (.head _))).2];rfl
theorem ZK {fu:Nat}{S:fV}{l l':List jC}{S':fV}{n:Nat}(h:qm fu S l=some (l',S'))(hl:∀ y ∈ l,Ry n y)(e:S'.e=0):l'.map jC.b=l.map jC.b:=by
 cases fu with
 | zero=>cases h
 | succ fu=>
 replace h:oh fu (qm fu) (vY fu) S l=some (l',S'):=h;unfold oh at h;obtain ⟨v,hv,h⟩:=bs h;cases v with
 | out q=>obtain ⟨o,r,hz,_⟩:=GX (FJ fu).2 l _ _ _ _ _ _ _ _ _ _ _ hv hl (fun y hy=>by cases hy);cases hz
 | go q=>
 obtain ⟨o,r⟩:=q;have k:=KU (FJ fu).2 l _ _ _ _ _ _ _ _ _ _ o r hv hl;obtain ⟨a2,a3,a4,a5,a6,a7,a8,a9⟩:=r;replace h:=gi h;simp only [pl] at h;obtain ⟨_,_,h⟩:=bs h;obtain ⟨v,hv,h⟩:=bs h;cases v with
 | out q=>exact (zO _ _ _ _ hv).elim
 | go q=>
  replace h:=gi h;obtain ⟨_,_,h⟩:=bs h;obtain ⟨_,_,h⟩:=bs h;cases h;exact k e
theorem XM {α β:Type}{f:α->β}{l l':List α}{x:α}(h:l'.map f=(l ++ [x]).map f):∃ m y,l'=m ++ [y]/\f y=f x:=by
 rw [List.map_append] at h;obtain ⟨m,n,rfl,_,h2⟩:=List.map_eq_append_iff.1 h;cases n with
 | nil=>cases h2
 | cons y n=>
  cases n with
  | nil=>exact ⟨m,y,rfl,by simpa using h2⟩
  | cons=>simp at h2
theorem Ih {fu:Nat}{m:kC}:∀ (l:List BA)(k:Nat)(a1:List Int)(a2:List jX)(a3 a4 a5:Int)(a6:List kC)(a7:List (List iA))(a8:List jR)(o:kC × fV),kT fu m l k a1 a2 a3 a4 a5 a6 a7 a8=some (.out o)→False
 | [],_,_,_,_,_,_,_,_,_,_,h=>by cases h
 | e :: r,_,_,_,_,_,_,_,_,_,o,h=>by rw [kT] at h;obtain ⟨⟨_,a⟩,_,h⟩:=bs h;rw [pl] at h;exact Ih r _ _ _ _ _ _ _ _ _ o h
theorem IX {fu:Nat}{S:fV}:∀ (l:List BA)(k:Nat)(a:List (List iA))(o:kC × fV),l6 fu S l k a=some (.out o)→False
 | [],_,_,_,h=>by cases h
 | e :: r,_,_,o,h=>by rw [l6] at h;obtain ⟨_,_,h⟩:=bs h;obtain ⟨_,_,h⟩:=bs h;obtain ⟨_,_,h⟩:=bs h;obtain ⟨_,_,h⟩:=bs h;exact IX r _ _ o h
theorem Uw {fu:Nat}{S:fV}{x x':kC}{S':fV}(h:og fu S x=some (x',S'))(hx:FX x):FX x':=by
 unfold og at h;obtain ⟨_,h⟩|⟨_,h⟩:=jI h
 · obtain ⟨_,_,h⟩:=bs h;cases h;exact hx
 obtain ⟨v,hv,h⟩:=bs h;cases v with
 | out o=>exact (Ih _ _ _ _ _ _ _ _ _ _ _ hv).elim
 | go s=>
   obtain ⟨a1,a2,a3,a4,a5,a6,a7,a8⟩:=s;replace h:=gi h;simp only [pl] at h;obtain ⟨_,h⟩|⟨_,h⟩:=jI h
   · obtain ⟨⟨t,a⟩,ht,h⟩:=bs h;rw [pl] at h;obtain ⟨v,hv,h⟩:=bs h;cases v with
     | out o=>exact (IX _ _ _ _ hv).elim
     | go u=>
      replace h:=gi h;cases h;exact (FJ fu).1 _ _ _ _ 10 ht hx
   · cases h;exact hx
def NP (V:List iA):Prop:=∀ (i j:Nat)(x y:iA),i < j->V[i]?=some x->V[j]?=some y->x.c≠y.c\/x.d < y.e
theorem GH {fu:Nat}{x1:kC}{S0:fV}(h0:SI S0 []){O:kC × fV→Prop}:∀ (l:List BA)(k:Nat)(S:fV)(V:List iA),Stp S0 [] S V→(S.e=0→V.length=k∧∀ i:Nat,i < k→(i:Int) ∈ S.b)→
  kP (kT fu x1 l k S.b S.a.a.a S.f S.c S.e S.a.a.b S.a.c S.a.b) (qp (fun r=>jB r fun h r=>jB r fun a r=>jB r fun b r=>jB r fun c r=>jB r fun d r=>jB r fun e r=>jB r fun f g=>∃ V',Stp S0 [] ⟨⟨⟨a,e⟩,f,g⟩,b,h,c,d⟩ V'/\(d=0->V'.length=k+l.length/\∀ i:Nat,i < k+l.length->(i:Int) ∈ h)) O)
 | [],k,S,V,hS,hv=>.go ⟨V,hS,hv⟩
 | u :: r,k,S,V,hS,hv=>by
  rw [kT];refine .bp (JA hS.si (fun z=>(by cases z)) (vP _)) fun v S1 k1=>?_;obtain ⟨V1,k1,_,k3⟩:=k1;refine (GH h0 (O:=O) r (k+1) S1 V1 (hS.trans k1) fun z=>?_).imp fun v hv=>?_
  · have q:=k3 z;have q0:=hv (k1.e z);refine ⟨by rw [q.1,kD,q0.1],fun i hi=>?_⟩;rw [q.2.2];by_cases c:i < k
    · exact qg.2 (.inl (q0.2 i c))
    · obtain rfl:i=V.length:=by omega
      exact qg.2 (.inr (.head _))
  · obtain v | v:=v
    · obtain ⟨a1,a2,a3,a4,a5,a6,a7,a8⟩:=v;obtain ⟨V',b1,b2⟩:=hv;rw [uM];exact ⟨V',b1,fun z=>by have:=b2 z;exact ⟨by omega,fun i hi=>this.2 i (by omega)⟩⟩
    · exact hv
theorem Gw {fu:Nat}{S:fV}{V:List iA}(h:SI S V){O:kC × fV→Prop}:∀ (l:List BA)(k:Nat)(vs:List (List iA))(V1:List iA)(C:Nat→Prop),(∀ i:Nat,k≤i→i < k+l.length→(i:Int) ∈ S.b)→vs=S.a.c.set S.f.toNat V1→Ng ((S.a.b.length:Int) - 1) C V V1→(∀ i,C i→(i:Int) ∈ S.b)→
  kP (l6 fu S l k vs) (qp (fun vs'=>∃ V',vs'=S.a.c.set S.f.toNat V'/\∃ C',Ng ((S.a.b.length:Int) - 1) C' V V'/\∀ i,C' i->(i:Int) ∈ S.b) O)
 | [],_,vs,V1,C,_,h1,h2,h3=>.go ⟨V1,h1,C,h2,h3⟩
 | u :: r,k,vs,V1,C,hl,h1,h2,h3=>by
  have a3:=h.f0;have a4:=h.vl;have a5:=h.st;rw [uM] at hl;have hu:=hl k (nD _) (by omega);have hu2:=h.op _ hu;rw [l6];have hlen:vs.length=S.a.c.length:=by rw [h1,wR]
  have hg:vs[S.f.toNat]?=some V1:=by rw [h1,DJ (by omega)]
  refine .bd (.ix (by omega) (by omega)) fun e he=>?_;rw [hg] at he;obtain rfl:=Kj he;refine .bd (.ix hu2.1 (by rw [h2.len];exact hu2.2)) fun x hx=>?_;refine .bd (.st (by rw [h2.len];exact hu2)) fun w hw=>?_;refine .bd (.st (by omega)) fun w2 hw2=>?_;rw [l8 (by omega) (by omega)] at hw;have k1:=Ng.one (N:=(S.a.b.length:Int) - 1) hx;rw [<-hw] at k1;refine Gw h (O:=O) r (k+1) w2 w _ (fun i hi hi2=>hl i (by omega) (by omega)) (by rw [hw2,h1,List.set_set]) (h2.trans k1) (fun i hi=>?_);obtain hi | rfl:=hi
  · exact h3 i hi
  · exact hu
structure UF (S S':fV):Prop where
 f:S'.f=S.f
 pg:S'.a.a=S.a.a
 vs:∀ k:Nat,(k:Int)≠S.f->S'.a.c[k]?=S.a.c[k]?
 vl:S'.a.c.length=S.a.c.length
 st:S'.a.b.length<=200
 np:S'.e=0->∀ V,S'.a.c[S.f.toNat]?=some V->NP V/\V.length<=24
theorem Stp.uf {S S':fV}{V V':List iA}(h:SI S V)(k:Stp S V S' V')(hn:S'.e=0->NP V'):UF S S':=⟨k.f,k.pg,k.vs,by have:=h.vl;have:=k.si.vl;rw [k.f] at this;omega,k.si.st,fun z W hW=>by
 have:=k.si.v;rw [k.f,hW] at this;obtain rfl:=Kj this;exact ⟨hn z,k.si.vn⟩⟩
theorem NI.np {S:fV}{V:List iA}(h:NI S V):NP V:=fun i j x y hij hi hj=>(h.pr i j x y hij hi hj).imp id And.right
theorem NI.nil {S:fV}:NI S []:=⟨fun i x hi=>(by cases hi),fun i j x y _ hi=>(by cases hi)⟩
theorem UF.of {S S':fV}(h:UF ⟨S.a,S.f,[],S.c,S.e⟩ S'):UF S S':=⟨h.f,h.pg,h.vs,h.vl,h.st,h.np⟩
theorem Um {fu:Nat}{S:fV}{x:kC}(h:SI ⟨S.a,S.f,[],S.c,S.e⟩ [])(hx:FOk 5000 x)(hf:10100<=fu):kP (og fu S x) (fun r=>jB r fun _ S'=>UF S S'):=by
 unfold og;refine .ite (fun c=>.bd (xB (by decide)) fun S' k=>.mk ⟨k.1.f,by rw [k.1.out],fun _ _=>by rw [k.1.out],by rw [k.1.out],by rw [k.1.out];exact h.st,fun z=>absurd z k.2⟩) fun c=>?_;refine .el (GH (O:=fun _=>False) h x.a 0 _ [] (.rfl' h) fun _=>⟨rfl,fun i hi=>absurd hi (Nat.not_lt_zero i)⟩) (fun s hs=>?_) fun _ z=>z.elim;refine .pp hs fun b1 r hs=>.pp hs fun b2 r hs=>.pp hs fun b3 r hs=>.pp hs fun b4 r hs=>.pp hs fun b5 r hs=>.pp hs fun b6 r hs=>.pp hs fun b7 b8 hs=>?_;obtain ⟨V1,k1,k2⟩:=hs;refine .ite (fun d=>?_) fun d=>.mk (k1.uf h fun z=>absurd z d).of;refine .bp ((Mq fu).1 _ V1 x.d 10 k1.si hx.el hx.body (by omega)) fun bd S2 k3=>?_;obtain ⟨V2,k3,k4⟩:=k3;have hk2:=k2 d;refine .el (Gw (O:=fun _=>False) k3.si x.a 0 _ V2 (fun _=>False) (fun i _ hi=>?_) (M4 k3.si.v).symm .rfl' (fun _ z=>z.elim)) (fun vs hvs=>.mk ?_) fun _ z=>z.elim
 · rw [k4];exact hk2.2 i hi
 · obtain ⟨V3,c1,C,c2,c3⟩:=hvs;have s2:=(k1.trans k3).trans (Ng.stp k3.si c2 c1 (fun v hv=>hv) (nD _) c3 fun _ i hi ho=>absurd hi ho);exact (s2.uf h fun z=>(s2.ni z .nil).np).of
theorem HY {fu:Nat}{S0:fV}{u:jX}{k:Nat}(hk:k < S0.a.a.a.length)(hk2:k≤5000){O:fV→Prop}:∀ (n:Nat)(i:Int)(S:fV),0≤i→i≤k→k+1≤n+i→EN S0 S→
  kP (pR fu S0 u k n i S.a.a.a S.f S.c S.e S.a.a.b S.a.c S.a.b S.b) (qp (fun r=>jB r fun _ r=>jB r fun a r=>jB r fun b r=>jB r fun c r=>jB r fun d r=>jB r fun e r=>jB r fun f r=>jB r fun g h=>EN S0 ⟨⟨⟨a,e⟩,f,g⟩,b,h,c,d⟩) O)
 | 0,i,S,h0,h1,hn,hS=>by omega
 | n+1,i,S,h0,h1,hn,hS=>by rw [pR];refine .ite (fun c=>?_) fun _=>.go hS;rw [l8 (by omega) (by omega)];refine .bd (.ix h0 (by omega)) fun e he=>.ite (fun _=>?_) fun _=>HY hk hk2 n (i+1) S (by omega) (by omega) (by omega) hS;exact .bd (xB (by decide)) fun S' k=>HY hk hk2 n (i+1) S' (by omega) (by omega) (by omega) (hS.trans k.1)
theorem G6 {fu:Nat}{S0:fV}{u:jX}{w:BA}{k:Nat}(hk:k < u.a.length)(hk2:k≤5000){O:fV→Prop}:∀ (n:Nat)(i:Int)(S:fV),0≤i→i≤k→k+1≤n+i→EN S0 S→
  kP (pO fu u w k n i S.a.a.a S.f S.c S.e S.a.a.b S.a.c S.a.b S.b) (qp (fun r=>jB r fun _ r=>jB r fun a r=>jB r fun b r=>jB r fun c r=>jB r fun d r=>jB r fun e r=>jB r fun f r=>jB r fun g h=>EN S0 ⟨⟨⟨a,e⟩,f,g⟩,b,h,c,d⟩) O)
 | 0,i,S,h0,h1,hn,hS=>by omega
 | n+1,i,S,h0,h1,hn,hS=>by rw [pO];refine .ite (fun c=>?_) fun _=>.go hS;rw [l8 (by omega) (by omega)];refine .bd (.ix h0 (by omega)) fun e he=>.ite (fun _=>?_) fun _=>G6 hk hk2 n (i+1) S (by omega) (by omega) (by omega) hS;exact .bd (xB (by decide)) fun S' k=>G6 hk hk2 n (i+1) S' (by omega) (by omega) (by omega) (hS.trans k.1)
theorem Lv {fu:Nat}(hf:5002≤fu){S0:fV}{u:jX}(hu:u.a.length≤5000){O:fV→Prop}:∀ (l:List BA)(k:Nat)(S:fV),k+l.length=u.a.length→EN S0 S→
  kP (pX fu u l k S.a.a.a S.f S.c S.e S.a.a.b S.a.c S.a.b S.b) (qp (fun r=>jB r fun a r=>jB r fun b r=>jB r fun c r=>jB r fun d r=>jB r fun e r=>jB r fun f r=>jB r fun g h=>EN S0 ⟨⟨⟨a,e⟩,f,g⟩,b,h,c,d⟩) O)
 | [],_,S,_,hS=>.go hS
 | w :: r,k,S,hk,hS=>by rw [uM] at hk;rw [pX];refine .Gp (G6 (by omega) (by omega) fu 0 S (vP _) (by omega) (by omega) hS) fun s hs=>?_;exact .pp hs fun _ r hs=>.pp hs fun a1 r hs=>.pp hs fun a2 r hs=>.pp hs fun a3 r hs=>.pp hs fun a4 r hs=>.pp hs fun a5 r hs=>.pp hs fun a6 r hs=>.pp hs fun a7 a8 hs=>Lv hf hu (O:=O) _ (k+1) ⟨⟨⟨a1,a5⟩,a6,a7⟩,a2,a8,a3,a4⟩ (by omega) hs
theorem Ej {fu:Nat}(hf:5002≤fu){S0:fV}(hr:S0.a.a.a.length≤5000){O:fV→Prop}:∀ (l:List jX)(k:Nat)(S:fV),k+l.length=S0.a.a.a.length→(∀ u ∈ l,u.a.length≤5000)→EN S0 S→
  kP (pQ fu S0 l k S.a.a.a S.f S.c S.e S.a.a.b S.a.c S.a.b S.b) (qp (fun r=>jB r fun a r=>jB r fun b r=>jB r fun c r=>jB r fun d r=>jB r fun e r=>jB r fun f r=>jB r fun g h=>EN S0 ⟨⟨⟨a,e⟩,f,g⟩,b,h,c,d⟩) O)
 | [],_,S,_,_,hS=>.go hS
 | u :: r,k,S,hk,hl,hS=>by
  rw [uM] at hk;rw [pQ];have hJ:kP (vW fu S.a.a.a S.f S.c S.e S.a.a.b S.a.c S.a.b S.b u k) (qp (fun r=>jB r fun a r=>jB r fun b r=>jB r fun c r=>jB r fun d r=>jB r fun e r=>jB r fun f r=>jB r fun g h=>EN S0 ⟨⟨⟨a,e⟩,f,g⟩,b,h,c,d⟩) O):=by
   unfold vW;have hJ2:kP (wh fu u k) (qp (fun _=>True) O):=by unfold wh;exact .ite (fun _=>.go kE) fun _=>.go kE
   exact .Gp hJ2 fun b _=>.ite (fun _=>.bd (xB (by decide)) fun S' k=>.go (hS.trans k.1)) fun _=>.go hS
  refine .Gp hJ fun s hs=>?_;refine .pp hs fun a1 r hs=>.pp hs fun a2 r hs=>.pp hs fun a3 r hs=>.pp hs fun a4 r hs=>.pp hs fun a5 r hs=>.pp hs fun a6 r hs=>.pp hs fun a7 a8 hs=>?_;refine .Gp (HY (by omega) (by omega) fu 0 ⟨⟨⟨a1,a5⟩,a6,a7⟩,a2,a8,a3,a4⟩ (vP _) (by omega) (by omega) hs) fun s hs=>?_;refine .pp hs fun _ r hs=>.pp hs fun a1 r hs=>.pp hs fun a2 r hs=>.pp hs fun a3 r hs=>.pp hs fun a4 r hs=>.pp hs fun a5 r hs=>.pp hs fun a6 r hs=>.pp hs fun a7 a8 hs=>?_;refine .Gp (Lv hf (hl u (.head _)) u.a 0 ⟨⟨⟨a1,a5⟩,a6,a7⟩,a2,a8,a3,a4⟩ (by omega) hs) fun s hs=>?_;exact .pp hs fun a1 r hs=>.pp hs fun a2 r hs=>.pp hs fun a3 r hs=>.pp hs fun a4 r hs=>.pp hs fun a5 r hs=>.pp hs fun a6 r hs=>.pp hs fun a7 a8 hs=>Ej hf hr (O:=O) _ (k+1) ⟨⟨⟨a1,a5⟩,a6,a7⟩,a2,a8,a3,a4⟩ (by omega) (fun y hy=>hl y (.tail _ hy)) hs
theorem GQ {fu:Nat}{S0:fV}{fn:kC}{m:Int}(hm:m < S0.a.a.b.length)(hm2:m≤5000){O:fV→Prop}:∀ (n:Nat)(i:Int)(S:fV),0≤i→i≤m→m+1≤n+i→EN S0 S→
  kP (nZ fu m fn n i S.a.a.a S.f S.c S.e S.a.a.b S.a.c S.a.b S.b) (qp (fun r=>jB r fun _ r=>jB r fun a r=>jB r fun b r=>jB r fun c r=>jB r fun d r=>jB r fun e r=>jB r fun f r=>jB r fun g h=>EN S0 ⟨⟨⟨a,e⟩,f,g⟩,b,h,c,d⟩) O)
 | 0,i,S,h0,h1,hn,hS=>by omega
 | n+1,i,S,h0,h1,hn,hS=>by rw [nZ];refine .ite (fun c=>?_) fun _=>.go hS;rw [l8 (by omega) (by omega)];refine .bd (.ix h0 (by rw [hS.out];omega)) fun e he=>.ite (fun _=>?_) fun _=>GQ hm hm2 n (i+1) S (by omega) (by omega) (by omega) hS;exact .bd (xB (by decide)) fun S' k=>GQ hm hm2 n (i+1) S' (by omega) (by omega) (by omega) (hS.trans k.1)
theorem Eh {fu:Nat}(hf:5002≤fu){S0:fV}(hr:S0.a.a.b.length≤5000){O:fV→Prop}:∀ (n:Nat)(i:Int)(S:fV),0≤i→i≤S0.a.a.b.length→S0.a.a.b.length+1≤n+i→EN S0 S→
  kP (oM fu S0.a.a.b n i S.a.a.a S.f S.c S.e S.a.a.b S.a.c S.a.b S.b) (qp (fun r=>jB r fun _ r=>jB r fun a r=>jB r fun b r=>jB r fun c r=>jB r fun d r=>jB r fun e r=>jB r fun f r=>jB r fun g h=>EN S0 ⟨⟨⟨a,e⟩,f,g⟩,b,h,c,d⟩) O)
 | 0,i,S,h0,h1,hn,hS=>by omega
 | n+1,i,S,h0,h1,hn,hS=>by
  rw [oM];refine .ite (fun c=>?_) fun _=>.go hS;refine .bd (.ix h0 (by rw [hS.out];omega)) fun fn he=>?_;have hJ:kP (uJ fu i S.a.a.a S.f S.c S.e S.a.a.b S.a.c S.a.b S.b fn) (qp (fun r=>jB r fun a r=>jB r fun b r=>jB r fun c r=>jB r fun d r=>jB r fun e r=>jB r fun f r=>jB r fun g h=>EN S0 ⟨⟨⟨a,e⟩,f,g⟩,b,h,c,d⟩) O):=by unfold uJ;exact .ite (fun _=>.bd (xB (by decide)) fun S' k=>.go (hS.trans k.1)) fun _=>.go hS
  refine .Gp hJ fun s hs=>?_;refine .pp hs fun a1 r hs=>.pp hs fun a2 r hs=>.pp hs fun a3 r hs=>.pp hs fun a4 r hs=>.pp hs fun a5 r hs=>.pp hs fun a6 r hs=>.pp hs fun a7 a8 hs=>?_;refine .Gp (GQ (by omega) (by omega) fu 0 ⟨⟨⟨a1,a5⟩,a6,a7⟩,a2,a8,a3,a4⟩ (vP _) (by omega) (by omega) hs) fun s hs=>?_;rw [l8 (by omega) (by omega)];exact .pp hs fun _ r hs=>.pp hs fun a1 r hs=>.pp hs fun a2 r hs=>.pp hs fun a3 r hs=>.pp hs fun a4 r hs=>.pp hs fun a5 r hs=>.pp hs fun a6 r hs=>.pp hs fun a7 a8 hs=>Eh hf hr (O:=O) n (i+1) ⟨⟨⟨a1,a5⟩,a6,a7⟩,a2,a8,a3,a4⟩ (by omega) (by omega) (by omega) hs
theorem KL {fu:Nat}(hf:5002<=fu){S:fV}(h1:S.a.a.a.length<=5000)(h2:∀ u ∈ S.a.a.a,u.a.length<=5000)(h3:S.a.a.b.length<=5000):kP (tF fu S) (EN S):=by
 unfold tF;refine .el (Ej (O:=fun _=>False) hf h1 _ 0 S (by omega) h2 .rfl') (fun s hs=>?_) fun _ z=>z.elim;refine .pp hs fun a1 r hs=>.pp hs fun a2 r hs=>.pp hs fun a3 r hs=>.pp hs fun a4 r hs=>.pp hs fun a5 r hs=>.pp hs fun a6 r hs=>.pp hs fun a7 a8 hs=>?_;have h4:S.a.a.b=a5:=by rw [<-hs.out]
 subst h4;refine .el (Eh (O:=fun _=>False) hf h3 fu 0 ⟨⟨⟨a1,_⟩,a6,a7⟩,a2,a8,a3,a4⟩ (vP _) (by omega) (by omega) hs) (fun s hs=>?_) fun _ z=>z.elim;exact .pp hs fun _ r hs=>.pp hs fun a1 r hs=>.pp hs fun a2 r hs=>.pp hs fun a3 r hs=>.pp hs fun a4 r hs=>.pp hs fun a5 r hs=>.pp hs fun a6 r hs=>.pp hs fun a7 a8 hs=>.mk hs
theorem LC {fu:Nat}(hf:10100≤fu){p:jV}(hp:VG 5000 p){O:jW × Int × Int→Prop}:∀ (n i:Nat)(a:List jX)(b c d:Int)(e:List kC)(vs:List (List iA))(g:List jR)(h:List Int),e.length=p.b.length→vs.length=i→i≤p.b.length→p.b.length+1≤n+i→g.length≤200→(d=0→∀ V ∈ vs,NP V∧V.length≤24)→(∀ f ∈ e,FX f)→
  kP (mo fu p n i a b c d e vs g h) (qp (fun r=>jB r fun _ r=>jB r fun a r=>jB r fun b r=>jB r fun c r=>jB r fun d r=>jB r fun e r=>jB r fun vs r=>jB r fun g h=>(d=0->(vs.length=p.b.length/\∀ V ∈ vs,NP V/\V.length<=24)/\g.length<=200)/\∀ f ∈ e,FX f) O)
 | 0,i,a,b,c,d,e,vs,g,h,h1,h2,h3,h4,h5,h6,h7=>by omega
 | n+1,i,a,b,c,d,e,vs,g,h,h1,h2,h3,h4,h5,h6,h7=>by
  have hlen:=hp.e;rw [mo];refine .ite (fun k=>?_) fun k=>.go ⟨fun z=>⟨⟨by omega,h6 z⟩,h5⟩,h7⟩;refine .ite (fun k2=>?_) fun k2=>.go ⟨fun z=>absurd z k2,h7⟩;refine .bd (.app (by simp only [uM,yG];omega)) fun r hr=>?_;subst hr;refine .bd (.ix (by omega) k) fun fn hfn=>?_;rw [ET] at hfn;have hsi:SI ⟨⟨⟨a,e⟩,vs ++ [[]],g⟩,(i:Int),[],c,d⟩ []:=⟨by dsimp only;omega,by dsimp only;rw [kD];omega,by dsimp only;rw [Int.toNat_natCast,<-h2,List.getElem?_append_right (Nat.le_refl _),Nat.sub_self];rfl,Nat.zero_le _,fun v hv=>(by cases hv),Nat.zero_le _,h5,fun x hx=>(by cases hx)⟩;refine .XT (Um (S:=⟨⟨⟨a,e⟩,vs ++ [[]],g⟩,(i:Int),h,c,d⟩) hsi (hp.el _ (vS hfn)) hf) fun v ev k3=>?_;obtain ⟨fn',S'⟩:=v;rw [pl] at k3 ⊢;have hfx:=Uw ev (hp.el _ (vS hfn)).x;have hF:S'.a.a.b.length=p.b.length:=by rw [k3.pg];exact h1
  refine .bd (.ix (by omega) (by omega)) fun _ _=>.bd (.st (by omega)) fun r hr=>?_;rw [l8 (by omega) (by omega)];have hv:=k3.vl;dsimp only at hv;rw [kD] at hv;refine LC hf hp (O:=O) n (i+1) _ _ _ _ r _ _ _ (by rw [hr,wR];exact hF) (by omega) (by omega) (by omega) k3.st (fun z V hV=>?_) fun f hf=>by
   subst hr;obtain hf | rfl:=Jw hf
   · exact h7 f (by rw [k3.pg] at hf;exact hf)
   · exact hfx
  obtain ⟨q,hq⟩:=UQ hV;by_cases hqi:q=i
  · subst hqi;exact k3.np z V (by dsimp only;rw [Int.toNat_natCast];exact hq)
  · rw [k3.vs q (by dsimp only;omega)] at hq;dsimp only at hq;rw [zQ (by have:=ku hq;rw [kD] at this;omega)] at hq;exact h6 k2 V (vS hq)
theorem ZJ {fu:Nat}(hf:10100<=fu){p:jV}(hp:VG 5000 p):kP (qj fu p) (fun r=>jB r fun s r=>jB r fun _ e=>e=0->((s.c.length=p.b.length/\∀ V ∈ s.c,NP V/\V.length<=24)/\s.b.length<=200)/\∀ f ∈ s.a.b,FX f):=by have hlen:=hp.e;unfold qj;refine .bd (.app (by simp only [yG];omega)) fun r hr=>?_;rw [BZ] at hr;subst hr;refine .bd (KL (by omega) hp.recs hp.fields hp.e) fun S hS=>?_;have h1:=hS.out;refine .el (LC (O:=fun _=>False) hf hp fu 0 S.a.a.a S.f S.c S.e S.a.a.b S.a.c S.a.b S.b (by rw [h1]) (by rw [h1];rfl) (uL _) (by omega) (by rw [h1];exact uL _) (fun _ V hV=>(by rw [h1] at hV;cases hV)) fun f hf=>(by rw [h1] at hf;exact (hp.el f hf).x)) (fun s hs=>?_) fun _ z=>z.elim;refine .pp hs fun _ r hs=>.pp hs fun a1 r hs=>.pp hs fun a2 r hs=>.pp hs fun a3 r hs=>.pp hs fun a4 r hs=>.pp hs fun a5 r hs=>.pp hs fun a6 r hs=>.pp hs fun a7 a8 hs=>?_;refine .ite (fun c=>.mk fun z=>absurd z c) fun c=>.mk fun _=>⟨hs.1 (by omega),hs.2⟩
structure TQ (T:jP):Prop where
 lo:0<=T.a
 hi:T.a<=T.l.length
 len:T.l.length<=1000
def GE:Nat→jD→Prop
 | 0,_=>False
 | d+1,x=>(x.c.size<=4/\x.b.size<=4/\0<=x.d/\x.d<=999999999999999999)/\x.a.length<=2/\∀ y ∈ x.a,GE d y
theorem GE.mono:∀ {n m:Nat}{x:jD},GE n x→n≤m→GE m x
 | 0,_,_,h,_=>h.elim
 | n+1,0,_,h,k=>by omega
 | n+1,m+1,x,h,k=>⟨h.1,h.2.1,fun y hy=>GE.mono (h.2.2 y hy) (by omega)⟩
structure MP (M:lX):Prop where
 b:M.b.length=4/\∀ p ∈ M.b,0<=p/\p<=4
 f:0<=M.f/\M.f < M.e/\M.e<=4
 ns:(M.a.length:Int)+M.h<=40/\∀ n ∈ M.a,n.size<=4
 np:(M.d.length:Int)+M.h<=40/\∀ n ∈ M.d,n.size<=4
 na:(M.c.length:Int)+M.h<=40/\∀ n ∈ M.c,n.size<=4
 c:0<=M.g/\M.g+M.h<=22
 l:0<=M.h
theorem aeR {fu:Nat}{n k:Int}(h1:1<=k)(h2:k<=1000000000):kP (D9 fu n k) (fun v=>0<=v/\v < k):=by
 unfold D9;have e1:n.tmod k < k:=Int.tmod_lt_of_pos n (by omega);have e2:-k < n.tmod k:=by have h:=Int.natAbs_tmod n k;have h3:n.natAbs % k.natAbs < k.natAbs:=Nat.mod_lt _ (by omega);omega
 rw [kQ (by omega)];refine .ite (fun c=>.mk ?_) fun c=>.mk ⟨by omega,e1⟩;rw [l8 (by omega) (by omega)];omega
theorem qI {fu:Nat}{T:jP}{k:Int}(h:TQ T)(h1:1<=k)(h2:k<=1000):kP (kF fu T k) (fun r=>jB r fun v T'=>(0<=v/\v < k)/\TQ T'):=by have h3:=h.lo;have h4:=h.hi;have h5:=h.len;unfold kF;refine .ite (fun c=>.mk ⟨⟨vP _,by omega⟩,h⟩) fun c=>?_;rw [l8 (n:=T.a+1) (by omega) (by omega),l8 (n:=T.a+1 - 1) (by omega) (by omega)];refine .bd (.ix (by omega) (by omega)) fun e _=>.bd (aeR h1 (by omega)) fun v hv=>.mk ⟨hv,⟨by dsimp only;omega,by dsimp only;omega,h5⟩⟩
theorem adu {fu:Nat}{T:jP}:kP (Er fu T) (fun _=>True):=.mk kE
theorem Fx {α:Type}{fu:Nat}{T:jP}{l:List α}{β:Type}{f:α->jP->Option β}{P:β->Prop}(h:TQ T)(h1:1<=l.length)(h2:l.length<=1000)(k:∀ x T',x ∈ l->TQ T'->kP (f x T') P):kP ((kF fu T ((l.length:Nat):Int)).bind fun r=>jB r fun v T'=>(ix l v).bind fun x=>f x T') P:=
 .bp (qI h (by omega) (by omega)) fun v T' hv=>.bd (.ix hv.1.1 hv.1.2) fun x hx=>k x T' (vS hx) hv.2
theorem Yp {fu:Nat}{T:jP}(h:TQ T):kP (zD fu T) (fun r=>jB r fun v T'=>(0<=v/\v<=999999999999999999)/\TQ T'):=by unfold zD;refine Fx h (by decide) (by decide) fun x T' hx hT=>.mk ⟨?_,hT⟩;revert x;decide
theorem F3 {fu:Nat}{n:Int}(h:0<=n/\n<=999999999999999999):kP (tQ fu n) (fun x=>GE 1 x):=.mk ⟨⟨uL _,uL _,h.1,h.2⟩,uL _,fun y hy=>(by cases hy)⟩
theorem x9 {fu:Nat}{n:BA}(h:n.size<=4):kP (oP fu n) (fun x=>GE 1 x):=.mk ⟨⟨h,uL _,(by decide:(0:Int)<=0),(by decide:(0:Int)<=999999999999999999)⟩,uL _,fun y hy=>(by cases hy)⟩
theorem M9:∀ (l:List Int)(r:BA),(l.foldl (fun r n=>r.push (UInt8.ofNat n.toNat)) r).size=r.size+l.length
 | [],r=>rfl
 | x :: l,r=>by rw [List.foldl_cons,M9 l,ByteArray.size_push,uM];omega
theorem Yx {l:List Jc}:(bst l).size=l.length:=by unfold bst Go.Fw.strOf;rw [M9,Dg];exact DV _
theorem Fp:∀ {d fu:Nat}{n:Int},0≤n→n < 10 ^ d→1≤d→d≤18→d≤fu→kP (tC fu n) (fun s=>s.size≤d)
 | 0,_,_,_,_,h,_,_=>by omega
 | d+1,0,_,_,_,_,_,h=>by omega
 | d+1,fu+1,n,h0,h1,_,h3,h4=>by
  show kP (zx fu (tC fu) n) _;unfold zx;rw [kQ (by omega)];refine .ite (fun c=>.mk (by rw [Yx];exact Nat.succ_le_succ (uL _))) fun c=>?_;have hd:1<=d:=by
   obtain _ | d:=d
   · omega
   · omega
  have e1:n.tdiv 10=n / 10:=Int.tdiv_eq_ediv_of_nonneg h0;have e2:n.tmod 10=n % 10:=Int.tmod_eq_emod_of_nonneg h0;have e3:n / 10 < 10 ^ d:=by rw [Int.pow_succ] at h1;omega
  have e4:(10:Int) ^ d<=10 ^ 17:=by
   have h5:(10:Nat) ^ d<=10 ^ 17:=Nat.pow_le_pow_right (by decide) (by omega)
   exact_mod_cast h5
  rw [e1,e2,l8 (by omega) (by omega)];refine .bd (Fp (d:=d) (by omega) e3 hd (by omega) (by omega)) fun s hs=>?_;refine .bd (Fp (d:=1) (by omega) (by omega) (by omega) (by omega) (by omega)) fun t ht=>?_;refine .bd (.cat (by omega)) fun r hr=>.mk ?_;rw [hr,FL];omega
theorem Qk {fu:Nat}{M:lX}{T:jP}(hf:3<=fu)(h0:0<=M.g)(h1:M.g<=30):kP (wC fu M T) (fun r=>jB r fun s M'=>s.size<=4/\M'=⟨M.f,M.e,M.b,M.a,M.d,M.c,M.g+1,M.h⟩):=by unfold wC;rw [l8 (by omega) (by omega)];refine .bd (Fp (d:=2) (by omega) (by omega) (by omega) (by omega) (by omega)) fun s hs=>?_;refine .bd (.cat (by have:(⟨#[118]⟩:BA).size=1:=rfl;omega)) fun r hr=>.mk ⟨?_,rfl⟩;have:(⟨#[118]⟩:BA).size=1:=rfl;rw [hr,FL];omega
def XP (d:Nat)(M:lX)(r:jD × lX × jP):Prop:=jB r fun x r=>jB r fun M' T'=>GE d x/\M'=M/\TQ T'
theorem GE.mk1 {d:Nat}{op:Int}{n f:BA}{y:jD}(h1:n.size<=4)(h2:f.size<=4)(h:GE d y):GE (d+1) ⟨op,0,0,n,f,[y]⟩:=⟨⟨h1,h2,(by decide:(0:Int)<=0),(by decide:(0:Int)<=999999999999999999)⟩,(by decide:1<=2),fun z hz=>by
 simp only [nM,Dl,or_false] at hz;subst hz;exact h⟩
theorem GE.mk2 {d:Nat}{op:Int}{n f:BA}{y y':jD}(h1:n.size<=4)(h2:f.size<=4)(h:GE d y)(h':GE d y'):GE (d+1) ⟨op,0,0,n,f,[y,y']⟩:=⟨⟨h1,h2,(by decide:(0:Int)<=0),(by decide:(0:Int)<=999999999999999999)⟩,(by decide:2<=2),fun z hz=>by
 simp only [nM,Dl,or_false] at hz;rcases hz with hz | hz <;> subst hz
 · exact h
 · exact h'⟩
theorem GE.mk0 {d:Nat}{op:Int}{n f:BA}(h1:n.size<=4)(h2:f.size<=4):GE (d+1) ⟨op,0,0,n,f,[]⟩:=⟨⟨h1,h2,(by decide:(0:Int)<=0),(by decide:(0:Int)<=999999999999999999)⟩,(by decide:0<=2),fun z hz=>by cases hz⟩
theorem Qe:∀ x ∈ ([(⟨#[120]⟩:BA),(⟨#[121]⟩:BA)]:List BA),x.size<=4:=by intro x hx;simp only [nM,Dl,or_false] at hx;rcases hx with rfl | rfl <;> decide
def acN (fu:Nat):Prop:=∀ (M:lX)(T:jP)(e:Nat),MP M->TQ T->e<=3->2 * e+3<=fu->kP (mU fu M T (3 - e)) (XP (e+1) M)
def agC (fu:Nat):Prop:=∀ (M:lX)(T:jP)(e:Nat),MP M->TQ T->e<=2->2 * e+4<=fu->0 < M.c.length->kP (nN fu M T (3 - e)) (XP (e+2) M)
theorem acN.dn {fu:Nat}(h:acN fu){M:lX}{T:jP}{e:Nat}{x:Int}(h1:MP M)(h2:TQ T)(h3:e<=3)(h4:2 * e+3<=fu)(hx:x=3 - e):kP (mU fu M T x) (XP (e+1) M):=by subst hx;exact h M T e h1 h2 h3 h4
theorem Uv:∀ (fu:Nat),acN fu∧agC fu
 | 0=>⟨fun _ _ _ _ _ _ h=>by omega,fun _ _ _ _ _ _ h=>by omega⟩
 | fu+1=>by
  have ih:=Uv fu;constructor
  · intro M T e hM hT he hf;show kP (CJ fu (mU fu) (nN fu) M T _) _;unfold CJ;have n1:=hM.ns;have n2:=hM.np;have n3:=hM.na;have hl:=hM.l;refine .bp (qI hT (by decide) (by decide)) fun k T1 h1=>?_;have hJ0:kP (AP fu (mU fu) (nN fu) (3 - e) k) (qp (fun b=>b=false->1<=e) (fun _=>False)):=by unfold AP;exact .ite (fun c=>.go fun z=>(by cases z)) fun c=>.go fun _=>by omega
    refine .el hJ0 (fun b hb=>?_) fun _ z=>z.elim;refine .ite (fun _=>?_) fun hb0=>?_
    · exact .bp (Yp h1.2) fun v T2 h2=>.bd (F3 h2.1) fun x hx=>.mk ⟨hx.mono (by omega),rfl,h2.2⟩
    have he1:1<=e:=hb (by simpa using hb0);have hJ1:kP (AO fu (mU fu) (nN fu) M k) (qp (fun b=>b=true->0 < M.a.length) (fun _=>False)):=by unfold AO;exact .ite (fun c=>.go fun z=>by have:=Dh z;omega) fun c=>.go fun z=>(by cases z)
    refine .el hJ1 (fun b hb=>?_) fun _ z=>z.elim;refine .ite (fun hb0=>?_) fun hb0=>?_
    · have:=hb hb0;exact Fx h1.2 (by omega) (by omega) fun s T2 hs h2=>.bd (x9 (n1.2 s hs)) fun x hx=>.mk ⟨hx.mono (by omega),rfl,h2⟩
    have hJ2:kP (Aw fu (mU fu) (nN fu) M k) (qp (fun b=>b=true->0 < M.d.length) (fun _=>False)):=by unfold Aw;exact .ite (fun c=>.go fun z=>by have:=Dh z;omega) fun c=>.go fun z=>(by cases z)
    refine .el hJ2 (fun b hb=>?_) fun _ z=>z.elim;refine .ite (fun hb0=>?_) fun hb0=>?_
    · have:=hb hb0;exact Fx h1.2 (by omega) (by omega) fun s T2 hs h2=>.bp (qI h2 (by decide) (by decide)) fun v T3 h3=>.bd (.ix h3.1.1 h3.1.2) fun f hf=>.mk ⟨GE.mk0 (n2.2 s hs) (Qe f (vS hf)),rfl,h3.2⟩
    have hJ3:kP (Ay fu (mU fu) (nN fu) M k) (qp (fun b=>b=true->0 < M.c.length) (fun _=>False)):=by unfold Ay;exact .ite (fun c=>.go fun z=>by have:=Dh z;omega) fun c=>.go fun z=>(by cases z)
    refine .el hJ3 (fun b hb3=>?_) fun _ z=>z.elim;obtain ⟨e,rfl⟩:∃ e',e=e'+1:=⟨e - 1,by omega⟩;have hw:wr ((3:Int) - ((e+1:Nat):Int)+1)=3 - (e:Int):=by rw [l8 (by omega) (by omega)];omega
    rw [hw];refine .ite (fun hb0=>?_) fun hb0=>?_
    · refine .bp (ih.2 M T1 e hM h1.2 (by omega) (by omega) (hb3 hb0)) fun x r hx=>.pp hx fun M' T' hx=>.mk ?_;exact hx
    refine .ite (fun _=>?_) fun _=>?_
    · refine .bp (qI h1.2 (by decide) (by decide)) fun v T2 h2=>.bp (ih.1 M T2 e hM h2.2 (by omega) (by omega)) fun x r hx=>.pp hx fun M' T' hx=>.mk ⟨?_,hx.2⟩;exact GE.mk1 (uL _) (uL _) hx.1
    · refine .bp (qI h1.2 (by decide) (by decide)) fun v T2 h2=>.bp (ih.1 M T2 e hM h2.2 (by omega) (by omega)) fun x r hx=>.pp hx fun M' T' hx=>?_;obtain ⟨hx1,rfl,hx3⟩:=hx;refine .bp (ih.1 M' T' e hM hx3 (by omega) (by omega)) fun y r hy=>.pp hy fun M2 T3 hy=>.mk ⟨?_,hy.2⟩;exact GE.mk2 (uL _) (uL _) hx1 hy.1
  · intro M T e hM hT he hf ha;show kP (xJ fu (mU fu) (nN fu) M T _) _;unfold xJ;have n3:=hM.na;have hl:=hM.l;refine Fx hT (by omega) (by omega) fun s T1 hs h1=>.bp (qI h1 (by decide) (by decide)) fun v T2 h2=>?_;refine .ite (fun _=>?_) fun _=>?_
    · exact .bp (qI h2.2 (by decide) (by decide)) fun v3 T3 h3=>.bd (F3 ⟨h3.1.1,by have:=h3.1.2;omega⟩) fun x hx=>.mk ⟨GE.mk1 (n3.2 s hs) (uL _) (hx.mono (by omega)),rfl,h3.2⟩
    · exact .bp (ih.1 M T2 e hM h2.2 (by omega) (by omega)) fun x r hx=>.pp hx fun M' T' hx=>.mk ⟨GE.mk1 (n3.2 s hs) (uL _) hx.1,hx.2⟩
theorem Fb {fu:Nat}(hf:9<=fu){M:lX}{T:jP}(hM:MP M)(hT:TQ T){d:Int}(h0:0<=d)(h3:d<=3):kP (mU fu M T d) (XP 4 M):=by have h:=(Uv fu).1 M T (3 - d.toNat) hM hT (by omega) (by omega);rw [show (3:Int) - ((3 - d.toNat:Nat):Int)=d from by omega] at h;exact h.imp fun v hv=>⟨hv.1.mono (by omega),hv.2⟩
theorem VQ {fu:Nat}(hf:8<=fu){M:lX}{T:jP}(hM:MP M)(hT:TQ T)(ha:0 < M.c.length):kP (nN fu M T 1) (XP 4 M):=(Uv fu).2 M T 2 hM hT (by decide) (by omega) ha
def GS:Nat→jC→Prop
 | 0,_=>False
 | k+1,x=>(x.c.size<=4/\x.j.size<=4/\x.k.size<=4/\0<=x.m/\x.m<=9)/\(x.e.length<=1/\∀ y ∈ x.e,GE 4 y)/\(x.a.length<=4/\∀ y ∈ x.a,GE 4 y)/\(x.d.length<=9/\∀ y ∈ x.d,GS k y)/\(x.i.length<=9/\∀ y ∈ x.i,GS k y)
theorem GS.mono:∀ {n m:Nat}{x:jC},GS n x→n≤m→GS m x
 | 0,_,_,h,_=>h.elim
 | n+1,0,_,h,k=>by omega
 | n+1,m+1,x,h,k=>⟨h.1,h.2.1,h.2.2.1,⟨h.2.2.2.1.1,fun y hy=>GS.mono (h.2.2.2.1.2 y hy) (by omega)⟩,⟨h.2.2.2.2.1,fun y hy=>GS.mono (h.2.2.2.2.2 y hy) (by omega)⟩⟩
theorem GS.mk {j:Nat}{kd ln id len vr ca:Int}{nm ty fn:BA}{tg ar:List jD}{bo el:List jC}(h1:nm.size<=4)(h2:ty.size<=4)(h3:fn.size<=4)(h4:0<=len/\len<=9)(h5:tg.length<=1/\∀ y ∈ tg,GE 4 y)(h6:ar.length<=4/\∀ y ∈ ar,GE 4 y)(h7:bo.length<=9/\∀ y ∈ bo,GS j y)(h8:el.length<=9/\∀ y ∈ el,GS j y):GS (j+1) ⟨kd,ln,id,nm,ty,len,vr,tg,fn,ca,ar,bo,el⟩:=⟨⟨h1,h2,h3,h4.1,h4.2⟩,h5,h6,h7,h8⟩
theorem z9:(0:Int)<=0/\(0:Int)<=9:=by decide
theorem b0:be.size<=4:=uL _
theorem lle {α:Type}{p:α->Prop}{l:List α}{a b:Nat}(h:l.length<=a/\∀ y ∈ l,p y)(k:a<=b):l.length<=b/\∀ y ∈ l,p y:=⟨sO h.1 k,h.2⟩
structure Mr (M M':lX):Prop where
 f:M'.f=M.f
 fn:M'.e=M.e
 pr:M'.b=M.b
 s:M.a.length<=M'.a.length/\(M'.a.length:Int)+M'.h<=M.a.length+M.h
 p:M.d.length<=M'.d.length/\(M'.d.length:Int)+M'.h<=M.d.length+M.h
 a:M.c.length<=M'.c.length/\(M'.c.length:Int)+M'.h<=M.c.length+M.h
 c:M.g<=M'.g/\M'.g+M'.h<=M.g+M.h
 l:0<=M'.h
 n1:∀ n ∈ M'.a,n.size<=4
 n2:∀ n ∈ M'.d,n.size<=4
 n3:∀ n ∈ M'.c,n.size<=4
theorem Mr.mp {M M':lX}(k:Mr M M')(h:MP M):MP M':=by obtain ⟨a1,a2,a3,a4,a5,a6,a7,a8,a9,a10,a11⟩:=k;obtain ⟨c1,c2,c3,c4,c5,c6,c7⟩:=h;exact ⟨by rw [a3];exact c1,by rw [a1,a2];exact c2,⟨by omega,a9⟩,⟨by omega,a10⟩,⟨by omega,a11⟩,by omega,a8⟩
theorem Mr.rfl' {M:lX}(h:MP M):Mr M M:=⟨rfl,rfl,rfl,⟨nD _,vP _⟩,⟨nD _,vP _⟩,⟨nD _,vP _⟩,⟨vP _,vP _⟩,h.l,h.ns.2,h.np.2,h.na.2⟩
theorem Mr.trans {M M' M2:lX}(k:Mr M M')(j:Mr M' M2):Mr M M2:=by obtain ⟨a1,a2,a3,a4,a5,a6,a7,a8,a9,a10,a11⟩:=k;obtain ⟨c1,c2,c3,c4,c5,c6,c7,c8,c9,c10,c11⟩:=j;exact ⟨c1.trans a1,c2.trans a2,c3.trans a3,by omega,by omega,by omega,by omega,c8,c9,c10,c11⟩
def ze (M:lX):lX:=⟨M.f,M.e,M.b,M.a,M.d,M.c,M.g,M.h - 1⟩
theorem Mr.dn {M:lX}(h:MP M)(h1:0 < M.h):Mr M (ze M):=⟨rfl,rfl,rfl,⟨Nat.le_refl _,by dsimp only [ze];omega⟩,⟨Nat.le_refl _,by dsimp only [ze];omega⟩,⟨Nat.le_refl _,by dsimp only [ze];omega⟩,⟨Int.le_refl _,by dsimp only [ze];omega⟩,by dsimp only [ze];omega,h.ns.2,h.np.2,h.na.2⟩
def SP (b k:Nat)(M:lX)(r:List jC × lX × jP):Prop:=jB r fun l r=>jB r fun M' T'=>(l.length<=b/\∀ y ∈ l,GS k y)/\Mr M M'/\TQ T'
def SX (M:lX)(r:jC × lX × jP):Prop:=jB r fun x r=>jB r fun M' T'=>GS 1 x/\M'=M/\TQ T'
theorem OM:∀ x ∈ ([(⟨#[102]⟩:BA),(⟨#[103]⟩:BA),(⟨#[104]⟩:BA),(⟨#[107]⟩:BA)]:List BA),x.size<=4:=by intro x hx;simp only [nM,Dl,or_false] at hx;rcases hx with rfl | rfl | rfl | rfl <;> decide
theorem N8 {fu:Nat}(hf:9≤fu){M:lX}(hM:MP M){k p:Int}(hk:0≤k)(hp:M.b[k.toNat]?=some p)(hp4:p≤4){O:Bool × lX × jP × jC→Prop}:∀ (n i:Nat)(T:jP)(out:List jD),TQ T→p+1≤n+i→(i:Int)≤4→(out.length=i∧∀ y ∈ out,GE 4 y)→1≤n→
  kP (vM fu k n i M.f M.e M.b M.g M.h T.l T.a M.a M.d M.c out) (qp (fun r=>jB r fun _ r=>jB r fun f r=>jB r fun fn r=>jB r fun pr r=>jB r fun c r=>jB r fun l r=>jB r fun tl r=>jB r fun ta r=>jB r fun s r=>jB r fun p r=>jB r fun a o=>(⟨f,fn,pr,s,p,a,c,l⟩:lX)=M/\TQ ⟨tl,ta⟩/\o.length<=4/\∀ y ∈ o,GE 4 y) O)
 | 0,_,_,_,_,_,_,_,h=>by omega
 | n+1,i,T,out,hT,hn,hi,ho,_=>by
  rw [vM];have hlt:=ku hp;refine .XT (.ix hk (by omega)) fun e _ he=>?_;rw [hp] at he;cases he;refine .ite (fun c=>?_) fun _=>.go ⟨rfl,hT,by omega,ho.2⟩;refine .bp (Fb hf hM hT (by decide) (by decide)) fun x r hx=>.pp hx fun M' T' hx=>?_;obtain ⟨hx1,rfl,hx3⟩:=hx;refine .XT (.app (by simp only [uM,yG];omega)) fun r _ hr=>?_;subst hr;refine .bd (.ix (by omega) (by rw [kD];omega)) fun _ _=>.bd (.st ⟨by omega,by rw [kD];omega⟩) fun r hr=>?_;rw [l8 (by omega) (by omega)];refine N8 hf hM hk hp hp4 n (i+1) T' r hx3 (by omega) (by omega) ⟨by rw [hr,wR,kD,ho.1],fun y hy=>?_⟩ (by omega);rw [hr] at hy;obtain hy | hy:=Jw hy
  · exact oO ho.2 (GE.mk0 (uL _) (uL _)) y hy
  · rw [hy];exact hx1
theorem g_call {fu:Nat}(hf:9<=fu){M:lX}{T:jP}(hM:MP M)(hT:TQ T){x:jC}(hx:GS 1 x)(ha:x.a=[]):kP (zU fu M T x) (fun r=>jB r fun b r=>jB r fun M' r=>jB r fun T' x'=>M'=M/\TQ T'/\GS 1 x'):=by
 unfold zU;obtain ⟨f1,f2,f3⟩:=hM.f;have hJ:kP (AQ fu M T x) (qp (fun r=>jB r fun k r=>jB r fun l a=>(0<=k/\k < 4)/\TQ ⟨l,a⟩) (fun r=>jB r fun b r=>jB r fun M' r=>jB r fun T' x'=>M'=M/\TQ T'/\GS 1 x')):=by
  unfold AQ;rw [l8 (n:=M.f+1) (by omega) (by omega)];refine .ite (fun c=>?_) fun c=>?_
  · rw [l8 (by omega) (by omega)];refine .bp (qI hT (by omega) (by omega)) fun v T1 h1=>.go ⟨?_,h1.2⟩;rw [l8 (by omega) (by omega)];omega
  · refine .bp (qI hT (by decide) (by decide)) fun v T1 h1=>.ite (fun _=>.out ⟨rfl,h1.2,hx⟩) fun _=>?_;exact .bp (qI h1.2 (by omega) (by omega)) fun v T2 h2=>.go ⟨by omega,h2.2⟩
 refine .el hJ (fun r hr=>.pp hr fun k r hr=>.pp hr fun tl ta hr=>?_) fun o ho=>.mk ho;refine .bd (.ix hr.1.1 hr.1.2) fun fn hfn=>?_;obtain ⟨p,hp⟩:=lZ (l:=M.b) (k:=k.toNat) (by rw [hM.b.1];omega);have hp4:=hM.b.2 p (vS hp);rw [ha];refine .el (N8 hf hM hr.1.1 hp hp4.2 (O:=fun _=>False) fu 0 ⟨tl,ta⟩ [] hr.2 (by omega) (by omega) ⟨rfl,fun y hy=>(by cases hy)⟩ (by omega)) (fun r hr=>?_) fun _ z=>z.elim;refine .pp hr fun a1 r hr=>.pp hr fun a1 r hr=>.pp hr fun a1 r hr=>.pp hr fun a1 r hr=>.pp hr fun a1 r hr=>.pp hr fun a1 r hr=>.pp hr fun a1 r hr=>.pp hr fun a1 r hr=>.pp hr fun a1 r hr=>.pp hr fun a1 r hr=>.pp hr fun a1 a2 hr=>.mk ⟨hr.1,hr.2.1,?_⟩;exact GS.mk hx.1.1 hx.1.2.1 (OM fn (vS hfn)) ⟨hx.1.2.2.2.1,hx.1.2.2.2.2⟩ hx.2.1 hr.2.2 hx.2.2.2.1 hx.2.2.2.2
theorem L6 {l:List BA}{x:BA}:((l ++ [x]).length:Int)=l.length+1:=by rw [kD];omega
theorem Vx {fu:Nat}(hf:9<=fu){M:lX}{T:jP}(hM:MP M)(hl:0 < M.h)(hT:TQ T):kP (xI fu (ze M) T) (fun r=>jB r fun x r=>jB r fun M' T'=>GS 1 x/\Mr M M'/\TQ T'):=by
 unfold xI;obtain ⟨c1,c2,c3,c4,c5,c6,c7⟩:=hM;refine .bp (Qk (M:=ze M) (by omega) c6.1 (by show M.g<=30;omega)) fun s M1 h1=>.bp (qI hT (by decide) (by decide)) fun v T1 h2=>?_;obtain ⟨h1,rfl⟩:=h1;have n1:=c3.1;have n2:=c4.1;have n3:=c5.1;refine .ite (fun _=>?_) fun _=>.ite (fun _=>?_) fun _=>?_
 · refine .bd (.app (by show M.d.length+1<=_;omega)) fun r hr=>.mk ⟨GS.mk h1 (by decide) b0 z9 nG nG nG nG,?_,h2.2⟩;subst hr;exact ⟨rfl,rfl,rfl,⟨Nat.le_refl _,by show _+(M.h - 1)<=_;exact (by dsimp only [ze];omega)⟩,⟨by dsimp only [ze];rw [kD];omega,by dsimp only [ze];rw [L6];omega⟩,⟨Nat.le_refl _,by dsimp only [ze];omega⟩,⟨by dsimp only [ze];omega,by dsimp only [ze];omega⟩,by dsimp only [ze];omega,c3.2,oO c4.2 h1,c5.2⟩
 · refine .bd (.app (by show M.c.length+1<=_;omega)) fun r hr=>.mk ⟨GS.mk h1 b0 b0 (by decide) nG nG nG nG,?_,h2.2⟩;subst hr;exact ⟨rfl,rfl,rfl,⟨Nat.le_refl _,by dsimp only [ze];omega⟩,⟨Nat.le_refl _,by dsimp only [ze];omega⟩,⟨by dsimp only [ze];rw [kD];omega,by dsimp only [ze];rw [L6];omega⟩,⟨by dsimp only [ze];omega,by dsimp only [ze];omega⟩,by dsimp only [ze];omega,c3.2,c4.2,oO c5.2 h1⟩
 · refine .bd (.app (by show M.a.length+1<=_;omega)) fun r hr=>.mk ⟨GS.mk h1 b0 b0 z9 nG nG nG nG,?_,h2.2⟩;subst hr;exact ⟨rfl,rfl,rfl,⟨by dsimp only [ze];rw [kD];omega,by dsimp only [ze];rw [L6];omega⟩,⟨Nat.le_refl _,by dsimp only [ze];omega⟩,⟨Nat.le_refl _,by dsimp only [ze];omega⟩,⟨by dsimp only [ze];omega,by dsimp only [ze];omega⟩,by dsimp only [ze];omega,oO c3.2 h1,c4.2,c5.2⟩
theorem GS.nil {kd:Int}:GS 1 ⟨kd,0,0,be,be,0,0,[],be,0,[],[],[]⟩:=GS.mk b0 b0 b0 z9 nG nG nG nG
theorem YU {fu:Nat}(hf:9<=fu){M:lX}{T:jP}(hM:MP M)(hT:TQ T):kP (yU fu M T) (SX M):=by
 unfold yU;obtain ⟨n1,m1⟩:=hM.ns;obtain ⟨n2,m2⟩:=hM.np;obtain ⟨n3,m3⟩:=hM.na;have hl:=hM.l;refine .bp (qI hT (by decide) (by decide)) fun k T1 h1=>?_;have hJ0:kP (xZ fu M k T1) (qp (fun r=>jB r fun _ r=>jB r fun tl r=>jB r fun ta r=>jB r fun _ r=>jB r fun _ r=>jB r fun _ r=>jB r fun _ r=>jB r fun _ r=>jB r fun _ r=>jB r fun _ r=>jB r fun _ r=>jB r fun _ r=>jB r fun _ r=>jB r fun _ r=>jB r fun _ r=>jB r fun f r=>jB r fun fn r=>jB r fun pr r=>jB r fun c r=>jB r fun l r=>jB r fun s r=>jB r fun p a=>(⟨f,fn,pr,s,p,a,c,l⟩:lX)=M/\TQ ⟨tl,ta⟩) (SX M)):=by unfold xZ;refine .ite (fun c=>?_) fun c=>.go ⟨rfl,h1.2⟩;refine .bp (g_call hf hM h1.2 GS.nil rfl) fun b r hr=>.pp hr fun M' r hr=>.pp hr fun T2 x hr=>?_;obtain ⟨rfl,h2,hx⟩:=hr;refine .ite (fun _=>?_) fun _=>.go ⟨rfl,h2⟩;refine .ite (fun c=>?_) fun _=>.out ⟨hx,rfl,h2⟩;refine .bp (qI h2 (by decide) (by decide)) fun v T3 h3=>.ite (fun _=>?_) fun _=>.out ⟨hx,rfl,h3.2⟩;refine Fx h3.2 (by omega) (by omega) fun s T4 hs h4=>.bd (x9 (m1 s hs)) fun y hy=>.out ⟨?_,rfl,h4⟩;exact GS.mk hx.1.1 hx.1.2.1 hx.1.2.2.1 ⟨hx.1.2.2.2.1,hx.1.2.2.2.2⟩ (len1 (hy.mono (by decide)) (by decide)) hx.2.2.1 hx.2.2.2.1 hx.2.2.2.2
 refine .el hJ0 (fun r hr=>?_) fun o ho=>.mk ho;refine .pp hr fun a1 r hr=>.pp hr fun tl r hr=>.pp hr fun ta r hr=>.pp hr fun a1 r hr=>.pp hr fun a1 r hr=>.pp hr fun a1 r hr=>.pp hr fun a1 r hr=>.pp hr fun a1 r hr=>.pp hr fun a1 r hr=>.pp hr fun a1 r hr=>.pp hr fun a1 r hr=>.pp hr fun a1 r hr=>.pp hr fun a1 r hr=>.pp hr fun a1 r hr=>.pp hr fun a1 r hr=>.pp hr fun a1 r hr=>.pp hr fun a2 r hr=>.pp hr fun a3 r hr=>.pp hr fun a4 r hr=>.pp hr fun a5 r hr=>.pp hr fun a6 r hr=>.pp hr fun a7 a8 hr=>?_;obtain ⟨rfl,hT2⟩:=hr;dsimp only at n1 m1 n2 m2 n3 m3 hl;have hJ1:kP (xS fu k tl ta a1 a2 a3 a4 a5 a6 a7 a8) (qp (fun r=>jB r fun tg r=>jB r fun tl r=>jB r fun ta r=>jB r fun f r=>jB r fun fn r=>jB r fun pr r=>jB r fun c r=>jB r fun l r=>jB r fun s r=>jB r fun p a=>(⟨f,fn,pr,s,p,a,c,l⟩:lX)=⟨a1,a2,a3,a6,a7,a8,a4,a5⟩/\TQ ⟨tl,ta⟩/\tg.length<=1/\∀ y ∈ tg,GE 4 y) (SX ⟨a1,a2,a3,a6,a7,a8,a4,a5⟩)):=by
  unfold xS;have hJ2:kP (xX fu k a7) (qp (fun b=>b=true->0 < a7.length) (SX ⟨a1,a2,a3,a6,a7,a8,a4,a5⟩)):=by unfold xX;exact .ite (fun c=>.go fun z=>by have:=Dh z;omega) fun c=>.go fun z=>(by cases z)
  refine .Gp hJ2 fun b hb=>.ite (fun z=>?_) fun _=>?_
  · have:=hb z;exact Fx hT2 (by omega) (by omega) fun s T3 hs h3=>.bp (qI h3 (by decide) (by decide)) fun v T4 h4=>.bd (.ix h4.1.1 h4.1.2) fun e he=>.go ⟨rfl,h4.2,len1 (GE.mk0 (m2 s hs) (Qe e (vS he))) (by decide)⟩
  have hJ3:kP (xR fu k a8) (qp (fun b=>b=true->0 < a8.length) (SX ⟨a1,a2,a3,a6,a7,a8,a4,a5⟩)):=by unfold xR;exact .ite (fun c=>.go fun z=>by have:=Dh z;omega) fun c=>.go fun z=>(by cases z)
  refine .Gp hJ3 fun b hb=>.ite (fun z=>?_) fun _=>.ite (fun c=>?_) fun _=>?_
  · refine .bp (VQ (by omega) hM hT2 (hb z)) fun x r hx=>.pp hx fun M' T' hx=>.go ⟨?_,hx.2.2,len1 hx.1 (by decide)⟩;exact hx.2.1
  · exact Fx hT2 (by omega) (by omega) fun s T3 hs h3=>.bd (x9 (m1 s hs)) fun y hy=>.go ⟨rfl,h3,len1 (hy.mono (by decide)) (by decide)⟩
  · exact .bp (Fb hf hM hT2 (by decide) (by decide)) fun x r hx=>.pp hx fun M' T' hx=>.out ⟨GS.mk b0 b0 b0 z9 nG (len1 hx.1 (by decide)) nG nG,hx.2⟩
 refine .el hJ1 (fun r hr=>?_) fun o ho=>.mk ho;refine .pp hr fun tg r hr=>.pp hr fun tl r hr=>.pp hr fun ta r hr=>.pp hr fun b1 r hr=>.pp hr fun b2 r hr=>.pp hr fun b3 r hr=>.pp hr fun b4 r hr=>.pp hr fun b5 r hr=>.pp hr fun b6 r hr=>.pp hr fun b7 b8 hr=>?_;obtain ⟨h1,h2,h3⟩:=hr;rw [h1];exact .bp (Fb hf hM h2 (by decide) (by decide)) fun x r hx=>.pp hx fun M' T' hx=>.mk ⟨GS.mk b0 b0 b0 z9 h3 (len1 hx.1 (by decide)) nG nG,hx.2⟩
def Kst (fu:Nat):Prop:=∀ (M:lX)(T:jP)(j most:Nat),MP M->TQ T->j<=3->most<=10->4 * j+28<=fu->kP (lS fu M T (4 - j) most) (SP (2 * most) (j+1) M)
def Kbo (fu:Nat):Prop:=∀ (M:lX)(T:jP)(j most:Nat),MP M->TQ T->j<=3->most<=10->4 * j+29<=fu->kP (mR fu M T (4 - j) most) (SP (2 * most) (j+1) M)
def Klo (fu:Nat):Prop:=∀ (M:lX)(T:jP)(j:Nat),MP M->0 < M.h->TQ T->j<=2->4 * j+30<=fu->kP (ng fu (ze M) T (4 - (j+1:Nat))) (SP 2 (j+2) M)
theorem Kbo.at' {fu:Nat}(h:Kbo fu){M:lX}{T:jP}{j most:Nat}{x y:Int}(h1:MP M)(h2:TQ T)(h3:j<=3)(h4:most<=10)(h5:4 * j+29<=fu)(hx:x=4 - j)(hy:y=most):kP (mR fu M T x y) (SP (2 * most) (j+1) M):=by subst hx;subst hy;exact h M T j most h1 h2 h3 h4 h5
theorem ac2 {fu:Nat}(ih:Kst fu):Kbo (fu+1):=by
 intro M T j most hM hT hj hm hf;show kP (CY fu (lS fu) (mR fu) (ng fu) M T _ _) _;unfold CY;refine .bp (ih M T j most hM hT hj hm (by omega)) fun l r hr=>.pp hr fun M' T' hr=>?_;obtain ⟨h1,h2,h3⟩:=hr;obtain ⟨a1,a2,a3,a4,a5,a6,a7,a8,a9,a10,a11⟩:=h2;have b1:=hM.ns.1;have b2:=hM.np.1;have b3:=hM.na.1;have b4:=hM.l;refine .bd (.sl ⟨vP _,by omega,by omega⟩) fun l1 e1=>.bd (.sl ⟨vP _,by omega,by omega⟩) fun l2 e2=>.bd (.sl ⟨vP _,by omega,by omega⟩) fun l3 e3=>?_;have tk:∀ {L l:List BA}{n:Nat},l=(L.drop (0:Int).toNat).take ((n:Int) - 0).toNat->n<=L.length->(∀ x ∈ L,x.size<=4)->l.length=n/\∀ x ∈ l,x.size<=4:=by
  intro L l n e hn hL;have e0:l=L.take n:=by rw [e];simp
  rw [e0];exact ⟨by rw [zM];omega,fun x hx=>hL x (List.mem_of_mem_take hx)⟩
 have t1:=tk e1 a4.1 a9;have t2:=tk e2 a5.1 a10;have t3:=tk e3 a6.1 a11;clear tk;refine .bd (.app (by simp only [yG];omega)) fun r1 k1=>.bd (.app (by simp only [yG];omega)) fun r2 k2=>.bd (.app (by simp only [yG];omega)) fun r3 k3=>.mk ⟨h1,?_,h3⟩;rw [BZ] at k1 k2 k3;subst k1 k2 k3;exact ⟨a1,a2,a3,by dsimp only;omega,by dsimp only;omega,by dsimp only;omega,a7,a8,t1.2,t2.2,t3.2⟩
theorem ac4 {fu:Nat}(ih:Kbo fu):Klo (fu+1):=by
 intro M T j hM hl hT hj hf;show kP (Cm fu (lS fu) (mR fu) (ng fu) (ze M) T _) _;unfold Cm;obtain ⟨c1,c2,c3,c4,c5,c6,c7⟩:=id hM;refine .bp (Qk (M:=ze M) (by omega) c6.1 (by show M.g<=30;omega)) fun s M1 h1=>?_;obtain ⟨h1,rfl⟩:=h1;have n1:=c3.1;have n2:=c4.1;have n3:=c5.1;refine .bd (.app (by show M.a.length+1<=_;omega)) fun r hr=>.bd (x9 h1) fun v hv=>.bp (qI hT (by decide) (by decide)) fun k T1 h2=>?_;rw [l8 (n:=1+k) (by omega) (by omega)];refine .bd (F3 ⟨by omega,by omega⟩) fun lt hlt=>?_;have hR:Mr M ⟨(ze M).f,(ze M).e,(ze M).b,r,(ze M).d,(ze M).c,(ze M).g+1,(ze M).h⟩:=by subst hr;exact ⟨rfl,rfl,rfl,⟨by dsimp only [ze];rw [kD];omega,by dsimp only [ze];rw [L6];omega⟩,⟨Nat.le_refl _,by dsimp only [ze];omega⟩,⟨Nat.le_refl _,by dsimp only [ze];omega⟩,⟨by dsimp only [ze];omega,by dsimp only [ze];omega⟩,by dsimp only [ze];omega,oO c3.2 h1,c4.2,c5.2⟩
 refine .bp (ih.at' (j:=j) (most:=4) (hR.mp hM) h2.2 (by omega) (by omega) (by omega) (by rw [l8 (by omega) (by omega)];omega) rfl) fun l r hr=>.pp hr fun M' T' hr=>?_;refine .bd (x9 h1) fun v2 hv2=>.bd (x9 h1) fun v3 hv3=>.bd (F3 (by decide)) fun lo hlo=>?_;refine .bd (.app (by have:=hr.1.1;simp only [uM,yG];omega)) fun r2 hr2=>.mk ⟨⟨nD _,?_⟩,hR.trans hr.2.1,hr.2.2⟩;have hr2':r2.length<=9/\∀ y ∈ r2,GS (j+1) y:=by subst hr2;refine ⟨by rw [kD];have:=hr.1.1;omega,oO hr.1.2 ?_⟩;exact GS.mk b0 b0 b0 z9 (len1 (hv2.mono (by decide)) (by decide)) (len1 ((GE.mk2 (uL _) (uL _) hv3 hlo).mono (by decide)) (by decide)) nG nG
 intro y hy;simp only [nM,Dl,or_false] at hy;rcases hy with hy | hy <;> subst hy
 · exact GS.mk h1 b0 b0 z9 nG nG nG nG
 · exact GS.mk b0 b0 b0 z9 nG (len1 ((GE.mk2 (uL _) (uL _) hv hlt).mono (by decide)) (by decide)) hr2' nG
def SL (b k:Nat)(M:lX)(r:Int × List jC × Int × Int × List Int × Int × Int × List Int × Int × List BA × List BA × List BA):Prop:=jB r fun _ r=>jB r fun o r=>jB r fun f r=>jB r fun fn r=>jB r fun pr r=>jB r fun c r=>jB r fun l r=>jB r fun tl r=>jB r fun ta r=>jB r fun s r=>jB r fun p a=>(o.length<=b/\∀ y ∈ o,GS k y)/\Mr M ⟨f,fn,pr,s,p,a,c,l⟩/\TQ ⟨tl,ta⟩
theorem ae1 {k i:Nat}{out:List jC}{x:jC}(h:out.length<=2 * i/\∀ y ∈ out,GS k y)(hx:GS k x):(out ++ [x]).length<=2 * (i+1)/\∀ y ∈ out ++ [x],GS k y:=⟨by rw [kD];omega,oO h.2 hx⟩
theorem H7 {fu:Nat}(hb:Kbo fu)(hl:Klo fu){j most:Nat}(hj:j≤3)(hm:most≤10)(hf:4 * j+27≤fu){M0:lX}(hM0:MP M0){O:List jC × lX × jP→Prop}:∀ (n i:Nat)(out:List jC)(M:lX)(T:jP),Mr M0 M→TQ T→(out.length≤2 * i∧∀ y ∈ out,GS (j+1) y)→i≤most→most+1≤n+i→
  kP (mG fu (lS fu) (mR fu) (ng fu) (4 - j) most n i out M.f M.e M.b M.g M.h T.l T.a M.a M.d M.c) (qp (SL (2 * most) (j+1) M0) O)
 | 0,_,_,_,_,_,_,_,h,h2=>by omega
 | n+1,i,out,M,T,hR,hT,ho,hi,hn=>by
  have hM:=hR.mp hM0;have fin:kP (some (Ld.go (ρ:=List jC × lX × jP) ((i:Int),out,M.f,M.e,M.b,M.g,M.h,T.l,T.a,M.a,M.d,M.c))) (qp (SL (2 * most) (j+1) M0) O):=.go ⟨lle ho (by omega),hR,hT⟩;rw [mG];refine .ite (fun c=>?_) fun _=>fin;refine .ite (fun hleft=>?_) fun _=>fin;refine .bd adu fun b _=>.ite (fun _=>?_) fun _=>fin;clear fin;have hlo:=hM.c;have hl0:=hM.l;have olen:out.length<=20:=by omega
  rw [l8 (n:=(i:Int)+1) (by omega) (by omega),l8 (n:=M.h - 1) (by omega) (by omega)];have hd:=Mr.dn hM hleft;have hdn:=hd.mp hM;have go:∀ (x:jC)(M':lX)(T':jP),GS (j+1) x->Mr M M'->TQ T'->kP ((app out [x]).bind fun r=>mG fu (lS fu) (mR fu) (ng fu) (4 - j) most n ((i:Int)+1) r M'.f M'.e M'.b M'.g M'.h T'.l T'.a M'.a M'.d M'.c) (qp (SL (2 * most) (j+1) M0) O):=fun x M' T' hx k1 k2=>.bd (.app (by simp only [uM,yG];omega)) fun r hr=>by subst hr;exact H7 hb hl hj hm hf hM0 n (i+1) _ M' T' (hR.trans k1) k2 (ae1 ho hx) (by omega) (by omega)
  refine .bp (qI hT (by decide) (by decide)) fun k T1 h1=>?_;have hJ1:kP (yV fu (lS fu) (mR fu) (ng fu) M.g k) (qp (fun _=>True) O):=by unfold yV;exact .ite (fun _=>.go kE) fun _=>.go kE
  refine .Gp hJ1 fun b _=>.ite (fun _=>?_) fun _=>?_
  · exact .bp (Vx (by omega) hM hleft h1.2) fun x r hx=>.pp hx fun M' T' hx=>go x M' T' (hx.1.mono (by omega)) hx.2.1 hx.2.2
  have hJ2:kP (yZ fu (lS fu) (mR fu) (ng fu) (4 - j) k) (qp (fun b=>b=true->1<=j) O):=by unfold yZ;exact .ite (fun _=>.go fun z=>by have:=Dh z;omega) fun _=>.go fun z=>(by cases z)
  refine .Gp hJ2 fun b hz=>.ite (fun z=>?_) fun _=>?_
  · obtain ⟨j,rfl⟩:∃ j',j=j'+1:=⟨j - 1,by have:=hz z;omega⟩;refine .bp (Fb (M:=ze M) (by omega) hdn h1.2 (by decide) (by decide)) fun x r hx=>.pp hx fun M1 T2 hx=>?_;obtain ⟨hx1,rfl,hx3⟩:=hx;refine .bp (hb.at' (j:=j) (most:=4) hdn hx3 (by omega) (by omega) (by omega) (by rw [l8 (by omega) (by omega)];omega) rfl) fun l r hr=>.pp hr fun M2 T3 hr=>?_;obtain ⟨hl1,hr2,hT3⟩:=hr;have hJ3:kP (yY fu (lS fu) (mR fu) (ng fu) (4 - (j+1:Nat)) M2 T3) (qp (fun r=>jB r fun o r=>jB r fun f r=>jB r fun fn r=>jB r fun pr r=>jB r fun c r=>jB r fun l r=>jB r fun tl r=>jB r fun ta r=>jB r fun s r=>jB r fun p a=>(o.length<=9/\∀ y ∈ o,GS (j+1) y)/\Mr M ⟨f,fn,pr,s,p,a,c,l⟩/\TQ ⟨tl,ta⟩) O):=by unfold yY;refine .bp (qI hT3 (by decide) (by decide)) fun v T4 h4=>.ite (fun _=>?_) fun _=>.go ⟨nG,hd.trans hr2,h4.2⟩;exact .bp (hb.at' (j:=j) (most:=3) (hr2.mp hdn) h4.2 (by omega) (by omega) (by omega) (by rw [l8 (by omega) (by omega)];omega) rfl) fun l r hr=>.pp hr fun M3 T5 hr=>.go ⟨lle hr.1 (by decide),(hd.trans hr2).trans hr.2.1,hr.2.2⟩
    refine .Gp hJ3 fun r hr=>.pp hr fun o r hr=>.pp hr fun b1 r hr=>.pp hr fun b2 r hr=>.pp hr fun b3 r hr=>.pp hr fun b4 r hr=>.pp hr fun b5 r hr=>.pp hr fun b6 r hr=>.pp hr fun b7 r hr=>.pp hr fun b8 r hr=>.pp hr fun b9 b10 hr=>?_;exact go _ ⟨b1,b2,b3,b8,b9,b10,b4,b5⟩ ⟨b6,b7⟩ (GS.mk b0 b0 b0 z9 nG (len1 hx1 (by decide)) (lle hl1 (by decide)) hr.1) hr.2.1 hr.2.2
  have hJ4:kP (zA fu (lS fu) (mR fu) (ng fu) (4 - j) M.g k) (qp (fun b=>b=true->1<=j) O):=by unfold zA;exact .ite (fun _=>.ite (fun _=>.go fun z=>by omega) fun _=>.go fun z=>(by cases z)) fun _=>.go fun z=>(by cases z)
  refine .Gp hJ4 fun b hz=>.ite (fun z=>?_) fun _=>?_
  · obtain ⟨j,rfl⟩:∃ j',j=j'+1:=⟨j - 1,by have:=hz z;omega⟩;refine .bp (hl M T1 j hM hleft h1.2 (by omega) (by omega)) fun l r hr=>.pp hr fun M2 T3 hr=>?_;refine .bd (.app (by have:=hr.1.1;omega)) fun r hr2=>?_;subst hr2;refine H7 hb hl hj hm hf hM0 n (i+1) _ M2 T3 (hR.trans hr.2.1) hr.2.2 ⟨by have:=hr.1.1;rw [F9];omega,fun y hy=>?_⟩ (by omega) (by omega);obtain hy | hy:=qg.1 hy
    · exact ho.2 y hy
    · exact hr.1.2 y hy
  have hJ5:kP (zh fu (lS fu) (mR fu) (ng fu) (4 - j) M.g k) (qp (fun b=>b=true->1<=j) O):=by unfold zh;exact .ite (fun _=>.ite (fun _=>.go fun z=>by omega) fun _=>.go fun z=>(by cases z)) fun _=>.go fun z=>(by cases z)
  refine .Gp hJ5 fun b hz=>.ite (fun z=>?_) fun _=>?_
  · obtain ⟨j,rfl⟩:∃ j',j=j'+1:=⟨j - 1,by have:=hz z;omega⟩;refine .bp (hb.at' (M:=ze M) (j:=j) (most:=4) hdn h1.2 (by omega) (by omega) (by omega) (by rw [l8 (by omega) (by omega)];omega) rfl) fun l r hr=>.pp hr fun M2 T3 hr=>?_;obtain ⟨hl1,hr2,hT3⟩:=hr;obtain ⟨a1,a2,a3,a4,a5,a6,a7,a8,a9,a10,a11⟩:=id hr2;dsimp only [ze] at a4 a5 a6 a7;obtain ⟨c1,c2,c3,c4,c5,c6,c7⟩:=id hM;refine .bp (Qk (by omega) (by omega) (by omega)) fun s M3 h3=>?_;obtain ⟨h3,rfl⟩:=h3;dsimp only;refine .bd (.app (by simp only [uM,yG];omega)) fun r hr=>?_;have hR4:Mr M ⟨M2.f,M2.e,M2.b,r,M2.d,M2.c,M2.g+1,M2.h⟩:=by subst hr;exact ⟨a1,a2,a3,⟨by dsimp only;rw [kD];omega,by dsimp only;rw [L6];omega⟩,by dsimp only;omega,by dsimp only;omega,by dsimp only;omega,a8,oO a9 h3,a10,a11⟩
    refine .bp (hb.at' (j:=j) (most:=3) (hR4.mp hM) hT3 (by omega) (by omega) (by omega) (by rw [l8 (by omega) (by omega)];omega) rfl) fun l2 r2 hr5=>.pp hr5 fun M5 T5 hr5=>?_;obtain ⟨hl5,hR5,hT5⟩:=hr5;obtain ⟨e1,e2,e3,e4,e5,e6,e7,e8,e9,e10,e11⟩:=id hR5;dsimp only at e1 e2 e3 e4 e5 e6 e7;have hrl:r.length=M2.a.length+1:=by rw [hr,kD]
    rw [l8 (by omega) (by omega)];refine .bd (.sl ⟨vP _,by omega,by omega⟩) fun l3 hl3=>.bd (.app (by
      rw [hl3];simp only [yG,zM,GV];omega)) fun r3 hr3=>?_
    have hq:r3=M5.a.take (M5.a.length - 1):=by
      rw [hr3,hl3,BZ];have:((M5.a.length:Int) - 1 - 0).toNat=M5.a.length - 1:=by omega
      rw [this];simp
    have hq2:r3.length=M5.a.length - 1:=by rw [hq,zM];omega
    exact go _ ⟨M5.f,M5.e,M5.b,r3,M5.d,M5.c,M5.g,M5.h⟩ T5 (GS.mk h3 b0 b0 z9 nG nG (lle hl1 (by decide)) (lle hl5 (by decide))) ⟨e1.trans a1,e2.trans a2,e3.trans a3,by dsimp only;omega,by dsimp only;omega,by dsimp only;omega,by dsimp only;omega,e8,fun x hx=>e9 x (by rw [hq] at hx;exact List.mem_of_mem_take hx),e10,e11⟩ hT5
  refine .ite (fun _=>?_) fun _=>?_
  · refine .bp (Fb (M:=ze M) (by omega) hdn h1.2 (by decide) (by decide)) fun x r hx=>.pp hx fun M1 T2 hx=>?_;obtain ⟨hx1,rfl,hx3⟩:=hx;exact go _ (ze M) T2 (GS.mk b0 b0 b0 z9 nG (len1 hx1 (by decide)) nG nG) hd hx3
  have hJ6:kP (y5 fu (lS fu) (mR fu) (ng fu) k T1) (qp (fun r=>jB r fun _ r=>jB r fun l a=>TQ ⟨l,a⟩) O):=by unfold y5;exact .ite (fun _=>.bp (qI h1.2 (by decide) (by decide)) fun v T2 h2=>.go h2.2) fun _=>.go h1.2
  refine .Gp hJ6 fun r hr=>.pp hr fun b r hr=>.pp hr fun tl ta hT2=>.ite (fun _=>?_) fun _=>?_
  · have hJ8:kP (za fu (lS fu) (mR fu) (ng fu) M.f M.e M.b M.g M.h M.a M.d M.c tl ta) (qp (fun r=>jB r fun b r=>jB r fun ar r=>jB r fun kd r=>jB r fun ln r=>jB r fun id r=>jB r fun nm r=>jB r fun ty r=>jB r fun le r=>jB r fun vr r=>jB r fun tg r=>jB r fun fn r=>jB r fun ca r=>jB r fun bo r=>jB r fun el r=>jB r fun tl r=>jB r fun ta r=>jB r fun m1 r=>jB r fun m2 r=>jB r fun m3 r=>jB r fun m4 r=>jB r fun m5 r=>jB r fun m6 r=>jB r fun m7 m8=>GS 1 ⟨kd,ln,id,nm,ty,le,vr,tg,fn,ca,ar,bo,el⟩/\TQ ⟨tl,ta⟩/\(⟨m1,m2,m3,m6,m7,m8,m4,m5⟩:lX)=ze M) O):=by unfold za;rw [l8 (n:=M.h - 1) (by omega) (by omega)];refine .bp (qI hT2 (by decide) (by decide)) fun v T2 h2=>.ite (fun _=>.go ⟨GS.nil,h2.2,rfl⟩) fun _=>?_;exact .bp (g_call (M:=ze M) (by omega) hdn h2.2 GS.nil rfl) fun b r hr=>.pp hr fun M' r hr=>.pp hr fun T2 x hr=>.go ⟨hr.2.2,hr.2.1,hr.1⟩
    have hJ7:kP (y9 fu (lS fu) (mR fu) (ng fu) M.f M.e M.b M.g M.h M.a M.d M.c tl ta) (qp (fun r=>jB r fun ar r=>jB r fun kd r=>jB r fun ln r=>jB r fun id r=>jB r fun nm r=>jB r fun ty r=>jB r fun le r=>jB r fun vr r=>jB r fun tg r=>jB r fun fn r=>jB r fun ca r=>jB r fun bo r=>jB r fun el r=>jB r fun tl r=>jB r fun ta r=>jB r fun m1 r=>jB r fun m2 r=>jB r fun m3 r=>jB r fun m4 r=>jB r fun m5 r=>jB r fun m6 r=>jB r fun m7 m8=>GS 1 ⟨kd,ln,id,nm,ty,le,vr,tg,fn,ca,ar,bo,el⟩/\TQ ⟨tl,ta⟩/\(⟨m1,m2,m3,m6,m7,m8,m4,m5⟩:lX)=ze M) O):=by unfold y9;refine .Gp hJ8 fun r hr=>.pp hr fun b r hr=>.pp hr fun ar r hr=>.pp hr fun kd r hr=>.pp hr fun ln r hr=>.pp hr fun id r hr=>.pp hr fun nm r hr=>.pp hr fun ty r hr=>.pp hr fun le r hr=>.pp hr fun vr r hr=>.pp hr fun tg r hr=>.pp hr fun fn r hr=>.pp hr fun ca r hr=>.pp hr fun bo r hr=>.pp hr fun el r hr=>.pp hr fun tl r hr=>.pp hr fun ta r hr=>.pp hr fun m1 r hr=>.pp hr fun m2 r hr=>.pp hr fun m3 r hr=>.pp hr fun m4 r hr=>.pp hr fun m5 r hr=>.pp hr fun m6 r hr=>.pp hr fun m7 m8 hr=>?_;refine .ite (fun _=>?_) fun _=>.go hr;rw [hr.2.2];exact .bp (Fb (by omega) hdn hr.2.1 (by decide) (by decide)) fun x r hx=>.pp hx fun M1 T2 hx=>.go ⟨GS.mk b0 b0 b0 z9 nG (len1 hx.1 (by decide)) nG nG,hx.2.2,hx.2.1⟩
    refine .Gp hJ7 fun r hr=>.pp hr fun ar r hr=>.pp hr fun kd r hr=>.pp hr fun ln r hr=>.pp hr fun id r hr=>.pp hr fun nm r hr=>.pp hr fun ty r hr=>.pp hr fun le r hr=>.pp hr fun vr r hr=>.pp hr fun tg r hr=>.pp hr fun fn r hr=>.pp hr fun ca r hr=>.pp hr fun bo r hr=>.pp hr fun el r hr=>.pp hr fun tl r hr=>.pp hr fun ta r hr=>.pp hr fun m1 r hr=>.pp hr fun m2 r hr=>.pp hr fun m3 r hr=>.pp hr fun m4 r hr=>.pp hr fun m5 r hr=>.pp hr fun m6 r hr=>.pp hr fun m7 m8 hr=>?_;exact go _ ⟨m1,m2,m3,m6,m7,m8,m4,m5⟩ ⟨tl,ta⟩ (hr.1.mono (by omega)) (by rw [hr.2.2];exact hd) hr.2.1
  have hJ9:kP (yQ fu (lS fu) (mR fu) (ng fu) k tl ta) (qp (fun r=>jB r fun _ r=>jB r fun l a=>TQ ⟨l,a⟩) O):=by unfold yQ;exact .ite (fun _=>.bp (qI hT2 (by decide) (by decide)) fun v T2 h2=>.go h2.2) fun _=>.go hT2
  refine .Gp hJ9 fun r hr=>.pp hr fun b r hr=>.pp hr fun tl ta hT3=>.ite (fun _=>?_) fun _=>?_
  · refine .bp (Fb (M:=ze M) (by omega) hdn hT3 (by decide) (by decide)) fun x r hx=>.pp hx fun M1 T2 hx=>?_;obtain ⟨hx1,rfl,hx3⟩:=hx;exact go _ (ze M) T2 (GS.mk b0 b0 b0 z9 nG (len1 hx1 (by decide)) nG nG) hd hx3
  have hJ10:kP (xY fu (lS fu) (mR fu) (ng fu) (4 - j) k tl ta) (qp (fun r=>jB r fun b r=>jB r fun l a=>(b=true->1<=j)/\TQ ⟨l,a⟩) O):=by unfold xY;refine .ite (fun _=>.bp (qI hT3 (by decide) (by decide)) fun v T2 h2=>.ite (fun _=>.go ⟨fun z=>by have:=Dh z;omega,h2.2⟩) fun _=>.go ⟨fun z=>(by cases z),h2.2⟩) fun _=>.go ⟨fun z=>(by cases z),hT3⟩
  refine .Gp hJ10 fun r hr=>.pp hr fun b r hr=>.pp hr fun tl ta hr=>.ite (fun z=>?_) fun _=>?_
  · obtain ⟨hz,hT4⟩:=hr;obtain ⟨j,rfl⟩:∃ j',j=j'+1:=⟨j - 1,by have:=hz z;omega⟩;refine .bp (Fb (M:=ze M) (by omega) hdn hT4 (by decide) (by decide)) fun x r hx=>.pp hx fun M1 T2 hx=>?_;obtain ⟨hx1,rfl,hx3⟩:=hx;refine .bp (hb.at' (j:=j) (most:=3) hdn hx3 (by omega) (by omega) (by omega) (by rw [l8 (by omega) (by omega)];omega) rfl) fun l r hr=>.pp hr fun M2 T3 hr=>?_;exact go _ M2 T3 (GS.mk b0 b0 b0 z9 nG (len1 hx1 (by decide)) (lle hr.1 (by decide)) nG) (hd.trans hr.2.1) hr.2.2
  · refine .bp (YU (M:=ze M) (by omega) hdn hr.2) fun x r hx=>.pp hx fun M1 T2 hx=>?_;obtain ⟨hx1,rfl,hx3⟩:=hx;exact go x (ze M) T2 (hx1.mono (by omega)) hd hx3
theorem RV:∀ (fu:Nat),Kst fu∧Kbo fu∧Klo fu
 | 0=>⟨fun _ _ _ _ _ _ _ _ h=>by omega,fun _ _ _ _ _ _ _ _ h=>by omega,fun _ _ _ _ _ _ _ h=>by omega⟩
 | fu+1=>by have ih:=RV fu;refine ⟨?_,ac2 ih.1,ac4 ih.2.1⟩;intro M T j most hM hT hj hm hf;show kP (Bt fu (lS fu) (mR fu) (ng fu) M T _ _) _;unfold Bt;refine .el (H7 ih.2.1 ih.2.2 hj hm (by omega) hM (O:=fun _=>False) fu 0 [] M T (Mr.rfl' hM) hT nG (by omega) (by omega)) (fun r hr=>?_) fun _ z=>z.elim;exact .pp hr fun b1 r hr=>.pp hr fun b1 r hr=>.pp hr fun b1 r hr=>.pp hr fun b1 r hr=>.pp hr fun b1 r hr=>.pp hr fun b1 r hr=>.pp hr fun b1 r hr=>.pp hr fun b1 r hr=>.pp hr fun b1 r hr=>.pp hr fun b1 r hr=>.pp hr fun b1 b2 hr=>.mk hr
theorem Vh {fu:Nat}(hf:40<=fu){M:lX}{T:jP}(hM:MP M)(hT:TQ T){most:Nat}(hm:most<=10):kP (lS fu M T 1 most) (SP (2 * most) 4 M):=(RV fu).1 M T 3 most hM hT (by decide) hm (by omega)
structure GF (f:kC):Prop where
 name:f.c.size<=4
 b:f.a.length<=4/\∀ x ∈ f.a,x.size<=4
 body:f.d.length<=22/\∀ y ∈ f.d,GS 4 y
structure GPr (p:jV):Prop where
 recs:p.a=[⟨⟨#[80]⟩,[⟨#[120]⟩,⟨#[121]⟩]⟩]
 e:1<=p.b.length/\p.b.length<=4
 el:∀ f ∈ p.b,GF f
theorem Wv:∀ x ∈ ([(⟨#[97]⟩:BA),(⟨#[98]⟩:BA),(⟨#[99]⟩:BA),(⟨#[100]⟩:BA)]:List BA),x.size<=4:=by intro x hx;simp only [nM,Dl,or_false] at hx;rcases hx with rfl | rfl | rfl | rfl <;> decide
theorem aaJ {k:Nat}(x:BA)(h:([(⟨#[102]⟩:BA),(⟨#[103]⟩:BA),(⟨#[104]⟩:BA),(⟨#[107]⟩:BA)]:List BA)[k]?=some x):x.size<=4:=OM x (vS h)
theorem I5 {fu:Nat}(hf:40≤fu){a b c d:Int}(ha:0≤a∧a < 4)(hb:0≤b∧b < 3)(hc:0≤c∧c < 4)(hd:0≤d∧d < 5){O:jV→Prop}:∀ (n i:Nat)(out:List kC)(T:jP),TQ T→out.length=i→(i:Int)≤1+a→6≤n+i→(∀ f ∈ out,GF f)→
  kP (rT fu a b c d n i out T.l T.a) (qp (fun r=>jB r fun _ r=>jB r fun o r=>jB r fun _ _=>(1<=o.length/\o.length<=4)/\∀ f ∈ o,GF f) O)
 | 0,i,out,T,hT,h1,h2,h3,h4=>by omega
 | n+1,i,out,T,hT,h1,h2,h3,h4=>by
  rw [rT,l8 (n:=1+a) (by omega) (by omega)];refine .ite (fun k=>?_) fun k=>.go ⟨by omega,h4⟩;have hps:([2,b,c,d]:List Int).length=4/\∀ p ∈ ([2,b,c,d]:List Int),0<=p/\p<=4:=⟨rfl,fun p hp=>by
   simp only [nM,Dl,or_false] at hp;omega⟩
  refine .bd (.ix (by omega) (by rw [hps.1];omega)) fun p hp=>?_;have hp4:=hps.2 p (vS hp);refine .bd (.ix (by omega) (by simp only [uM,yG];omega)) fun nm hnm=>?_;refine .bd (.sl ⟨vP _,hp4.1,by simp only [uM,yG];omega⟩) fun l hl=>?_;have hll:l.length<=4/\∀ x ∈ l,x.size<=4:=by subst hl;exact ⟨by rw [zM];omega,fun x hx=>Wv x (List.mem_of_mem_drop (List.mem_of_mem_take hx))⟩
  refine .bd (.app (by simp only [yG];omega)) fun r hr=>?_;rw [BZ] at hr;subst hr;have hJ1:kP (wP fu i) (qp (fun s=>s=6\/s=10) O):=by unfold wP;exact .ite (fun _=>.go (.inl rfl)) fun _=>.go (.inr rfl)
  refine .Gp hJ1 fun s hs=>?_;have hM:MP ⟨(i:Int),1+a,[2,b,c,d],r,[],[],0,22⟩:=⟨hps,by dsimp only;omega,⟨by dsimp only;omega,hll.2⟩,⟨(by decide:(0:Int)+22<=40),fun x hx=>(by cases hx)⟩,⟨(by decide:(0:Int)+22<=40),fun x hx=>(by cases hx)⟩,(by decide:(0:Int)<=0/\(0:Int)+22<=22),(by decide:(0:Int)<=22)⟩;have hS:kP (lS fu ⟨(i:Int),1+a,[2,b,c,d],r,[],[],0,22⟩ T 1 s) (SP 20 4 ⟨(i:Int),1+a,[2,b,c,d],r,[],[],0,22⟩):=by
   obtain rfl | rfl:=hs
   · exact (Vh hf hM hT (most:=6) (by decide)).imp fun v hv=>⟨lle hv.1 (by decide),hv.2⟩
   · exact Vh hf hM hT (most:=10) (by decide)
  refine .bp hS fun bo q hq=>.pp hq fun M' T' hq=>?_;obtain ⟨hq1,hq2,hq3⟩:=hq;have hM':=hq2.mp hM;have hJ2:kP (wW fu bo M' T') (qp (fun r=>jB r fun o r=>jB r fun l a=>(o.length<=21/\∀ y ∈ o,GS 4 y)/\TQ ⟨l,a⟩) O):=by unfold wW;have k1:=hM'.ns.1;have k2:=hM'.l;refine .ite (fun c=>?_) fun _=>.go ⟨lle hq1 (by decide),hq3⟩;refine .bp (qI hq3 (by decide) (by decide)) fun v T2 h2=>.ite (fun _=>?_) fun _=>.go ⟨lle hq1 (by decide),h2.2⟩;refine Fx h2.2 (by omega) (by omega) fun s T3 hs h3=>.bd (x9 (hM'.ns.2 s hs)) fun x hx=>?_;refine .bd (.app (by have:=hq1.1;simp only [uM,yG];omega)) fun r hr=>.go ⟨?_,h3⟩;subst hr;exact ⟨by rw [kD];have:=hq1.1;omega,oO hq1.2 (GS.mk b0 b0 b0 z9 nG (len1 (hx.mono (by decide)) (by decide)) nG nG)⟩
  refine .Gp hJ2 fun r2 hr=>.pp hr fun o r2 hr=>.pp hr fun tl ta hr=>?_;refine .bd (.app (by have:=hr.1.1;simp only [uM,yG];omega)) fun r84 hr84=>.bd (.app (by simp only [uM,yG];omega)) fun r90 hr90=>?_;subst hr84 hr90;rw [l8 (by omega) (by omega)];refine I5 hf ha hb hc hd n (i+1) _ ⟨tl,ta⟩ hr.2 (by rw [kD];omega) (by omega) (by omega) (oO h4 ⟨aaJ nm hnm,hll,?_⟩);exact ⟨by dsimp only;rw [kD];have:=hr.1.1;omega,oO hr.1.2 (GS.nil.mono (by decide))⟩
theorem V8 {fu:Nat}(hf:40<=fu){l:List Int}(hl:l.length<=1000):kP (xM fu l) GPr:=by unfold xM;refine .bp (qI (T:=⟨l,0⟩) ⟨Int.le_refl _,by dsimp only;omega,hl⟩ (by decide) (by decide)) fun a T1 h1=>.bp (qI h1.2 (by decide) (by decide)) fun b T2 h2=>.bp (qI h2.2 (by decide) (by decide)) fun c T3 h3=>.bp (qI h3.2 (by decide) (by decide)) fun d T4 h4=>?_;refine .el (I5 hf h1.1 h2.1 h3.1 h4.1 (O:=fun _=>False) fu 0 [] T4 h4.2 rfl (by omega) (by omega) fun f hf=>(by cases hf)) (fun r hr=>?_) fun _ z=>z.elim;exact .pp hr fun _ r hr=>.pp hr fun o r hr=>.pp hr fun _ _ hr=>.mk ⟨rfl,hr.1,hr.2⟩
theorem aaw {fu:Nat}{l:List Int}:kP (BK fu l) (fun r=>r.length<=200):=by unfold BK;refine .ite (fun c=>.bd (.sl ⟨by decide,by decide,by omega⟩) fun r hr=>.mk ?_) fun c=>.mk (by omega);rw [hr,zM];omega
end Go.Proofs.YtdkneekpdecjbaaGreat
