/- What the checker of the specification answers is no deeper and no longer than what it is given. -/
import Derived.Test.YtdkneekpdecjbaaGreatZ21
import Derived.Test.YtdkneekpdecjbaaGreatLg
set_option linter.unusedVariables false
set_option linter.unusedSimpArgs false
namespace Go.Proofs.YtdkneekpdecjbaaGreat
open Go.RowKit Go.Fw Go.Proofs.Tryz
theorem pl {α β γ:Type}{a:α}{b:β}{f:α->β->γ}:jy (a,b) f=f a b:=rfl
def Sy (k:Int)(f:ByteArray)(t a:Nat):Prop:=(k=3->f≠be)/\(f=be->k≠1->k≠8->k≠10->a≠0)/\(k=2->t≠0)/\(f≠be->k=3\/k=6)
def OU:Nat→jA→Prop
 | 0,_=>False
 | n+1,x=>(∀ y ∈ x.e,Ca 5000 y)/\(x.a.length<=5000/\∀ y ∈ x.a,Ca 5000 y)/\(∀ y ∈ x.d,OU n y)/\(∀ y ∈ x.h,OU n y)/\Sy x.b x.k x.e.length x.a.length
def FX (f:kT):Prop:=∀ y ∈ f.d,OU 10 y
theorem Fe.x:∀ {n:Nat}{x:jA},Fe 5000 n x→OU n x
 | 0,_,h=>h.elim
 | n+1,x,h=>⟨h.1.2,h.2.1,fun y hy=>Fe.x (h.2.2.1.2 y hy),fun y hy=>Fe.x (h.2.2.2.1.2 y hy),fun z=>(h.2.2.2.2.call z).1,fun z a b c e=>h.2.2.2.2.args z a b c (List.eq_nil_of_length_eq_zero e),fun z e=>h.2.2.2.2.targ z (List.eq_nil_of_length_eq_zero e),fun z=>(h.2.2.2.2.func z).1⟩
theorem Zl.x {f:kT}(h:Zl 5000 f):FX f:=fun y hy=>(h.el y hy).x
section
variable {fu:Nat}{f:fV->jB->Int->Option (jB × fV)}{g:fV->List jB->Int->Option (List jB × fV)}
def De (f:fV->jB->Int->Option (jB × fV)):Prop:=∀ S x ln x' S' n,f S x ln=some (x',S')->Ca n x->Ca n x'
def Des (g:fV->List jB->Int->Option (List jB × fV)):Prop:=∀ S l ln l' S' n,g S l ln=some (l',S')->(∀ y ∈ l,Ca n y)->(∀ y ∈ l',Ca n y)/\l'.length=l.length
theorem YK {x:jB}:∀ (l:List ByteArray)(k:Nat)(a:Int)(o:jB × fV),nT fu g f x l k a=some (.out o)→False
 | [],_,_,_,h=>by cases h
 | u :: r,k,a,o,h=>by
  rw [nT] at h;rcases jO h with ⟨_,h⟩|⟨_,h⟩
  · exact YK r _ _ o h
  · exact YK r _ _ o h
theorem aeA {S:fV}{x:jB}{ln:Int}{x':jB}{S':fV}(h:oO fu g f S x ln=some (.out (x',S'))):x'=x:=by
 unfold oO at h;obtain ⟨v,hv,h⟩:=bs h;cases v with
 | out o=>
  unfold sU at hv;rcases jO hv with ⟨_,hv⟩|⟨_,hv⟩
  · cases hv
  · rcases jO hv with ⟨_,hv⟩|⟨_,hv⟩ <;> cases hv
 | go b=>
  replace h:=gi h;rcases jO h with ⟨_,h⟩|⟨_,h⟩
  · obtain ⟨⟨c,i⟩,_,h⟩:=bs h;replace h:=pi h;rcases jO h with ⟨_,h⟩|⟨_,h⟩
    · obtain ⟨j,_,h⟩:=bs h;cases h;rfl
    · obtain ⟨t,_,h⟩:=bs h;obtain ⟨m,_,h⟩:=bs h;rcases jO h with ⟨_,h⟩|⟨_,h⟩
      · obtain ⟨k,_,h⟩:=bs h;cases h;rfl
      · rcases jO h with ⟨_,h⟩|⟨_,h⟩
        · obtain ⟨u,_,h⟩:=bs h;obtain ⟨v,hv,h⟩:=bs h;cases v with
          | out o=>exact (YK _ _ _ _ hv).elim
          | go d=>
           replace h:=gi h;rcases jO h with ⟨_,h⟩|⟨_,h⟩
           · obtain ⟨a,_,h⟩:=bs h;cases h
           · cases h
        · cases h
  · cases h
theorem aaG (hg:Des g):De (uh fu g f):=by
 intro S x ln x' S' n h hx;unfold uh at h;rcases jO h with ⟨_,h⟩|⟨_,h⟩
 · cases h;exact hx
 · obtain ⟨v,hv,h⟩:=bs h;cases v with
   | out o=>cases h;rw [aeA hv];exact hx
   | go s=>
    obtain ⟨a1,a2,a3,a4,a5,a6,a7,a8,a9,a10⟩:=s;replace h:=gi h;simp only [pl] at h;obtain ⟨⟨l',S1⟩,h1,h⟩:=bs h;rw [pl] at h;cases h;cases n with
    | zero=>exact hx.elim
    | succ n=>
     have k:=hg _ _ _ _ _ n h1 hx.2;exact ⟨⟨by rw [show (jB.a _)=l' from rfl,k.2];exact hx.1.1,hx.1.2.1,hx.1.2.2.1,by rw [show (jB.a _)=l' from rfl,k.2];exact hx.1.2.2.2⟩,k.1⟩
theorem JB (hf:De f){ln:Int}{n:Nat}:∀ (l:List jB)(k:Nat)(out:List jB)(a1:List kg)(a2 a3 a4:Int)(a5:List kT)(a6:List (List iA))(a7:List jU)(a8:List Int)(v:Ld (List jB × List kg × Int × Int × Int × List kT × List (List iA) × List jU × List Int) (List jB × fV)),
  nR fu g f ln l k out a1 a2 a3 a4 a5 a6 a7 a8=some v->(∀ y ∈ l,Ca n y)->(∀ y ∈ out,Ca n y)->∃ o r,v=.go (o,r)/\(∀ y ∈ o,Ca n y)/\o.length=out.length+l.length
 | [],_,out,_,_,_,_,_,_,_,_,v,h,_,ho=>by cases h;exact ⟨_,_,rfl,ho,rfl⟩
 | u :: r,k,out,_,_,_,_,_,_,_,_,v,h,hl,ho=>by rw [nR] at h;obtain ⟨⟨x,S1⟩,h1,h⟩:=bs h;rw [pl] at h;obtain ⟨w,hw,h⟩:=bs h;obtain ⟨_,rfl⟩:=wm hw;obtain ⟨o,q,rfl,h2,h3⟩:=JB hf r _ _ _ _ _ _ _ _ _ _ v h (fun y hy=>hl y (.tail _ hy)) (oF ho (hf _ _ _ _ _ n h1 (hl u (.head _))));exact ⟨o,q,rfl,h2,by rw [h3,kV,uX];omega⟩
theorem XG (hf:De f):Des (rW fu g f):=by intro S l ln l' S' n h hl;unfold rW at h;obtain ⟨v,hv,h⟩:=bs h;obtain ⟨o,r,rfl,h1,h2⟩:=JB hf l _ _ _ _ _ _ _ _ _ _ v hv hl (fun y hy=>by cases hy);obtain ⟨a2,a3,a4,a5,a6,a7,a8,a9⟩:=r;replace h:=gi h;simp only [pl] at h;cases h;exact ⟨h1,by rw [h2];exact GA _⟩
end
theorem OH:∀ fu:Nat,De (zo fu)∧Des (rV fu)
 | 0=>⟨fun _ _ _ _ _ _ h=>(by cases h),fun _ _ _ _ _ _ h=>(by cases h)⟩
 | fu+1=>⟨aaG (OH fu).2,XG (OH fu).1⟩
theorem Xa {fu:Nat}{S:fV}{x:jA}{S':fV}{x':jA}(h:qQ fu S x=some (S',x')):∃ c,x'=⟨x.b,x.g,x.n,x.c,x.j,x.m,x.f,x.e,x.k,c,x.a,x.d,x.h⟩:=by
 unfold qQ at h;rcases jO h with ⟨_,h⟩|⟨_,h⟩
 · cases h;exact ⟨x.i,by cases x;rfl⟩
 · obtain ⟨⟨b,d⟩,_,h⟩:=bs h;rw [pl] at h;rcases jO h with ⟨_,h⟩|⟨_,h⟩
   · obtain ⟨_,_,h⟩:=bs h;cases h;exact ⟨_,rfl⟩
   · obtain ⟨_,_,h⟩:=bs h;rcases jO h with ⟨_,h⟩|⟨_,h⟩
     · obtain ⟨_,_,h⟩:=bs h;cases h;exact ⟨_,rfl⟩
     · cases h;exact ⟨_,rfl⟩
section
variable {fu:Nat}{f:fV->List jA->Option (List jA × fV)}{g:fV->jA->Option (jA × fV)}
def Db (f:fV->List jA->Option (List jA × fV)):Prop:=∀ S l l' S' n,f S l=some (l',S')->(∀ y ∈ l,OU n y)->∀ y ∈ l',OU n y
def Ds (g:fV->jA->Option (jA × fV)):Prop:=∀ S x x' S' n,g S x=some (x',S')->OU n x->OU n x'/\x'.b=x.b
theorem aei {S:fV}{x:jA}{r8:List jU}{x':jA}{S':fV}(h:qZ fu f g S x r8=some (.out (x',S'))):∃ i,x'=⟨x.b,x.g,i,x.c,x.j,x.m,x.f,x.e,x.k,x.i,x.a,x.d,x.h⟩:=by
 unfold qZ at h;rcases jO h with ⟨_,h⟩|⟨_,h⟩
 · cases h
 · rcases jO h with ⟨_,h⟩|⟨_,h⟩
   · obtain ⟨⟨c,d⟩,_,h⟩:=bs h;rw [pl] at h;rcases jO h with ⟨_,h⟩|⟨_,h⟩
     · obtain ⟨_,_,h⟩:=bs h;cases h;exact ⟨_,rfl⟩
     · obtain ⟨_,_,h⟩:=bs h;cases h
   · cases h
theorem acY {S:fV}{x:jA}{r8:List jU}{x':jA}{S':fV}(h:oN fu f g S x r8=some (.out (x',S'))):∃ i v,x'=⟨x.b,x.g,i,x.c,x.j,x.m,v,x.e,x.k,x.i,x.a,x.d,x.h⟩:=by
 unfold oN at h;rcases jO h with ⟨_,h⟩|⟨_,h⟩
 · obtain ⟨v,hv,h⟩:=bs h;cases v with
   | out o=>
     cases h;obtain ⟨i,e⟩:=aei hv;exact ⟨i,x.f,e⟩
   | go s=>
     obtain ⟨a,b,c⟩:=s;replace h:=gi h;simp only [pl] at h;obtain ⟨⟨j,k⟩,_,h⟩:=bs h;rw [pl] at h;cases h;exact ⟨_,_,rfl⟩
 · rcases jO h with ⟨_,h⟩|⟨_,h⟩
   · rcases jO h with ⟨_,h⟩|⟨_,h⟩
     · obtain ⟨_,_,h⟩:=bs h;rcases jO h with ⟨_,h⟩|⟨_,h⟩
       · obtain ⟨_,_,h⟩:=bs h;cases h
       · cases h
     · cases h
   · cases h
theorem adM {v:Int}{S:fV}{o:jA × fV}(h:qU fu f g v S=some (.out o)):False:=by
 unfold qU at h;rcases jO h with ⟨_,h⟩|⟨_,h⟩
 · obtain ⟨_,_,h⟩:=bs h;obtain ⟨_,_,h⟩:=bs h;obtain ⟨_,_,h⟩:=bs h;obtain ⟨_,_,h⟩:=bs h;cases h
 · cases h
theorem aes (hf:Db f){h' c j:Int}{d k:ByteArray}{l:Int}{m:List jB}{p:ByteArray}{t:Int}{u:List jA}{v:List jB}{w:List jA}{S:fV}{x':jA}{S':fV}(h:qh fu f g h' c j d k l m p t u v w S=some (.out (x',S'))) :∃ i z,x'=⟨h',c,j,d,k,l,i,m,p,t,v,w,z⟩/\∀ n,(∀ y ∈ u,OU n y)->∀ y ∈ z,OU n y:=by
 unfold qh at h;rcases jO h with ⟨_,h⟩|⟨_,h⟩
 · rcases jO h with ⟨_,h⟩|⟨_,h⟩
   · obtain ⟨_,_,h⟩:=bs h;obtain ⟨⟨i,x⟩,_,h⟩:=bs h;rw [pl] at h;obtain ⟨⟨z,a⟩,hz,h⟩:=bs h;rw [pl] at h;obtain ⟨q,hq,h⟩:=bs h;cases q with
     | out o=>exact (adM hq).elim
     | go A=>
      replace h:=gi h;cases h;exact ⟨_,_,rfl,fun n hn=>hf _ _ _ _ n hz hn⟩
   · cases h
 · cases h
theorem aeL {z:fV}{x:jA}{T:List jB}{S:fV}{v:Ld (List kg × Int × Int × Int × List kT × List (List iA) × List jU × List Int × Int × Int × Int × ByteArray × ByteArray × Int × Int × List jB × ByteArray × Int × List jB × List jA × List jA) (jA × fV)}(h:q8 fu f g z x T S=some v) :∃ a1 a2 a3 a4 a5 a6 a7 a8 c2 c3 c4 c5 c6 c7 c9,v=.go (a1,a2,a3,a4,a5,a6,a7,a8,x.b,c2,c3,c4,c5,c6,c7,T,x.k,c9,x.a,x.d,x.h):=by
 unfold q8 at h;rcases jO h with ⟨_,h⟩|⟨_,h⟩
 · obtain ⟨⟨c,a⟩,ha,h⟩:=bs h;rw [pl] at h;obtain ⟨cc,rfl⟩:=Xa ha;cases h;exact ⟨_,_,_,_,_,_,_,_,_,_,_,_,_,_,_,rfl⟩
 · cases h;exact ⟨_,_,_,_,_,_,_,_,_,_,_,_,_,_,_,rfl⟩
theorem abL (hf:Db f):Ds (uj fu f g):=by
 intro S x x' S' n h hx;cases n with
 | zero=>exact hx.elim
 | succ n=>
 obtain ⟨h1,h2,h3,h4,h5⟩:=hx;unfold uj at h;rcases jO h with ⟨_,h⟩|⟨_,h⟩
 · obtain ⟨_,_,h⟩:=bs h;cases h;exact ⟨⟨h1,h2,h3,h4,h5⟩,rfl⟩
 obtain ⟨r8,_,h⟩:=bs h;obtain ⟨v,hv,h⟩:=bs h;cases v with
 | out o=>
   cases h;obtain ⟨i,v,rfl⟩:=acY hv;exact ⟨⟨h1,h2,h3,h4,h5⟩,rfl⟩
 | go s=>
   obtain ⟨a1,a2,a3,a4,a5,a6,a7,a8⟩:=s;replace h:=gi h;simp only [pl] at h;obtain ⟨⟨T,S1⟩,hT,h⟩:=bs h;have k1:=(OH fu).2 _ _ _ _ _ 5000 hT h1;rw [pl] at h;obtain ⟨v,hv,h⟩:=bs h;obtain ⟨_,_,_,_,_,_,_,_,_,_,_,_,_,_,_,rfl⟩:=aeL hv;replace h:=gi h;simp only [pl] at h;obtain ⟨⟨A,S2⟩,hA,h⟩:=bs h;have k2:=(OH fu).2 _ _ _ _ _ 5000 hA h2.2;rw [pl] at h;obtain ⟨⟨B,S3⟩,hB,h⟩:=bs h;have k3:=hf _ _ _ _ n hB h3;rw [pl] at h;obtain ⟨v,hv,h⟩:=bs h;cases v with
   | out o=>
    cases h;obtain ⟨i,z,rfl,hz⟩:=aes hf hv;exact ⟨⟨k1.1,⟨by rw [k2.2];exact h2.1,k2.1⟩,k3,hz n h4,by dsimp only;rw [k1.2,k2.2];exact h5⟩,rfl⟩
   | go s=>
    replace h:=gi h;obtain ⟨⟨E,S4⟩,hE,h⟩:=bs h;have k4:=hf _ _ _ _ n hE h4;rw [pl] at h;cases h;exact ⟨⟨k1.1,⟨by rw [k2.2];exact h2.1,k2.1⟩,k3,k4,by dsimp only;rw [k1.2,k2.2];exact h5⟩,rfl⟩
theorem Gl (hg:Ds g){n:Nat}:∀ (l:List jA)(k:Nat)(out:List jA)(a1:List kg)(a2 a3 a4:Int)(a5:List kT)(a6:List (List iA))(a7:List jU)(a8:List Int)(v:Ld (List jA × List kg × Int × Int × Int × List kT × List (List iA) × List jU × List Int) (List jA × fV)),
  lJ fu f g l k out a1 a2 a3 a4 a5 a6 a7 a8=some v->(∀ y ∈ l,OU n y)->(∀ y ∈ out,OU n y)->∃ o r,v=.go (o,r)/\∀ y ∈ o,OU n y
 | [],_,out,_,_,_,_,_,_,_,_,v,h,_,ho=>by cases h;exact ⟨_,_,rfl,ho⟩
 | u :: r,k,out,_,_,_,_,_,_,_,_,v,h,hl,ho=>by
  rw [lJ] at h;rcases jO h with ⟨_,h⟩|⟨_,h⟩
  · cases h;exact ⟨_,_,rfl,ho⟩
  obtain ⟨⟨x,S1⟩,h1,h⟩:=bs h;rw [pl] at h;obtain ⟨w,hw,h⟩:=bs h;obtain ⟨_,rfl⟩:=wm hw;exact Gl hg r _ _ _ _ _ _ _ _ _ _ v h (fun y hy=>hl y (.tail _ hy)) (oF ho (hg _ _ _ _ n h1 (hl u (.head _))).1)
theorem BS {c:Int}{d:List jU}:∀ (l:List Int)(k:Nat)(a:List (List iA))(o:List jA × fV),nS fu f g c d l k a=some (.out o)→False
 | [],_,_,_,h=>by cases h
 | e :: r,k,a,o,h=>by rw [nS] at h;obtain ⟨_,_,h⟩:=bs h;obtain ⟨_,_,h⟩:=bs h;obtain ⟨_,_,h⟩:=bs h;obtain ⟨_,_,h⟩:=bs h;exact BS r _ _ o h
theorem YF (hg:Ds g):Db (oH fu f g):=by
 intro S l l' S' n h hl;unfold oH at h;obtain ⟨v,hv,h⟩:=bs h;obtain ⟨o,r,rfl,ho⟩:=Gl hg l _ _ _ _ _ _ _ _ _ _ v hv hl (fun y hy=>by cases hy);obtain ⟨a2,a3,a4,a5,a6,a7,a8,a9⟩:=r;replace h:=gi h;simp only [pl] at h;obtain ⟨_,_,h⟩:=bs h;obtain ⟨v,hv,h⟩:=bs h;cases v with
 | out q=>exact (BS _ _ _ _ hv).elim
 | go q=>
  replace h:=gi h;obtain ⟨_,_,h⟩:=bs h;obtain ⟨_,_,h⟩:=bs h;cases h;exact ho
end
theorem EK:∀ fu:Nat,Db (qx fu)∧Ds (xG fu)
 | 0=>⟨fun _ _ _ _ _ h=>(by cases h),fun _ _ _ _ _ h=>(by cases h)⟩
 | fu+1=>⟨YF (EK fu).2,abL (EK fu).1⟩
theorem JM {fu:Nat}{f:fV->List jA->Option (List jA × fV)}{g:fV->jA->Option (jA × fV)}(hg:Ds g){n:Nat}:∀ (l:List jA)(k:Nat)(out:List jA)(a1:List kg)(a2 a3 a4:Int)(a5:List kT)(a6:List (List iA))(a7:List jU)(a8:List Int)(o:List jA)(r:List kg × Int × Int × Int × List kT × List (List iA) × List jU × List Int),
  lJ fu f g l k out a1 a2 a3 a4 a5 a6 a7 a8=some (.go (o,r))->(∀ y ∈ l,OU n y)->r.2.2.2.1=0->o.map jA.b=out.map jA.b ++ l.map jA.b
 | [],_,out,_,_,_,_,_,_,_,_,o,r,h,_,_=>by cases h;simp
 | u :: l,k,out,_,_,_,_,_,_,_,_,o,r,h,hl,e=>by
  rw [lJ] at h;rcases jO h with ⟨c,h⟩|⟨_,h⟩
  · cases h;exact absurd e c
  obtain ⟨⟨x,S1⟩,h1,h⟩:=bs h;rw [pl] at h;obtain ⟨w,hw,h⟩:=bs h;obtain ⟨_,rfl⟩:=wm hw;rw [JM hg l _ _ _ _ _ _ _ _ _ _ o r h (fun y hy=>hl y (.tail _ hy)) e,List.map_append,H9,List.map_cons,List.map_cons,List.map_nil,(hg _ _ _ _ n h1 (hl u (.head _))).2];rfl
theorem Yv {fu:Nat}{S:fV}{l l':List jA}{S':fV}{n:Nat}(h:qx fu S l=some (l',S'))(hl:∀ y ∈ l,OU n y)(e:S'.e=0):l'.map jA.b=l.map jA.b:=by
 cases fu with
 | zero=>cases h
 | succ fu=>
 replace h:oH fu (qx fu) (xG fu) S l=some (l',S'):=h;unfold oH at h;obtain ⟨v,hv,h⟩:=bs h;cases v with
 | out q=>obtain ⟨o,r,hz,_⟩:=Gl (EK fu).2 l _ _ _ _ _ _ _ _ _ _ _ hv hl (fun y hy=>by cases hy);cases hz
 | go q=>
 obtain ⟨o,r⟩:=q;have k:=JM (EK fu).2 l _ _ _ _ _ _ _ _ _ _ o r hv hl;obtain ⟨a2,a3,a4,a5,a6,a7,a8,a9⟩:=r;replace h:=gi h;simp only [pl] at h;obtain ⟨_,_,h⟩:=bs h;obtain ⟨v,hv,h⟩:=bs h;cases v with
 | out q=>exact (BS _ _ _ _ hv).elim
 | go q=>
  replace h:=gi h;obtain ⟨_,_,h⟩:=bs h;obtain ⟨_,_,h⟩:=bs h;cases h;exact k e
theorem Xd {α β:Type}{f:α->β}{l l':List α}{x:α}(h:l'.map f=(l ++ [x]).map f):∃ m y,l'=m ++ [y]/\f y=f x:=by
 rw [List.map_append] at h;obtain ⟨m,n,rfl,_,h2⟩:=List.map_eq_append_iff.1 h;cases n with
 | nil=>cases h2
 | cons y n=>
  cases n with
  | nil=>exact ⟨m,y,rfl,by simpa using h2⟩
  | cons=>simp at h2
theorem Ko {fu:Nat}{m:kT}:∀ (l:List ByteArray)(k:Nat)(a1:List Int)(a2:List kg)(a3 a4 a5:Int)(a6:List kT)(a7:List (List iA))(a8:List jU)(o:kT × fV),lN fu m l k a1 a2 a3 a4 a5 a6 a7 a8=some (.out o)→False
 | [],_,_,_,_,_,_,_,_,_,_,h=>by cases h
 | e :: r,_,_,_,_,_,_,_,_,_,o,h=>by rw [lN] at h;obtain ⟨⟨_,a⟩,_,h⟩:=bs h;rw [pl] at h;exact Ko r _ _ _ _ _ _ _ _ _ o h
theorem JL {fu:Nat}{S:fV}:∀ (l:List ByteArray)(k:Nat)(a:List (List iA))(o:kT × fV),mG fu S l k a=some (.out o)→False
 | [],_,_,_,h=>by cases h
 | e :: r,_,_,o,h=>by rw [mG] at h;obtain ⟨_,_,h⟩:=bs h;obtain ⟨_,_,h⟩:=bs h;obtain ⟨_,_,h⟩:=bs h;obtain ⟨_,_,h⟩:=bs h;exact JL r _ _ o h
theorem Rx {fu:Nat}{S:fV}{x x':kT}{S':fV}(h:pI fu S x=some (x',S'))(hx:FX x):FX x':=by
 unfold pI at h;rcases jO h with ⟨_,h⟩|⟨_,h⟩
 · obtain ⟨_,_,h⟩:=bs h;cases h;exact hx
 obtain ⟨v,hv,h⟩:=bs h;cases v with
 | out o=>exact (Ko _ _ _ _ _ _ _ _ _ _ _ hv).elim
 | go s=>
   obtain ⟨a1,a2,a3,a4,a5,a6,a7,a8⟩:=s;replace h:=gi h;simp only [pl] at h;rcases jO h with ⟨_,h⟩|⟨_,h⟩
   · obtain ⟨⟨t,a⟩,ht,h⟩:=bs h;rw [pl] at h;obtain ⟨v,hv,h⟩:=bs h;cases v with
     | out o=>exact (JL _ _ _ _ hv).elim
     | go u=>
      replace h:=gi h;cases h;exact (EK fu).1 _ _ _ _ 10 ht hx
   · cases h;exact hx
def VO (R:List kg)(v:iA):Prop:=(v.b=1/\v.a=1)\/(v.b=2/\∃ r,ix R v.e=some r/\v.a=r.a.length)\/(v.b=3/\0 < v.a/\v.a<=8)
def Vr (V V':List iA):Prop:=∀ (i:Nat)(v:iA),V[i]?=some v->∃ v',V'[i]?=some v'/\v'.b=v.b/\v'.e=v.e/\v'.a=v.a/\v'.f=v.f
theorem Vr.rfl' {V:List iA}:Vr V V:=fun i v h=>⟨v,h,rfl,rfl,rfl,rfl⟩
theorem Vr.trans {V V1 V2:List iA}(h:Vr V V1)(k:Vr V1 V2):Vr V V2:=fun i v hv=>by obtain ⟨v1,h1,a1,a2,a3,a4⟩:=h i v hv;obtain ⟨v2,h2,b1,b2,b3,b4⟩:=k i v1 h1;exact ⟨v2,h2,b1.trans a1,b2.trans a2,b3.trans a3,b4.trans a4⟩
theorem Tn {V V':List iA}(h:Vr V V'){i:Int}{v:iA}(hv:ix V i=some v):∃ v',ix V' i=some v'/\v'.b=v.b/\v'.e=v.e/\v'.a=v.a/\v'.f=v.f:=by obtain ⟨k,rfl,hk⟩:=kW hv;obtain ⟨v',h1,h2⟩:=h k v hk;exact ⟨v',by unfold Go.Fw.ix;rw [lW (by omega),Ii,h1],h2⟩
inductive RX (V:List iA):jB→Prop
 | mk {e:jB} (h:e.e=1\/e.e=2\/e.e=3->∃ v,ix V e.f=some v/\v.b=e.e/\(e.e=2->0<=e.d/\e.d < v.a)) (k:∀ y ∈ e.a,RX V y):RX V e
theorem RX.mono {V V':List iA}(hv:Vr V V'){e:jB}(h:RX V e):RX V' e:=by
 induction h with
 | mk h k ih=>
  refine .mk (fun z=>?_) ih;obtain ⟨v,h1,h2,h3⟩:=h z;obtain ⟨v',a1,a2,a3,a4,a5⟩:=Tn hv h1;exact ⟨v',a1,a2.trans h2,fun z=>by rw [a4];exact h3 z⟩
inductive SW (K:List jU)(V:List iA)(Ps:List Nat)(f:Int):List jA→Nat→Nat→Prop
 | nil {a:Nat}:SW K V Ps f [] a a
 | cons {x:jA} {l:List jA} {a c d b:Nat} (id:x.n=a) (kd:K[a]?=some ⟨f,x.b,x.g⟩) (tg:∀ y ∈ x.e,RX V y) (ar:∀ y ∈ x.a,RX V y) (de:x.b=1→∃ v,ix V x.f=some v)
  (tr:x.b=8->∃ v,ix V x.f=some v/\v.b=1/\v.f=(c:Int)) (ca:x.k≠be->ix Ps x.i=some x.a.length) (ct:∀ y ∈ x.e,(x.b=3->y.e=1)/\1<=y.e/\y.e<=3)
  (bo:SW K V Ps f x.d (a+1) c) (el:SW K V Ps f x.h c d) (nx:SW K V Ps f l d b):SW K V Ps f (x :: l) a b
theorem SW.mono {K K':List jU}{V V':List iA}{Ps:List Nat}{f:Int}(hk:K <+: K')(hv:Vr V V'){l:List jA}{a b:Nat}(h:SW K V Ps f l a b):SW K' V' Ps f l a b:=by
 induction h with
 | nil=>exact .nil
 | cons id kd tg ar de tr ca ct _ _ _ ih1 ih2 ih3=>
  obtain ⟨t,rfl⟩:=hk;refine .cons id (by rw [Em (kN kd)];exact kd) (fun y hy=>(tg y hy).mono hv) (fun y hy=>(ar y hy).mono hv) (fun z=>?_) (fun z=>?_) ca ct ih1 ih2 ih3
  · obtain ⟨v,h1⟩:=de z;obtain ⟨v',h2,_⟩:=Tn hv h1;exact ⟨v',h2⟩
  · obtain ⟨v,h1,h3,h4⟩:=tr z;obtain ⟨v',h2,a1,a2,a3,a4⟩:=Tn hv h1;exact ⟨v',h2,a1.trans h3,a4.trans h4⟩
theorem SW.le {K:List jU}{V:List iA}{Ps:List Nat}{f:Int}{l:List jA}{a b:Nat}(h:SW K V Ps f l a b):a<=b:=by
 induction h with
 | nil=>exact ng _
 | cons _ _ _ _ _ _ _ _ _ _ _ h1 h2 h3=>omega
theorem SW.app {K:List jU}{V:List iA}{Ps:List Nat}{f:Int}{l m:List jA}{a b c:Nat}(h:SW K V Ps f l a b)(k:SW K V Ps f m b c):SW K V Ps f (l ++ m) a c:=by
 induction h with
 | nil=>exact k
 | cons id kd tg ar de tr ca ct bo el _ _ _ ih=>exact .cons id kd tg ar de tr ca ct bo el (ih k)
structure Up (S:fV)(V:List iA)(S':fV)(V':List iA):Prop where
 e:S.e=0
 f:S'.f=S.f
 pg:S'.a.a=S.a.a
 k:S.a.b <+: S'.a.b
 v:ix S'.a.c S.f=some V'
 vs:∀ i:Nat,(i:Int)≠S.f->S'.a.c[i]?=S.a.c[i]?
 vl:S'.a.c.length=S.a.c.length
 vr:Vr V V'
 vo:∀ x ∈ V',VO S.a.a.a x
structure Wd (S:fV)(V:List iA):Prop where
 v:ix S.a.c S.f=some V
 vo:∀ x ∈ V,VO S.a.a.a x
theorem Up.wd {S S':fV}{V V':List iA}(h:Up S V S' V'):Wd S' V':=⟨by rw [h.f];exact h.v,by rw [h.pg];exact h.vo⟩
theorem Up.rfl' {S:fV}{V:List iA}(h:Wd S V)(e:S.e=0):Up S V S V:=⟨e,rfl,rfl,O5,h.v,fun _ _=>rfl,rfl,.rfl',h.vo⟩
theorem Up.trans {S S1 S2:fV}{V V1 V2:List iA}(h:Up S V S1 V1)(k:Up S1 V1 S2 V2):Up S V S2 V2:=
 ⟨h.e,k.f.trans h.f,k.pg.trans h.pg,h.k.trans k.k,by rw [<-h.f];exact k.v,fun i hi=>(k.vs i (by rw [h.f];exact hi)).trans (h.vs i hi),k.vl.trans h.vl,h.vr.trans k.vr,by rw [<-h.pg];exact k.vo⟩
structure Mj (S S':fV):Prop where
 out:S'.a=S.a
 f:S'.f=S.f
 op:S'.b=S.b
 e:S'.e=0->S.e=0
theorem Mj.rfl' {S:fV}:Mj S S:=⟨rfl,rfl,rfl,id⟩
theorem Mj.trans {S S1 S2:fV}(h:Mj S S1)(k:Mj S1 S2):Mj S S2:=⟨k.out.trans h.out,k.f.trans h.f,k.op.trans h.op,fun z=>h.e (k.e z)⟩
theorem Mj.up {S S':fV}{V:List iA}(k:Mj S S')(h:Wd S V)(e:S'.e=0):Up S V S' V:=⟨k.e e,k.f,by rw [k.out],by rw [k.out];exact O5,by rw [k.out];exact h.v,fun i _=>by rw [k.out],by rw [k.out],.rfl',h.vo⟩
theorem Mj.wd {S S':fV}{V:List iA}(k:Mj S S')(h:Wd S V):Wd S' V:=⟨by rw [k.out,k.f];exact h.v,by rw [k.out];exact h.vo⟩
theorem wM {fu:Nat}{S S':fV}{ln e:Int}(he:e≠0)(h:mo fu S ln e=some S'):Mj S S'/\S'.e≠0:=by
 unfold mo at h;rcases jO h with ⟨c,h⟩|⟨c,h⟩
 · cases h;exact ⟨⟨rfl,rfl,rfl,fun z=>absurd z he⟩,he⟩
 · cases h;exact ⟨.rfl',c⟩
section
variable {fu:Nat}{f:fV->jB->Int->Option (jB × fV)}{g:fV->List jB->Int->Option (List jB × fV)}
def Xe (f:fV->jB->Int->Option (jB × fV)):Prop:=∀ S x ln x' S' V,f S x ln=some (x',S')->Wd S V->Mj S S'/\x'.e=x.e/\(S'.e=0->RX V x')
def Xes (g:fV->List jB->Int->Option (List jB × fV)):Prop:=∀ S l ln l' S' V,g S l ln=some (l',S')->Wd S V->Mj S S'/\l'.map jB.e=l.map jB.e/\(S'.e=0->∀ y ∈ l',RX V y)
theorem aal {x:jB}{b:Nat}:∀ (l:List ByteArray)(k:Nat)(a n:Int),nT fu g f x l k a=some (.go n)→k+l.length≤b→a < b→n < b
 | [],_,a,n,h,_,ha=>by cases h;exact ha
 | u :: r,k,a,n,h,hk,ha=>by
  rw [uX] at hk;rw [nT] at h;rcases jO h with ⟨_,h⟩|⟨_,h⟩
  · exact aal r _ _ n h (by omega) (by omega)
  · exact aal r _ _ n h (by omega) ha
theorem aep {S:fV}{x:jB}{ln:Int}{V:List iA}{d c:Int}{a1:List kg}{a2 a3 a4:Int}{a5:List kT}{a6:List (List iA)}{a7:List jU}{a8:List Int}(hw:Wd S V)(h:oO fu g f S x ln=some (.go (d,c,a1,a2,a3,a4,a5,a6,a7,a8))):Mj S ⟨⟨⟨a1,a5⟩,a6,a7⟩,a2,a8,a3,a4⟩/\(a4=0->x.e=1\/x.e=2\/x.e=3->∃ v,ix V c=some v/\v.b=x.e/\(x.e=2->0<=d/\d < v.a)):=by
 unfold oO at h;obtain ⟨v,hv,h⟩:=bs h;cases v with
 | out o=>cases h
 | go b=>
  have hb:b=true ↔ (x.e=1\/x.e=2\/x.e=3):=by
    unfold sU at hv;rcases jO hv with ⟨h1,hv⟩|⟨h1,hv⟩
    · cases hv;simp [h1]
    · rcases jO hv with ⟨h2,hv⟩|⟨h2,hv⟩
      · cases hv;simp [h2]
      · cases hv;simp [h1,h2]
  replace h:=gi h;rcases jO h with ⟨h1,h⟩|⟨h1,h⟩
  · have hop:=hb.1 h1;obtain ⟨⟨c',i⟩,_,h⟩:=bs h;replace h:=pi h;rcases jO h with ⟨_,h⟩|⟨_,h⟩
    · obtain ⟨j,_,h⟩:=bs h;cases h
    · obtain ⟨t,ht,h⟩:=bs h;rw [hw.v] at ht;cases ht;obtain ⟨m,hm,h⟩:=bs h;rcases jO h with ⟨_,h⟩|⟨hk,h⟩
      · obtain ⟨k,_,h⟩:=bs h;cases h
      · have hk:m.b=x.e:=by have e1:wr (1+x.e)=1+x.e:=mg (by omega) (by omega);rw [e1,mg (by omega) (by omega)] at hk;have:=Decidable.not_not.1 hk;omega
        rcases jO h with ⟨h2,h⟩|⟨h2,h⟩
        · obtain ⟨u,hu,h⟩:=bs h;obtain ⟨v,hv2,h⟩:=bs h;cases v with
          | out o=>cases h
          | go d'=>
           replace h:=gi h;have hlt:=aal (b:=u.a.length) _ 0 _ _ hv2 (by omega) (by omega);rcases jO h with ⟨_,h⟩|⟨h3,h⟩
           · obtain ⟨a,ha,h⟩:=bs h;cases h;obtain ⟨k1,k2⟩:=wM (by decide) ha;exact ⟨k1,fun z=>absurd z k2⟩
           · cases h;refine ⟨.rfl',fun _ _=>⟨m,hm,hk,fun _=>⟨by omega,?_⟩⟩⟩;obtain ⟨q,rfl,hq⟩:=kW hm;rcases hw.vo m (xu hq) with ⟨h5,_⟩|⟨_,r,h5,h6⟩|⟨h5,_⟩
             · omega
             · rw [hu] at h5;cases h5;rw [h6];exact hlt
             · omega
        · cases h;exact ⟨.rfl',fun _ _=>⟨m,hm,hk,fun z=>absurd z h2⟩⟩
  · cases h;exact ⟨.rfl',fun _ z=>absurd (hb.2 z) h1⟩
theorem acF {S:fV}{x:jB}{ln:Int}{V:List iA}{x':jB}{S':fV}(h:oO fu g f S x ln=some (.out (x',S'))):Mj S S'/\x'=x/\S'.e≠0:=by
 unfold oO at h;obtain ⟨v,hv,h⟩:=bs h;cases v with
 | out o=>
  unfold sU at hv;rcases jO hv with ⟨_,hv⟩|⟨_,hv⟩
  · cases hv
  · rcases jO hv with ⟨_,hv⟩|⟨_,hv⟩ <;> cases hv
 | go b=>
  replace h:=gi h;rcases jO h with ⟨_,h⟩|⟨_,h⟩
  · obtain ⟨⟨c,i⟩,_,h⟩:=bs h;replace h:=pi h;rcases jO h with ⟨_,h⟩|⟨_,h⟩
    · obtain ⟨j,hj,h⟩:=bs h;cases h;have k:=wM (by decide) hj;exact ⟨k.1,rfl,k.2⟩
    · obtain ⟨t,_,h⟩:=bs h;obtain ⟨m,_,h⟩:=bs h;rcases jO h with ⟨_,h⟩|⟨_,h⟩
      · obtain ⟨k,hk,h⟩:=bs h;cases h;have k:=wM (by decide) hk;exact ⟨k.1,rfl,k.2⟩
      · rcases jO h with ⟨_,h⟩|⟨_,h⟩
        · obtain ⟨u,_,h⟩:=bs h;obtain ⟨v,hv,h⟩:=bs h;cases v with
          | out o=>exact (YK _ _ _ _ hv).elim
          | go d=>
           replace h:=gi h;rcases jO h with ⟨_,h⟩|⟨_,h⟩
           · obtain ⟨a,_,h⟩:=bs h;cases h
           · cases h
        · cases h
  · cases h
theorem aa7 (hg:Xes g):Xe (uh fu g f):=by
 intro S x ln x' S' V h hw;unfold uh at h;rcases jO h with ⟨c,h⟩|⟨_,h⟩
 · cases h;exact ⟨.rfl',rfl,fun z=>absurd z c⟩
 · obtain ⟨v,hv,h⟩:=bs h;cases v with
   | out o=>
    cases h;obtain ⟨k1,rfl,k2⟩:=acF (V:=V) hv;exact ⟨k1,rfl,fun z=>absurd z k2⟩
   | go s=>
    obtain ⟨a1,a2,a3,a4,a5,a6,a7,a8,a9,a10⟩:=s;replace h:=gi h;simp only [pl] at h;obtain ⟨⟨l',S1⟩,h1,h⟩:=bs h;rw [pl] at h;cases h;obtain ⟨k1,k2⟩:=aep hw hv;obtain ⟨k3,k4,k5⟩:=hg _ _ _ _ _ V h1 (k1.wd hw);exact ⟨k1.trans k3,rfl,fun z=>.mk (k2 (k3.e z)) (k5 z)⟩
theorem Ku (hf:Xe f){ln:Int}{V:List iA}{S0:fV}(hw:Wd S0 V):∀ (l:List jB)(k:Nat)(out:List jB)(S:fV)(v:Ld (List jB × List kg × Int × Int × Int × List kT × List (List iA) × List jU × List Int) (List jB × fV)),Mj S0 S→
  nR fu g f ln l k out S.a.a.a S.f S.c S.e S.a.a.b S.a.c S.a.b S.b=some v->(S.e=0->∀ y ∈ out,RX V y)->∃ o a1 a2 a3 a4 a5 a6 a7 a8,v=.go (o,a1,a2,a3,a4,a5,a6,a7,a8)/\Mj S0 ⟨⟨⟨a1,a5⟩,a6,a7⟩,a2,a8,a3,a4⟩/\o.map jB.e=out.map jB.e ++ l.map jB.e/\(a4=0->∀ y ∈ o,RX V y)
 | [],_,out,S,v,hS,h,ho=>by cases h;exact ⟨_,_,_,_,_,_,_,_,_,rfl,hS,by rw [List.map_nil,FU],ho⟩
 | u :: r,k,out,S,v,hS,h,ho=>by rw [nR] at h;obtain ⟨⟨x,S1⟩,h1,h⟩:=bs h;rw [pl] at h;obtain ⟨w,hw',h⟩:=bs h;obtain ⟨_,rfl⟩:=wm hw';obtain ⟨k1,k2,k3⟩:=hf _ _ _ _ _ V h1 (hS.wd hw);obtain ⟨o,a1,a2,a3,a4,a5,a6,a7,a8,e,h2,h3,h4⟩:=Ku hf hw r _ _ S1 v (hS.trans k1) h (fun z=>oF (ho (k1.e z)) (k3 z));exact ⟨o,a1,a2,a3,a4,a5,a6,a7,a8,e,h2,by rw [h3,List.map_append,H9,List.map_cons,List.map_cons,k2];rfl,h4⟩
theorem Yd (hf:Xe f):Xes (rW fu g f):=by intro S l ln l' S' V h hw;unfold rW at h;obtain ⟨v,hv,h⟩:=bs h;obtain ⟨o,a1,a2,a3,a4,a5,a6,a7,a8,rfl,h2,h3,h4⟩:=Ku hf hw l _ _ S v .rfl' hv (fun _ y hy=>by cases hy);replace h:=gi h;simp only [pl] at h;cases h;exact ⟨h2,h3,h4⟩
end
theorem Ol:∀ fu:Nat,Xe (zo fu)∧Xes (rV fu)
 | 0=>⟨fun _ _ _ _ _ _ h=>(by cases h),fun _ _ _ _ _ _ h=>(by cases h)⟩
 | fu+1=>⟨aa7 (Ol fu).2,Yd (Ol fu).1⟩
structure SI (S:fV)(V:List iA):Prop where
 f0:0<=S.f
 vl:(S.a.c.length:Int)=S.f+1
 v:S.a.c[S.f.toNat]?=some V
 vn:V.length<=24
 op:∀ v ∈ S.b,0<=v/\v < V.length
 ol:S.b.length<=V.length
 st:S.a.b.length<=200
 rk:∀ x ∈ V,x.b=2->0<=x.e/\x.e < S.a.a.a.length
structure NI (S:fV)(V:List iA):Prop where
 cl:∀ (i:Nat)(x:iA),V[i]?=some x->(i:Int) ∉ S.b->x.d < S.a.b.length
 pr:∀ (i j:Nat)(x y:iA),i < j->V[i]?=some x->V[j]?=some y->x.c≠y.c\/((i:Int) ∉ S.b/\x.d < y.f)
structure Stp (S:fV)(V:List iA)(S':fV)(V':List iA):Prop where
 si:SI S' V'
 f:S'.f=S.f
 pg:S'.a.a=S.a.a
 vs:∀ k:Nat,(k:Int)≠S.f->S'.a.c[k]?=S.a.c[k]?
 st:S.a.b.length<=S'.a.b.length
 e:S'.e=0->S.e=0
 vle:V.length<=V'.length
 ni:S'.e=0->NI S V->NI S' V'
theorem Stp.rfl' {S:fV}{V:List iA}(h:SI S V):Stp S V S V:=⟨h,rfl,rfl,fun _ _=>rfl,ng _,id,ng _,fun _ k=>k⟩
theorem Stp.trans {S S1 S2:fV}{V V1 V2:List iA}(h:Stp S V S1 V1)(k:Stp S1 V1 S2 V2):Stp S V S2 V2:=
 ⟨k.si,k.f.trans h.f,k.pg.trans h.pg,fun x hx=>(k.vs x (by rw [h.f];exact hx)).trans (h.vs x hx),rT h.st k.st,fun z=>h.e (k.e z),rT h.vle k.vle,fun z n=>k.ni z (h.ni (k.e z) n)⟩
structure Ea (S S':fV):Prop where
 out:S'.a=S.a
 f:S'.f=S.f
 op:S'.b=S.b
 e:S'.e=0->S.e=0
theorem Ea.rfl' {S:fV}:Ea S S:=⟨rfl,rfl,rfl,id⟩
theorem Ea.trans {S S1 S2:fV}(h:Ea S S1)(k:Ea S1 S2):Ea S S2:=⟨k.out.trans h.out,k.f.trans h.f,k.op.trans h.op,fun z=>h.e (k.e z)⟩
theorem Ea.si {S S':fV}{V:List iA}(k:Ea S S')(h:SI S V):SI S' V:=
 ⟨by rw [k.f];exact h.f0,by rw [k.out,k.f];exact h.vl,by rw [k.out,k.f];exact h.v,h.vn,by rw [k.op];exact h.op,by rw [k.op];exact h.ol,by rw [k.out];exact h.st,by rw [k.out];exact h.rk⟩
theorem Ea.Zt {S S':fV}{V:List iA}(k:Ea S S')(h:SI S V):Stp S V S' V:=
 ⟨k.si h,k.f,by rw [k.out],fun x _=>by rw [k.out],by rw [k.out];exact ng _,k.e,ng _,fun _ n=>⟨fun i x hi ho=>by rw [k.out];rw [k.op] at ho;exact n.cl i x hi ho,fun i j x y hij hi hj=>by rw [k.op];exact n.pr i j x y hij hi hj⟩⟩
theorem wP {fu:Nat}{S:fV}{ln e:Int}(he:e≠0):kP (mo fu S ln e) (fun S'=>Ea S S'/\S'.e≠0):=by unfold mo;exact .ite (fun c=>.mk ⟨⟨rfl,rfl,rfl,fun z=>absurd z he⟩,he⟩) fun c=>.mk ⟨.rfl',c⟩
theorem Je {fu:Nat}{n:ByteArray}:∀ (l:List kg)(k:Nat),kP (qL fu n l k) (pV (fun _=>True) (fun r=>jy r fun v b=>(k:Int)≤v∧v < k+l.length))
 | [],_=>.go kI
 | u :: r,k=>by
  rw [qL,uX];refine .ite (fun _=>.out ⟨vG _,by omega⟩) fun _=>(Je r (k+1)).imp fun v hv=>?_;obtain v | v:=v
  · trivial
  · obtain ⟨a,b⟩:=v;exact ⟨by have:=hv.1;omega,by have:=hv.2;omega⟩
theorem WX {fu:Nat}{S:fV}{n:ByteArray}:kP (yZ fu S n) (fun r=>jy r fun v b=>b=true->0<=v/\v < S.a.a.a.length):=by unfold yZ;refine .el (Je _ 0) (fun _ _=>.mk fun z=>(by cases z)) fun o ho=>.mk ?_;obtain ⟨a,b⟩:=o;exact fun _=>⟨by have:=ho.1;omega,by have:=ho.2;omega⟩
theorem MJ {fu:Nat}{n:ByteArray}:∀ (l:List kT)(k:Nat),kP (sM fu n l k) (pV (fun _=>True) (fun r=>jy r fun v b=>(k:Int)≤v∧v < k+l.length))
 | [],_=>.go kI
 | u :: r,k=>by
  rw [sM,uX];refine .ite (fun _=>.out ⟨vG _,by omega⟩) fun _=>(MJ r (k+1)).imp fun v hv=>?_;obtain v | v:=v
  · trivial
  · obtain ⟨a,b⟩:=v;exact ⟨by have:=hv.1;omega,by have:=hv.2;omega⟩
theorem abu {fu:Nat}{s:jY}{n:ByteArray}:kP (BM fu s n) (fun r=>jy r fun v b=>b=true->0<=v/\v < s.a.b.length):=by unfold BM;refine .el (MJ _ 0) (fun _ _=>.mk fun z=>(by cases z)) fun o ho=>.mk ?_;obtain ⟨a,b⟩:=o;exact fun _=>⟨by have:=ho.1;omega,by have:=ho.2;omega⟩
theorem SI.ix {S:fV}{V:List iA}(h:SI S V):kP (ix S.a.c S.f) (fun r=>r=V):=by have h1:=h.vl;have h2:=h.f0;refine (kP.ix h2 (by omega)).imp fun v hv=>?_;rw [h.v] at hv;exact (JY hv).symm
theorem Jc {fu:Nat}{S:fV}{V:List iA}(h:SI S V){n:ByteArray}:∀ (l:List Int)(k:Nat),(∀ v ∈ l,v ∈ S.b)→kP (qJ fu S n l k) (pV (fun _=>∀ v ∈ l,∀ x,V[v.toNat]?=some x→x.c≠n) (fun r=>jy r fun v b=>b=true∧v ∈ S.b∧∃ x,V[v.toNat]?=some x∧x.c=n))
 | [],_,_=>.go fun v hv=>(by cases hv)
 | u :: r,k,hl=>by
  rw [qJ];have hu:=h.op u (hl u (.head _));refine .bd h.ix fun e he=>?_;subst he;refine .bd (.ix hu.1 hu.2) fun x hx=>.ite (fun c=>.out ⟨rfl,hl u (.head _),x,hx,c⟩) fun c=>(Jc h r (k+1) fun v hv=>hl v (.tail _ hv)).imp fun v hv=>?_;obtain v | v:=v
  · intro w hw y hy;rcases qg.1 hw with rfl | hw
    · rw [hx] at hy;obtain rfl:=JY hy;exact c
    · exact hv w hw y hy
  · exact hv
theorem Qr {fu:Nat}{S:fV}{V:List iA}(h:SI S V){n:ByteArray}:kP (vZ fu S n) (fun r=>jy r fun v b=>(b=true->v ∈ S.b/\∃ x,V[v.toNat]?=some x/\x.c=n)/\(b=false->∀ v ∈ S.b,∀ x,V[v.toNat]?=some x->x.c≠n)):=by unfold vZ;refine .el (Jc h S.b 0 fun v hv=>hv) (fun _ hs=>.mk ⟨fun z=>(by cases z),fun _=>hs⟩) fun o ho=>.mk ?_;obtain ⟨a,b⟩:=o;obtain ⟨rfl,h1,h2⟩:=ho;exact ⟨fun _=>⟨h1,h2⟩,fun z=>(by cases z)⟩
theorem IY {fu:Nat}{S:fV}{V:List iA}(h:SI S V){ln:Int}{x:iA}(hx:x.b=2->0<=x.e/\x.e < S.a.a.a.length)(hf:S.a.b.length<=x.f) :kP (oL fu S ln x) (fun r=>jy r fun v S'=>∃ V',Stp S V S' V'/\(∃ ext,S'.b=S.b ++ ext)/\(S'.e=0->V'=V ++ [x]/\v=V.length/\S'.b=S.b ++ [(V.length:Int)])):=by
 unfold oL;refine .bp (Qr h) fun v b hv=>.bd h.ix fun e he=>?_;subst he;have same:∀ S',Ea S S'->S'.e≠0->∃ V',Stp S e S' V'/\(∃ ext,S'.b=S.b ++ ext)/\(S'.e=0->V'=e ++ [x]/\(0:Int)=e.length/\S'.b=S.b ++ [(e.length:Int)]):=fun S' k z=>⟨e,k.Zt h,⟨[],by rw [k.op,FU]⟩,fun y=>absurd y z⟩;refine .ite (fun c=>.mk (same S .rfl' c)) fun c=>?_;have c:S.e=0:=by omega
 refine .ite (fun d=>.bd (wP (by decide)) fun S' k=>.mk (same S' k.1 k.2)) fun d=>?_;refine .ite (fun d2=>.bd (wP (by decide)) fun S' k=>.mk (same S' k.1 k.2)) fun d2=>?_;have a1:=h.vn;have a2:=h.ol;have a3:=h.f0;have a4:=h.vl;refine .bd (.app (by simp only [uX,zh];omega)) fun r hr=>?_;refine .bd (.app (by simp only [uX,zh];omega)) fun o ho=>?_;refine .bd (.st (by omega)) fun vs hvs=>.mk ?_;subst hr ho hvs;have hb:b=false:=by cases b <;> simp_all
 refine ⟨e ++ [x],⟨⟨h.f0,by simp only [yK];exact h.vl,?_,by rw [kV];omega,?_,by rw [kV,kV];omega,h.st,oF h.rk hx⟩,rfl,rfl,fun k hk=>?_,ng _,fun _=>c,by rw [kV];omega,fun _ n=>⟨fun i y hi ho=>?_,fun i j y z hij hi hj=>?_⟩⟩,⟨[_],rfl⟩,fun _=>⟨rfl,rfl,rfl⟩⟩
 · show (S.a.c.set S.f.toNat (e ++ [x]))[S.f.toNat]?=_;rw [Dw (by omega)]
 · refine oF (fun v hv=>?_) ?_
   · have:=h.op v hv;rw [kV];omega
   · rw [kV];omega
 · show (S.a.c.set S.f.toNat (e ++ [x]))[k]?=_;rw [Cz (by omega)]
 · dsimp only at ho ⊢;rw [qN,not_or] at ho;have hi2:i < e.length:=by have:=kN hi;rw [kV] at this;have h3:i≠e.length:=fun z=>ho.2 (by rw [z];exact .head _);omega
   rw [Em hi2] at hi;exact n.cl i y hi ho.1
 · dsimp only;have hi2:i < e.length:=by have:=kN hj;rw [kV] at this;omega
   rw [Em hi2] at hi;have hne:(i:Int) ∉ S.b->(i:Int) ∉ S.b ++ [(e.length:Int)]:=fun z y=>by
     rcases qN.1 y with y | y
     · exact z y
     · simp only [qg,Cm,or_false] at y;omega
   by_cases hj2:j < e.length
   · rw [Em hj2] at hj;rcases n.pr i j y z hij hi hj with k | k
     · exact .inl k
     · exact .inr ⟨hne k.1,k.2⟩
   · have:j=e.length:=by have:=kN hj;rw [kV] at this;omega
     subst this;rw [Gw (ng _),Nat.sub_self] at hj;obtain rfl:=JY hj;by_cases ho:(i:Int) ∈ S.b
     · exact .inl (hv.2 hb _ ho y hi)
     · exact .inr ⟨hne ho,by have:=n.cl i y hi ho;omega⟩
def YC (f:fV->jB->Int->Option (jB × fV))(fu:Nat):Prop:=∀ S V x ln n,SI S V->Ca n x->2 * n<=fu->kP (f S x ln) (fun r=>jy r fun _ S'=>Ea S S')
def Xt (f:fV->List jB->Int->Option (List jB × fV))(fu:Nat):Prop:=∀ S V l ln n,SI S V->(∀ y ∈ l,Ca n y)->l.length<=5000->2 * n+1<=fu->kP (f S l ln) (fun r=>jy r fun l' S'=>Ea S S'/\l'.length=l.length)
section
variable {fu:Nat}{f:fV->jB->Int->Option (jB × fV)}{g:fV->List jB->Int->Option (List jB × fV)}
theorem II {x:jB}{O:jB × fV→Prop}:∀ (l:List ByteArray)(k:Nat)(n:Int),kP (nT fu g f x l k n) (pV (fun _=>True) O)
 | [],_,_=>.go kI
 | u :: r,k,n=>by rw [nT];exact .ite (fun _=>II r (k+1) _) fun _=>II r (k+1) n
theorem ZO (hg:Xt g fu):YC (uh fu g f) (fu+1):=by
 intro S V x ln n h hx hn;cases n with
 | zero=>exact hx.elim
 | succ n=>
 unfold uh;refine .ite (fun c=>.mk .rfl') fun c=>?_;have hJ:kP (oO fu g f S x ln) (pV (fun r=>jy r fun _ r=>jy r fun _ r=>jy r fun a r=>jy r fun b r=>jy r fun c r=>jy r fun d r=>jy r fun e r=>jy r fun f r=>jy r fun g h=>Ea S ⟨⟨⟨a,e⟩,f,g⟩,b,h,c,d⟩) (fun r=>jy r fun _ S'=>Ea S S')):=by
  unfold oO;have hJ1:kP (sU fu g f x) (pV (fun b=>b=true->x.e=1\/x.e=2\/x.e=3) (fun _=>False)):=by unfold sU;refine .ite (fun c=>.go fun _=>.inl c) fun _=>.ite (fun c=>.go fun _=>.inr (.inl c)) fun _=>.go fun z=>.inr (.inr (Ed z))
  refine .el hJ1 (fun b hb=>?_) fun _ z=>z.elim;refine .ite (fun c=>?_) fun c=>.go .rfl';refine .bp (Qr h) fun v is hv=>.ite (fun d=>?_) fun d=>?_
  · exact .bd (wP (by decide)) fun S' k=>.out k.1
  have hv:=hv.1 (by simpa using d);refine .bd h.ix fun e he=>?_;subst he;have ho:=h.op v hv.1;refine .bd (.ix ho.1 ho.2) fun y hy=>.ite (fun _=>?_) fun d2=>?_
  · exact .bd (wP (by decide)) fun S' k=>.out k.1
  refine .ite (fun c2=>?_) fun _=>.go .rfl';have hk:y.b=2:=by rw [c2,show wr ((1:Int)+2)=3 from mg (by omega) (by omega),show wr ((3:Int) - 1)=2 from mg (by omega) (by omega)] at d2;omega
  have hr:=h.rk y (xu hy) hk;refine .bd (.ix hr.1 hr.2) fun rc _=>.Fa (II _ 0 _) fun m _=>?_;exact .ite (fun _=>.bd (wP (by decide)) fun S' k=>.go k.1) fun _=>.go .rfl'
 refine .eo hJ fun s hs=>?_;refine .pp hs fun a1 r hs=>.pp hs fun a2 r hs=>.pp hs fun a3 r hs=>.pp hs fun a4 r hs=>.pp hs fun a5 r hs=>.pp hs fun a6 r hs=>.pp hs fun a7 r hs=>.pp hs fun a8 r hs=>.pp hs fun a9 a10 hs=>?_;exact .bp (hg _ V _ ln n (hs.si h) hx.2 hx.1.1 (by omega)) fun l' S' k=>.mk (hs.trans k.1)
theorem JV (hf:YC f fu){V:List iA}{ln:Int}{n:Nat}(hn:2 * n≤fu){S0:fV}(h:SI S0 V){O:List jB × fV→Prop}:∀ (l:List jB)(k:Nat)(out:List jB)(S:fV),Ea S0 S→(∀ y ∈ l,Ca n y)→out.length+l.length≤5000→
  kP (nR fu g f ln l k out S.a.a.a S.f S.c S.e S.a.a.b S.a.c S.a.b S.b) (pV (fun r=>jy r fun o r=>jy r fun a r=>jy r fun b r=>jy r fun c r=>jy r fun d r=>jy r fun e r=>jy r fun f r=>jy r fun g h=>Ea S0 ⟨⟨⟨a,e⟩,f,g⟩,b,h,c,d⟩/\o.length=out.length+l.length) O)
 | [],_,out,S,hS,_,_=>.go ⟨hS,rfl⟩
 | u :: r,k,out,S,hS,hl,hlen=>by
  rw [nR];rw [uX] at hlen;refine .bp (hf _ V u ln n (hS.si h) (hl u (.head _)) hn) fun x S1 k1=>?_;refine .bd (.app (by simp only [uX,zh];omega)) fun o ho=>?_;subst ho;refine (JV hf hn h (O:=O) r (k+1) _ S1 (hS.trans k1) (fun y hy=>hl y (.tail _ hy)) (by rw [kV];omega)).imp fun v hv=>?_;obtain v | v:=v
  · obtain ⟨a1,a2,a3,a4,a5,a6,a7,a8,a9⟩:=v;exact ⟨hv.1,by rw [hv.2,kV,uX];omega⟩
  · exact hv
theorem Yh (hf:YC f fu):Xt (rW fu g f) (fu+1):=by intro S V l ln n h hl hlen hn;unfold rW;refine .el (JV (O:=fun _=>False) hf (by omega) h l 0 [] S .rfl' hl (by simp only [zh];omega)) (fun s hs=>?_) fun _ z=>z.elim;refine .pp hs fun a1 r hs=>.pp hs fun a2 r hs=>.pp hs fun a3 r hs=>.pp hs fun a4 r hs=>.pp hs fun a5 r hs=>.pp hs fun a6 r hs=>.pp hs fun a7 r hs=>.pp hs fun a8 a9 hs=>.mk ⟨hs.1,?_⟩;rw [hs.2,zh,GA]
end
theorem OG:∀ fu:Nat,YC (zo fu) fu∧Xt (rV fu) fu
 | 0=>by
  refine ⟨fun S V x ln n h hx hn=>?_,fun S V l ln n h hl hlen hn=>by omega⟩;obtain rfl:n=0:=by omega
  exact hx.elim
 | fu+1=>⟨ZO (OG fu).2,Yh (OG fu).1⟩
theorem WU {fu:Nat}{S:fV}{x:jA}:kP (qQ fu S x) (fun r=>jy r fun S' x'=>Ea S S'/\∃ c,x'=⟨x.b,x.g,x.n,x.c,x.j,x.m,x.f,x.e,x.k,c,x.a,x.d,x.h⟩):=by
 unfold qQ;have hx:x=⟨x.b,x.g,x.n,x.c,x.j,x.m,x.f,x.e,x.k,x.i,x.a,x.d,x.h⟩:=by cases x;rfl
 refine .ite (fun _=>.mk ⟨.rfl',_,hx⟩) fun _=>?_;refine .bp abu fun v b hv=>.ite (fun _=>?_) fun d=>?_
 · exact .bd (wP (by decide)) fun S' k=>.mk ⟨k.1,_,rfl⟩
 have hv:=hv (by simpa using d);refine .bd (.ix hv.1 hv.2) fun fn _=>.ite (fun _=>?_) fun _=>.mk ⟨.rfl',_,rfl⟩;exact .bd (wP (by decide)) fun S' k=>.mk ⟨k.1,_,rfl⟩
structure LJ (N:Int)(C:Nat->Prop)(V V':List iA):Prop where
 len:V'.length=V.length
 el:∀ (i:Nat)(x':iA),V'[i]?=some x'->∃ x,V[i]?=some x/\x'.c=x.c/\x'.b=x.b/\x'.e=x.e/\x'.f=x.f/\(x'.d=N\/x'.d=x.d)/\(C i->x'.d=N)/\(¬ C i->x'.d=x.d)
theorem LJ.rfl' {N:Int}{V:List iA}:LJ N (fun _=>False) V V:=⟨rfl,fun i x h=>⟨x,h,rfl,rfl,rfl,rfl,.inr rfl,fun z=>z.elim,fun _=>rfl⟩⟩
theorem LJ.trans {N:Int}{C C2:Nat->Prop}{V V1 V2:List iA}(h:LJ N C V V1)(k:LJ N C2 V1 V2):LJ N (fun i=>C i\/C2 i) V V2:=⟨k.len.trans h.len,fun i x hx=>by
 obtain ⟨y,hy,a1,a2,a3,a4,a5,a6,a7⟩:=k.el i x hx;obtain ⟨z,hz,b1,b2,b3,b4,b5,b6,b7⟩:=h.el i y hy;refine ⟨z,hz,a1.trans b1,a2.trans b2,a3.trans b3,a4.trans b4,?_,fun c=>?_,fun c=>?_⟩
 · rcases a5 with a5 | a5
   · exact .inl a5
   · rw [a5];exact b5
 · rcases c with c | c
   · rcases a5 with a5 | a5
     · exact a5
     · rw [a5];exact b6 c
   · exact a6 c
 · rw [a7 fun y=>c (.inr y)];exact b7 fun y=>c (.inl y)⟩
theorem LJ.one {N:Int}{V:List iA}{i:Nat}{x:iA}(hx:V[i]?=some x):LJ N (·=i) V (V.set i ⟨x.c,x.b,x.e,x.a,x.g,x.f,N⟩):=⟨yK,fun j y hy=>by
 by_cases c:j=i
 · subst c;rw [Dw (kN hx)] at hy;obtain rfl:=JY hy;exact ⟨x,hx,rfl,rfl,rfl,rfl,.inl rfl,fun _=>rfl,fun z=>absurd rfl z⟩
 · rw [Cz (Ne.symm c)] at hy;exact ⟨y,hy,rfl,rfl,rfl,rfl,.inr rfl,fun z=>absurd z c,fun _=>rfl⟩⟩
theorem Kv {α:Type}{l:List α}{x:α}{k:Nat}(h:l[k]?=some x):l.set k x=l:=by obtain ⟨hk,rfl⟩:=List.getElem?_eq_some_iff.1 h;exact List.set_getElem_self hk
theorem TG {α:Type}{l:List α}{x:α}(h:x ∈ l):∃ i:Nat,l[i]?=some x:=by obtain ⟨i,hi,rfl⟩:=List.getElem_of_mem h;exact ⟨i,List.getElem?_eq_getElem hi⟩
theorem LJ.Zt {S:fV}{V V':List iA}{C:Nat->Prop}{op:List Int}{vs:List (List iA)}(h:SI S V)(k:LJ ((S.a.b.length:Int) - 1) C V V')(hvs:vs=S.a.c.set S.f.toNat V')(ho:∀ v ∈ op,v ∈ S.b)(hl:op.length<=S.b.length)(hC:∀ i:Nat,C i->(i:Int) ∈ S.b)(hD:S.e=0->∀ i:Nat,(i:Int) ∈ S.b->(i:Int) ∉ op->C i):Stp S V ⟨⟨S.a.a,vs,S.a.b⟩,S.f,op,S.c,S.e⟩ V':=by
 have a3:=h.f0;have a4:=h.vl;subst hvs;refine ⟨⟨h.f0,by simp only [yK];exact h.vl,?_,by rw [k.len];exact h.vn,fun v hv=>by rw [k.len];exact h.op v (ho v hv),by rw [k.len];exact rT hl h.ol,h.st,fun x hx hk=>?_⟩,rfl,rfl,fun q hq=>?_,ng _,id,by rw [k.len];exact ng _,fun he n=>⟨fun i x hi ho2=>?_,fun i j x y hij hi hj=>?_⟩⟩
 · show (S.a.c.set S.f.toNat V')[S.f.toNat]?=_;rw [Dw (by omega)]
 · obtain ⟨i,hi⟩:=TG hx;obtain ⟨y,hy,_,b1,b2,_⟩:=k.el i x hi;rw [b2];exact h.rk y (xu hy) (b1 ▸ hk)
 · show (S.a.c.set S.f.toNat V')[q]?=_;rw [Cz (by omega)]
 · obtain ⟨y,hy,_,_,_,_,b5,b6,b7⟩:=k.el i x hi;dsimp only at ho2 ⊢;by_cases c:(i:Int) ∈ S.b
   · rw [b6 (hD he i c ho2)];omega
   · rw [b7 fun z=>c (hC i z)];exact n.cl i y hy c
 · obtain ⟨x0,hx0,b1,_,_,_,_,b6,b7⟩:=k.el i x hi;obtain ⟨y0,hy0,c1,_,_,c4,_⟩:=k.el j y hj;rw [b1,c1,c4];rcases n.pr i j x0 y0 hij hx0 hy0 with m | m
   · exact .inl m
   · exact .inr ⟨fun z=>m.1 (ho _ z),by rw [b7 fun z=>m.1 (hC i z)];exact m.2⟩
def Yz (f:fV->List jA->Option (List jA × fV))(fu:Nat):Prop:=∀ S V l n,SI S V->(∀ y ∈ l,Fe 5000 n y)->l.length<=5001->2 * n+10002<=fu->kP (f S l) (fun r=>jy r fun _ S'=>∃ V',Stp S V S' V'/\S'.b=S.b)
def XQ (f:fV->jA->Option (jA × fV))(fu:Nat):Prop:=∀ S V x n,SI S V->Fe 5000 n x->2 * n+10001<=fu->kP (f S x) (fun r=>jy r fun _ S'=>∃ V',Stp S V S' V'/\∃ ext,S'.b=S.b ++ ext)
section
variable {fu:Nat}{f:fV->List jA->Option (List jA × fV)}{g:fV->jA->Option (jA × fV)}
theorem Kh (hg:XQ g fu){n:Nat}(hn:2 * n+10001≤fu){S0:fV}{V0:List iA}(h0:SI S0 V0){O:List jA × fV→Prop}:∀ (l:List jA)(k:Nat)(out:List jA)(S:fV)(V:List iA),Stp S0 V0 S V→(∃ ext,S.b=S0.b ++ ext)→(∀ y ∈ l,Fe 5000 n y)→out.length+l.length≤5001→
  kP (lJ fu f g l k out S.a.a.a S.f S.c S.e S.a.a.b S.a.c S.a.b S.b) (pV (fun r=>jy r fun o r=>jy r fun a r=>jy r fun b r=>jy r fun c r=>jy r fun d r=>jy r fun e r=>jy r fun f r=>jy r fun g h=>∃ V',Stp S0 V0 ⟨⟨⟨a,e⟩,f,g⟩,b,h,c,d⟩ V'/\∃ ext,h=S0.b ++ ext) O)
 | [],_,out,S,V,hS,he,_,_=>.go ⟨V,hS,he⟩
 | u :: r,k,out,S,V,hS,he,hl,hlen=>by rw [lJ];rw [uX] at hlen;refine .ite (fun c=>.go ⟨V,hS,he⟩) fun c=>?_;refine .bp (hg _ V u n hS.si (hl u (.head _)) hn) fun x S1 ⟨V1,k1,ext,k2⟩=>?_;refine .bd (.app (by simp only [uX,zh];omega)) fun o ho=>?_;subst ho;obtain ⟨e0,he⟩:=he;exact Kh hg hn h0 r (k+1) _ S1 V1 (hS.trans k1) ⟨e0 ++ ext,by rw [k2];dsimp only;rw [he,List.append_assoc]⟩ (fun y hy=>hl y (.tail _ hy)) (by rw [kV];omega)
theorem KV {S:fV}{V:List iA}(h:SI S V){O:List jA × fV→Prop}:∀ (l:List Int)(k:Nat)(vs:List (List iA))(V1:List iA)(C:Nat→Prop),(∀ v ∈ l,v ∈ S.b)→vs.length=S.a.c.length→vs=S.a.c.set S.f.toNat V1→LJ ((S.a.b.length:Int) - 1) C V V1→(∀ i,C i→(i:Int) ∈ S.b)→
  kP (nS fu f g S.f S.a.b l k vs) (pV (fun vs'=>∃ V',vs'=S.a.c.set S.f.toNat V'/\∃ C',LJ ((S.a.b.length:Int) - 1) C' V V'/\(∀ i,C' i->(i:Int) ∈ S.b)/\(∀ i,C i->C' i)/\∀ v ∈ l,C' v.toNat) O)
 | [],_,vs,V1,C,_,_,h1,h2,h3=>.go ⟨V1,h1,C,h2,h3,fun _ z=>z,fun v hv=>(by cases hv)⟩
 | u :: r,k,vs,V1,C,hl,hlen,h1,h2,h3=>by
  have a3:=h.f0;have a4:=h.vl;have a5:=h.st;have hu:=hl u (.head _);have hu2:=h.op u hu;rw [nS];have hg:vs[S.f.toNat]?=some V1:=by rw [h1,Dw (by omega)]
  refine .bd (.ix (by omega) (by omega)) fun e he=>?_;rw [hg] at he;obtain rfl:=JY he;refine .bd (.ix hu2.1 (by rw [h2.len];exact hu2.2)) fun x hx=>?_;refine .bd (.st (by rw [h2.len];exact hu2)) fun w hw=>?_;refine .bd (.st (by omega)) fun w2 hw2=>?_;rw [mg (by omega) (by omega)] at hw;have k1:=LJ.one (N:=(S.a.b.length:Int) - 1) hx;rw [<-hw] at k1;refine (KV h (O:=O) r (k+1) w2 w _ (fun v hv=>hl v (.tail _ hv)) (by rw [hw2,yK];exact hlen) (by rw [hw2,h1,List.set_set]) (h2.trans k1) (fun i hi=>?_)).imp fun v hv=>?_
  · rcases hi with hi | rfl
    · exact h3 i hi
    · rw [show ((u.toNat:Nat):Int)=u by omega];exact hu
  · obtain v | v:=v
    · obtain ⟨V',b1,C',b2,b3,b4,b5⟩:=hv;refine ⟨V',b1,C',b2,b3,fun i hi=>b4 i (.inl hi),fun q hq=>?_⟩;rcases qg.1 hq with rfl | hq
      · exact b4 _ (.inr rfl)
      · exact b5 q hq
    · exact hv
theorem YD (hg:XQ g fu):Yz (oH fu f g) (fu+1):=by
 intro S V l n h hl hlen hn;unfold oH;refine .el (Kh (O:=fun _=>False) hg (by omega) h l 0 [] S V (.rfl' h) ⟨[],(FU _).symm⟩ hl (by simp only [zh];omega)) (fun s hs=>?_) fun _ z=>z.elim;refine .pp hs fun o r hs=>.pp hs fun a1 r hs=>.pp hs fun a2 r hs=>.pp hs fun a3 r hs=>.pp hs fun a4 r hs=>.pp hs fun a5 r hs=>.pp hs fun a6 r hs=>.pp hs fun a7 a8 hs=>?_;obtain ⟨V1,h1,ext,rfl⟩:=hs;have b1:=h1.si.ol;have b2:=h1.si.vn;dsimp only at b1;rw [Ic] at b1;refine .bd (.sl (by rw [Ic];omega)) fun l1 hl1=>?_;have e1:l1=ext:=by rw [hl1,Ic];simp only [Ii,List.drop_left];rw [List.take_of_length_le (by omega)]
 subst e1;clear hl1;refine .el (KV h1.si (O:=fun _=>False) l1 0 a6 V1 (fun _=>False) (fun v hv=>qN.2 (.inr hv)) rfl (Kv h1.si.v).symm .rfl' (fun _ z=>z.elim)) (fun vs hvs=>?_) fun _ z=>z.elim;obtain ⟨V2,c1,C,c2,c3,_,c5⟩:=hvs;refine .bd (.sl (by rw [Ic];omega)) fun l2 hl2=>?_;have e2:l2=S.b:=by rw [hl2];simp only [Int.toNat_zero,List.drop_zero,Int.sub_zero,Ii,List.take_left]
 subst e2;refine .bd (.app (by simp only [zh];omega)) fun r hr=>.mk ?_;rw [E8] at hr;subst hr;refine ⟨V2,h1.trans (LJ.Zt h1.si c2 c1 (fun v hv=>List.mem_append.2 (.inl hv)) (by dsimp only;rw [List.length_append];omega) c3 fun _ i hi ho=>?_),rfl⟩;dsimp only at hi;rcases qN.1 hi with hi | hi
 · exact absurd hi ho
 · have:=c5 _ hi
   rwa [Ii] at this
end
end Go.Proofs.YtdkneekpdecjbaaGreat
